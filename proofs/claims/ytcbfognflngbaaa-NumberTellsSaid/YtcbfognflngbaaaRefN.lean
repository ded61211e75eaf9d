/- Contract of the reference's Parse: plain laws. -/
import Derived.Test.YtcbfognflngbaaaRefM
import Derived.Test.YtcbfognflngbaaaNumF
set_option linter.unusedVariables false
namespace Go.Proofs.Ytcbfognflngbaaa.Num
open Go.RowKit
def dgo : List UInt8 → Nat → Nat
  | [], m => m
  | c :: cs, m => dgo cs (m * 10 + (c.toNat - 48))
def alld (l : List UInt8) : Prop := ∀ c, c ∈ l → 48 ≤ c.toNat ∧ c.toNat ≤ 57
theorem dgo_ge : ∀ (l : List UInt8) (m : Nat), m ≤ dgo l m
  | [], m => Nat.le_refl _
  | c :: cs, m => by
    have := dgo_ge cs (m * 10 + (c.toNat - 48))
    unfold dgo
    omega
theorem pgo_is : ∀ (l : List UInt8) (m : Nat), (∀ k, pgo l m = some k → alld l ∧ k = dgo l m) ∧ (pgo l m = none → ¬ alld l ∨ 9223372036854775810 ≤ dgo l m)
  | [], m => ⟨fun k h => by unfold pgo at h; injection h with h; exact ⟨fun c hc => (by cases hc), h.symm⟩, fun h => by cases h⟩
  | c :: cs, m => by
    have ih := pgo_is cs (m * 10 + (c.toNat - 48))
    by_cases hc : c.toNat < 48 ∨ 57 < c.toNat ∨ 922337203685477580 < m
    · rw [pgo_stop hc]
      refine ⟨fun k h => (by cases h), fun _ => ?_⟩
      by_cases h : 922337203685477580 < m
      · right
        have := dgo_ge cs (m * 10 + (c.toNat - 48))
        unfold dgo
        omega
      · left
        intro ha
        have := ha c (List.mem_cons_self ..)
        omega
    · rw [pgo_step hc]
      refine ⟨fun k h => ?_, fun h => ?_⟩
      · obtain ⟨h1, h2⟩ := ih.1 k h
        refine ⟨fun d hd => ?_, h2⟩
        rcases List.mem_cons.1 hd with rfl | hd
        · omega
        · exact h1 d hd
      · rcases ih.2 h with h1 | h1
        · exact .inl fun ha => h1 fun d hd => ha d (List.mem_cons_of_mem _ hd)
        · exact .inr h1
theorem pend_bad {d : List UInt8} {b : Bool} (h : ¬ alld d) : pend d b = (0, false) := by
  cases hp : pgo d 0 with
  | none => exact pend_none hp
  | some k => exact absurd ((pgo_is d 0).1 k hp).1 h
theorem sgn_sg (m : Nat) (b : Bool) : sgn m b = sg b m := by cases b <;> simp [sgn, sg]
theorem pend_far {d : List UInt8} {b : Bool} (h : ¬ Fits (sg b (dgo d 0))) : pend d b = (0, false) := by
  cases hp : pgo d 0 with
  | none => exact pend_none hp
  | some k =>
    obtain ⟨h1, rfl⟩ := (pgo_is d 0).1 k hp
    rw [pend_some hp, sgn_sg, chk_no h]
    rfl
theorem pend_nil (b : Bool) : pend [] b = (0, false) := by cases b <;> rfl
theorem pend_good {d : List UInt8} {b : Bool} (ha : alld d) (hd : 0 < d.length) (h : Fits (sg b (dgo d 0))) : pend d b = (sg b (dgo d 0), true) := by
  cases hp : pgo d 0 with
  | none =>
    rcases (pgo_is d 0).2 hp with h1 | h1
    · exact absurd ha h1
    · exfalso
      revert h
      generalize dgo d 0 = m at *
      cases b <;> simp [sg, Fits] <;> omega
  | some k =>
    obtain ⟨h1, rfl⟩ := (pgo_is d 0).1 k hp
    rw [pend_some hp, sgn_sg, chk_ok h, decide_eq_true hd]
    rfl

structure XSt (w wr : World) (t : Bool) (s : Value) (X : Int) : Prop where
  low : Below w.heap.size w wr
  nx : NV wr w.heap.size t s
  x : NumIs wr (.agg #[.bool t, s]) X
section
variable {w wr w1 : World} {t : Bool} {s : Value} {X : Int}
theorem XSt.bl (h : XSt w wr t s X) (hb : Bl wr w1) : XSt w w1 t s X := ⟨h.low.trans (hb.mono (Below.size h.low)), h.nx.bl hb, h.x.bl hb⟩
theorem XSt.set (h : XSt w wr t s X) {t' : Bool} {s' : Value} {X' : Int} (hn : NumIs wr (.agg #[.bool t', s']) X') : XSt w (putNum wr w.heap.size t' s') t' s' X' :=
  ⟨below_put h.low (Nat.le_refl _), h.nx.put hn.slice, hn.put h.nx⟩
theorem XSt.drew (h : XSt w wr t s X) : XSt w wr.drew t s X := ⟨Below.drew h.low, h.nx, h.x⟩
theorem XSt.drewN (h : XSt w wr t s X) (n : Nat) : XSt w (wr.drewN n) t s X := ⟨⟨h.low.os, h.low.tape, h.low.output, h.low.size, h.low.block⟩, h.nx, h.x⟩
theorem XSt.start (w : World) : XSt w (w.alloc zNum) false nilS 0 := ⟨(Below.refl _ _).alloc (Nat.le_refl _) _, NV.new w false ⟨_, _, _, rfl⟩, num_nil _⟩
theorem XSt.facts (h : XSt w wr t s X) : wr.cell? ⟨w.heap.size, 0, none⟩ = some (.bool t) ∧ wr.cell? ⟨w.heap.size, 1, none⟩ = some s ∧ wr.frozen? ⟨w.heap.size, 0, none⟩ = false ∧ wr.frozen? ⟨w.heap.size, 1, none⟩ = false ∧ w.heap.size < wr.heap.size := h.nx.cells
end
theorem num_long {w : World} {t : Bool} {a : Option Addr} {n c : Nat} {z : Int} (h : NumIs w (.agg #[.bool t, .slice a n c]) z) : (5 < n → K5 ≤ z.natAbs) ∧ (n ≤ 5 → z.natAbs < K5) := by
  obtain ⟨l, hr, hd, hn, hz, ht⟩ := h.row
  have hl : n = l.length := by obtain ⟨_, _, h, _⟩ := hr; injection h
  have hz' := congrArg Int.natAbs hz
  rw [sg_abs] at hz'
  rw [hz', hl]
  refine ⟨fun h => norm_gt hn h, fun h => ?_⟩
  have h1 := val_lt hd
  have h2 : 65536 ^ l.length ≤ 65536 ^ 5 := Nat.pow_le_pow_right (by decide) h
  unfold K5
  omega
def PA (w : World) (r : Int × Bool) (e : Ending) (w' : World) : Prop := e = intB r.1 r.2 ∧ Bl w w'
theorem alld_drop {s : ByteArray} {f : Nat} (h : ∀ j, f ≤ j → j < s.size → 48 ≤ (s.data.toList.getD j 0).toNat ∧ (s.data.toList.getD j 0).toNat ≤ 57) : alld (s.data.toList.drop f) := by
  intro c hc
  obtain ⟨i, hi, rfl⟩ := List.getElem_of_mem hc
  have hi' : f + i < s.size := by
    have := hi
    rw [List.length_drop] at this
    have e : s.data.toList.length = s.size := len_toList s
    omega
  have h1 := h (f + i) (by omega) hi'
  rw [List.getElem_drop]
  rw [List.getD_eq_getElem?_getD, List.getElem?_eq_getElem (by have e : s.data.toList.length = s.size := len_toList s; omega)] at h1
  exact h1
theorem getD_at (s : ByteArray) (k : Nat) (h : k < s.size) : s.data.toList.getD k 0 = s[k] := by
  rw [List.getD_eq_getElem?_getD, List.getElem?_eq_getElem (by simpa using h)]; rfl
theorem not_alld {s : ByteArray} {f k : Nat} (hf : f ≤ k) (hk : k < s.size) (h : ¬ (48 ≤ s[k].toNat ∧ s[k].toNat ≤ 57)) : ¬ alld (s.data.toList.drop f) := by
  intro ha
  apply h
  apply ha
  have e := drop_at s k hk
  have : s.data.toList.drop k = (s.data.toList.drop f).drop (k - f) := by rw [List.drop_drop]; congr 1; omega
  rw [this] at e
  exact List.mem_of_mem_drop (e ▸ List.mem_cons_self ..)
end Go.Proofs.Ytcbfognflngbaaa.Num
