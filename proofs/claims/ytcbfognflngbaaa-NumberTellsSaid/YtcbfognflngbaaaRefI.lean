/- What the reference's Parts holds while it goes on; plain laws of its bits. -/
import Derived.Test.YtcbfognflngbaaaRefH
set_option linter.unusedVariables false
namespace Go.Proofs.Ytcbfognflngbaaa.Num
open Go.RowKit
theorem NumIs.row {w : World} {t : Bool} {s : Value} {z : Int} (h : NumIs w (.agg #[.bool t, s]) z) : ∃ l, Row w s l ∧ Dig l ∧ Norm l ∧ z = sg t (val l) ∧ (t = true → l ≠ []) := by
  obtain ⟨b, s1, l, h1, h2⟩ := h
  injection h1 with h1
  have e1 : b = t := by
    have := congrArg (fun a : Array Value => a[0]?) h1
    simpa using this.symm
  have e2 : s1 = s := by
    have := congrArg (fun a : Array Value => a[1]?) h1
    simpa using this.symm
  subst e1 e2
  exact ⟨l, h2⟩
theorem NumIs.slice {w : World} {t : Bool} {s : Value} {z : Int} (h : NumIs w (.agg #[.bool t, s]) z) : isSl s := by
  obtain ⟨l, hr, _⟩ := h.row; exact hr.sl
abbrev nilS : Value := .slice none 0 0

/-- Parts, on its way: the numbers in their boxes, the results, q, r, and one. -/
structure PSt (w : World) (p6 : Nat) (ba : Bool) (sa : Value) (bb : Bool) (sb s1 : Value) (wr : World) (tq : Bool) (sq : Value) (tr : Bool) (sr : Value) (Q R : Int) : Prop where
  low : Below w.heap.size w wr
  na : NV wr w.heap.size ba sa
  nb : NV wr (w.heap.size + 1) bb sb
  r1 : NV wr (w.heap.size + 2) false nilS
  r2 : NV wr (w.heap.size + 3) false nilS
  nq : NV wr (w.heap.size + 4) tq sq
  nr : NV wr (w.heap.size + 5) tr sr
  n1 : NV wr p6 false s1
  h6 : w.heap.size + 5 < p6
  q : NumIs wr (.agg #[.bool tq, sq]) Q
  r : NumIs wr (.agg #[.bool tr, sr]) R
  one : NumIs wr (.agg #[.bool false, s1]) 1
section
variable {w : World} {p6 : Nat} {ba : Bool} {sa : Value} {bb : Bool} {sb s1 : Value} {wr w1 : World} {tq : Bool} {sq : Value} {tr : Bool} {sr : Value} {Q R : Int}
theorem PSt.bl (h : PSt w p6 ba sa bb sb s1 wr tq sq tr sr Q R) (hb : Bl wr w1) : PSt w p6 ba sa bb sb s1 w1 tq sq tr sr Q R :=
  ⟨h.low.trans (hb.mono (Below.size h.low)), h.na.bl hb, h.nb.bl hb, h.r1.bl hb, h.r2.bl hb, h.nq.bl hb, h.nr.bl hb, h.n1.bl hb, h.h6, h.q.bl hb, h.r.bl hb, h.one.bl hb⟩
theorem PSt.setQ (h : PSt w p6 ba sa bb sb s1 wr tq sq tr sr Q R) {t : Bool} {s : Value} {Q' : Int} (hn : NumIs wr (.agg #[.bool t, s]) Q') : PSt w p6 ba sa bb sb s1 (putNum wr (w.heap.size + 1 + 1 + 1 + 1) t s) t s tr sr Q' R :=
  ⟨below_put h.low (by omega), h.na.other (by omega), h.nb.other (by omega), h.r1.other (by omega), h.r2.other (by omega), h.nq.put hn.slice, h.nr.other (by omega), h.n1.other (by have := h.h6; omega), h.h6, hn.put h.nq, h.r.put h.nq, h.one.put h.nq⟩
theorem PSt.setR (h : PSt w p6 ba sa bb sb s1 wr tq sq tr sr Q R) {t : Bool} {s : Value} {R' : Int} (hn : NumIs wr (.agg #[.bool t, s]) R') : PSt w p6 ba sa bb sb s1 (putNum wr (w.heap.size + 1 + 1 + 1 + 1 + 1) t s) tq sq t s Q R' :=
  ⟨below_put h.low (by omega), h.na.other (by omega), h.nb.other (by omega), h.r1.other (by omega), h.r2.other (by omega), h.nq.other (by omega), h.nr.put hn.slice, h.n1.other (by have := h.h6; omega), h.h6, h.q.put h.nr, hn.put h.nr, h.one.put h.nr⟩
/-- What the walk is told: the cells. -/
theorem PSt.facts (h : PSt w p6 ba sa bb sb s1 wr tq sq tr sr Q R) :
    (wr.cell? ⟨w.heap.size, 0, none⟩ = some (.bool ba) ∧ wr.cell? ⟨w.heap.size, 1, none⟩ = some sa) ∧ (wr.cell? ⟨w.heap.size + 1, 0, none⟩ = some (.bool bb) ∧ wr.cell? ⟨w.heap.size + 1, 1, none⟩ = some sb) ∧
    (wr.cell? ⟨w.heap.size + 1 + 1 + 1 + 1, 0, none⟩ = some (.bool tq) ∧ wr.cell? ⟨w.heap.size + 1 + 1 + 1 + 1, 1, none⟩ = some sq ∧ wr.frozen? ⟨w.heap.size + 1 + 1 + 1 + 1, 0, none⟩ = false ∧ wr.frozen? ⟨w.heap.size + 1 + 1 + 1 + 1, 1, none⟩ = false) ∧
    (wr.cell? ⟨w.heap.size + 1 + 1 + 1 + 1 + 1, 0, none⟩ = some (.bool tr) ∧ wr.cell? ⟨w.heap.size + 1 + 1 + 1 + 1 + 1, 1, none⟩ = some sr ∧ wr.frozen? ⟨w.heap.size + 1 + 1 + 1 + 1 + 1, 0, none⟩ = false ∧ wr.frozen? ⟨w.heap.size + 1 + 1 + 1 + 1 + 1, 1, none⟩ = false) ∧
    (wr.cell? ⟨p6, 0, none⟩ = some (.bool false) ∧ wr.cell? ⟨p6, 1, none⟩ = some s1) ∧ w.heap.size + 5 < p6 ∧ p6 < wr.heap.size :=
  ⟨⟨h.na.cells.1, h.na.cells.2.1⟩, ⟨h.nb.cells.1, h.nb.cells.2.1⟩, ⟨h.nq.cells.1, h.nq.cells.2.1, h.nq.cells.2.2.1, h.nq.cells.2.2.2.1⟩, ⟨h.nr.cells.1, h.nr.cells.2.1, h.nr.cells.2.2.1, h.nr.cells.2.2.2.1⟩, ⟨h.n1.cells.1, h.n1.cells.2.1⟩, h.h6, h.n1.lt⟩
end

/-! bits -/
theorem bit_at {l : List Nat} (hd : Dig l) (i : Nat) : val l / 2 ^ i % 2 = l.getD (i / 16) 0 / 2 ^ (i % 16) % 2 := by
  have h1 := val_parts l (i / 16)
  have h2 : val (l.take (i / 16)) < 65536 ^ (i / 16) := Nat.lt_of_lt_of_le (val_lt (hd.take _)) (Nat.pow_le_pow_right (by decide) (by simp; omega))
  have h3 := val_drop l (i / 16)
  have e1 : (2 : Nat) ^ i = 65536 ^ (i / 16) * 2 ^ (i % 16) := by
    rw [show (65536 : Nat) = 2 ^ 16 from rfl, ← Nat.pow_mul, ← Nat.pow_add]; congr 1; omega
  rw [e1, ← Nat.div_div_eq_div_mul]
  have e2 : val l / 65536 ^ (i / 16) = val (l.drop (i / 16)) := by
    rw [h1, Nat.add_mul_div_left _ _ (Nat.pow_pos (by decide)), Nat.div_eq_of_lt h2, Nat.zero_add]
  rw [e2, h3]
  -- the digits above are even, however far they are shifted
  have h4 : (2 : Nat) ^ 16 = 65536 := rfl
  have e3 : (65536 : Nat) = 2 ^ (i % 16) * (2 * 2 ^ (15 - i % 16)) := by
    rw [← h4, ← Nat.pow_succ', ← Nat.pow_add]; congr 1; omega
  rw [e3, Nat.mul_assoc, Nat.add_mul_div_left _ _ (Nat.pow_pos (by decide)), Nat.mul_assoc, Nat.add_mul_mod_self_left]
theorem bit_step (a t : Nat) : a / 2 ^ t = 2 * (a / 2 ^ (t + 1)) + a / 2 ^ t % 2 := by
  rw [Nat.pow_succ, ← Nat.div_div_eq_div_mul]
  omega
theorem parts_step {a b t Q R : Nat} (h : a / 2 ^ (t + 1) = Q * b + R) : a / 2 ^ t = (Q + Q) * b + (R + R + a / 2 ^ t % 2) := by
  have := bit_step a t
  rw [h] at this
  rw [Nat.add_mul]
  omega
theorem parts_step1 {a b t Q R : Nat} (h : a / 2 ^ t = Q * b + R) (hle : b ≤ R) : a / 2 ^ t = (Q + 1) * b + (R - b) := by
  rw [h, Nat.add_mul]
  omega
theorem parts_start {a n : Nat} (b : Nat) (h : a < 65536 ^ n) : a / 2 ^ (16 * n) = 0 * b + 0 := by
  have : (65536 : Nat) ^ n = 2 ^ (16 * n) := by rw [Nat.pow_mul]
  rw [← this, Nat.div_eq_of_lt h]; omega
/-- The signs. -/
theorem parts_end {a b Q R : Nat} (h : a = Q * b + R) (hR : R < b) (ba bb : Bool) :
    let q : Int := if ba = bb then Q else -(Q : Int)
    let r : Int := if ba = true then -(R : Int) else R
    (R = 0 ∨ ba = bb → (sg ba a).fdiv (sg bb b) = q ∧ (sg ba a).fmod (sg bb b) = r) ∧ (R ≠ 0 → ba ≠ bb → (sg ba a).fdiv (sg bb b) = q + -1 ∧ (sg ba a).fmod (sg bb b) = r + sg bb b) := by
  have hc : (a : Int) = (b : Int) * Q + R := by rw [h]; push_cast; rw [Int.mul_comm]
  cases ba <;> cases bb <;> simp only [sg, if_true, if_false, Bool.false_eq_true, Bool.true_eq_false, ne_eq, not_true_eq_false, not_false_eq_true, forall_const, or_false, or_true, false_implies, implies_true, and_true]
  · exact floor_pos (by omega) (by omega) (by omega) (by omega)
  · refine ⟨fun h0 => floor_neg (by omega) (by rw [Int.neg_mul_neg]; omega) (by omega) (by omega), fun h0 => floor_neg (by omega) ?_ (by omega) (by omega)⟩
    rw [Int.mul_add, Int.neg_mul_neg]; omega
  · refine ⟨fun h0 => floor_pos (by omega) (by rw [Int.mul_neg]; omega) (by omega) (by omega), fun h0 => floor_pos (by omega) ?_ (by omega) (by omega)⟩
    rw [Int.mul_add, Int.mul_neg]; omega
  · exact floor_neg (by omega) (by rw [Int.neg_mul]; omega) (by omega) (by omega)
end Go.Proofs.Ytcbfognflngbaaa.Num
