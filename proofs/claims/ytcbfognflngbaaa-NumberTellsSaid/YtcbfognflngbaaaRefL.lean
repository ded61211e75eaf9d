/- What the reference's Mul holds while it goes on; its plain laws. -/
import Derived.Test.YtcbfognflngbaaaRefG
set_option linter.unusedVariables false
namespace Go.Proofs.Ytcbfognflngbaaa.Num
open Go.RowKit
theorem val_set {l : List Nat} {j d : Nat} (h : j < l.length) : val (l.set j d) + 65536 ^ j * l.getD j 0 = val l + 65536 ^ j * d := by
  induction l generalizing j with
  | nil => cases h
  | cons x l ih =>
    cases j with
    | zero => simp [val]; omega
    | succ j =>
      have := ih (j := j) (by simpa using h)
      rw [List.set_cons_succ, val, val, List.getD_cons_succ, Nat.pow_succ]
      have e : ∀ y : Nat, 65536 ^ j * 65536 * y = 65536 * (65536 ^ j * y) := fun y => by rw [Nat.mul_comm (65536 ^ j) 65536, Nat.mul_assoc]
      rw [e, e]
      omega
theorem Dig.set {l : List Nat} (h : Dig l) (j : Nat) {d : Nat} (hd : d < 65536) : Dig (l.set j d) := by
  intro x hx
  rcases List.mem_or_eq_of_mem_set hx with h1 | h1
  · exact h x h1
  · omega
/-- The inner loop: place k of the i-th row. -/
def MIs (o0 lb : List Nat) (i ai : Nat) (o : List Nat) (k c : Nat) : Prop :=
  o.length = o0.length ∧ Dig o ∧ c < 65536 ∧ val o + 65536 ^ (i + k) * c = val o0 + 65536 ^ i * (ai * val (lb.take k)) ∧ ∀ j, i + k ≤ j → o.getD j 0 = o0.getD j 0
theorem MIs.start {o0 lb : List Nat} {i ai : Nat} (hd : Dig o0) : MIs o0 lb i ai o0 0 0 := ⟨rfl, hd, by omega, by simp [val], fun _ _ => rfl⟩
theorem MIs.step {o0 lb o : List Nat} {i ai k c : Nat} (h : MIs o0 lb i ai o k c) (ha : ai < 65536) (db : Dig lb) (hk : i + k < o0.length) :
    MIs o0 lb i ai (o.set (i + k) ((o.getD (i + k) 0 + ai * lb.getD k 0 + c) % 65536)) (k + 1) ((o.getD (i + k) 0 + ai * lb.getD k 0 + c) / 65536) := by
  obtain ⟨h1, h2, h3, h4, h5⟩ := h
  have g1 := h2.getD (i + k)
  have g2 := db.getD k
  have g3 : ai * lb.getD k 0 ≤ 65535 * 65535 := Nat.mul_le_mul (by omega) (by omega)
  refine ⟨by simp [h1], h2.set _ (Nat.mod_lt _ (by decide)), by omega, ?_, fun j hj => ?_⟩
  · have e1 := val_set (l := o) (j := i + k) (d := (o.getD (i + k) 0 + ai * lb.getD k 0 + c) % 65536) (by omega)
    have e2 := Nat.div_add_mod (o.getD (i + k) 0 + ai * lb.getD k 0 + c) 65536
    rw [val_take_succ, Nat.mul_add, Nat.mul_add]
    have e3 : 65536 ^ i * (ai * (65536 ^ k * lb.getD k 0)) = 65536 ^ (i + k) * (ai * lb.getD k 0) := by
      rw [Nat.pow_add, Nat.mul_left_comm ai, Nat.mul_assoc]
    rw [e3, show i + (k + 1) = (i + k) + 1 from rfl, Nat.pow_succ, Nat.mul_assoc]
    generalize 65536 ^ (i + k) = E at *
    generalize o.getD (i + k) 0 = x at *
    generalize ai * lb.getD k 0 = y at *
    generalize (x + y + c) / 65536 = q at *
    generalize (x + y + c) % 65536 = r at *
    have e4 : E * r + E * (65536 * q) = E * x + E * y + E * c := by rw [← Nat.mul_add, ← Nat.mul_add, ← Nat.mul_add]; congr 1; omega
    omega
  · have h6 := h5 j (by omega)
    rw [← h6, List.getD_eq_getElem?_getD, List.getD_eq_getElem?_getD, List.getElem?_set_ne (by omega)]
    try exact (List.getD_eq_getElem?_getD ..).symm
/-- No carry is left where the second number's digits have ended. -/
theorem MIs.carry {o0 lb o : List Nat} {i ai c : Nat} (h : MIs o0 lb i ai o lb.length c) (h0 : o0.getD (i + lb.length) 0 = 0) : (o.getD (i + lb.length) 0 + ai * lb.getD lb.length 0 + c) / 65536 = 0 := by
  obtain ⟨h1, h2, h3, h4, h5⟩ := h
  rw [h5 _ (Nat.le_refl _), h0]
  have : lb.getD lb.length 0 = 0 := by rw [List.getD_eq_getElem?_getD, List.getElem?_eq_none (Nat.le_refl _)]; rfl
  rw [this]
  omega
theorem MIs.done {o0 lb o : List Nat} {i ai k : Nat} (h : MIs o0 lb i ai o k 0) (hk : lb.length ≤ k) : val o = val o0 + 65536 ^ i * (ai * val lb) := by
  obtain ⟨h1, h2, h3, h4, h5⟩ := h
  rw [List.take_of_length_le hk] at h4
  omega
/-- The outer loop. -/
def OIs (la lb o : List Nat) (i : Nat) : Prop := o.length = la.length + lb.length + 1 ∧ Dig o ∧ val o = val (la.take i) * val lb ∧ ∀ j, i + lb.length ≤ j → o.getD j 0 = 0
theorem OIs.start (la lb : List Nat) : OIs la lb (List.replicate (la.length + lb.length + 1) 0) 0 := by
  have hv : ∀ n, val (List.replicate n 0) = 0 := by
    intro n; induction n with
    | zero => rfl
    | succ n ih => rw [List.replicate_succ, val, ih]
  refine ⟨by simp, fun x hx => ?_, by rw [hv]; simp [val], fun j _ => ?_⟩
  · have := (List.mem_replicate.1 hx).2; omega
  · rw [List.getD_eq_getElem?_getD, List.getElem?_replicate]; split <;> rfl
theorem OIs.step {la lb o0 o : List Nat} {i k : Nat} (h : OIs la lb o0 i) (hm : MIs o0 lb i (la.getD i 0) o k 0) (hk : lb.length ≤ k) (hk2 : k ≤ lb.length + 1) : OIs la lb o (i + 1) := by
  obtain ⟨h1, h2, h3, h4⟩ := h
  have hv := hm.done hk
  obtain ⟨g1, g2, g3, g4, g5⟩ := hm
  refine ⟨by omega, g2, ?_, fun j hj => ?_⟩
  · rw [hv, h3, val_take_succ, Nat.add_mul, Nat.mul_assoc]
  · rw [g5 j (by omega)]; exact h4 j (by omega)

structure MSt (w : World) (ba : Bool) (sa : Value) (bb : Bool) (sb : Value) (wr : World) (o : List Nat) : Prop where
  low : Below w.heap.size w wr
  na : NV wr w.heap.size ba sa
  nb : NV wr (w.heap.size + 1) bb sb
  nr : NV wr (w.heap.size + 2) false (.slice none 0 0)
  out : wr.heap[w.heap.size + 3]? = some (.cells (I64 o).toArray 3 (0, 0))
section
variable {w : World} {ba : Bool} {sa : Value} {bb : Bool} {sb : Value} {wr w1 : World} {o : List Nat}
theorem MSt.drewN (h : MSt w ba sa bb sb wr o) (n : Nat) : MSt w ba sa bb sb (wr.drewN n) o := ⟨⟨h.low.os, h.low.tape, h.low.output, h.low.size, h.low.block⟩, h.na, h.nb, h.nr, h.out⟩
theorem NV.set {w : World} {p : Nat} {t : Bool} {s : Value} (h : NV w p t s) {a : Addr} (hne : p ≠ a.block) (v : Value) : NV (w.setCell a v) p t s := ⟨(Below.heap_setCell _ _ _ _ hne).trans h.1, h.2⟩
theorem I64_set (o : List Nat) (j d : Nat) : ((I64 o).toArray).setIfInBounds j (.int .i64 (d : Int)) = (I64 (o.set j d)).toArray := by
  simp [I64, List.map_set]
theorem MSt.set (h : MSt w ba sa bb sb wr o) (j d : Nat) : MSt w ba sa bb sb (wr.setCell ⟨w.heap.size + 3, j, none⟩ (.int .i64 (d : Int))) (o.set j d) :=
  ⟨h.low.setCell (by simp) _, h.na.set (by simp) _, h.nb.set (by simp) _, h.nr.set (by simp) _, by rw [set_block h.out, I64_set]⟩
theorem MSt.facts (h : MSt w ba sa bb sb wr o) :
    (wr.cell? ⟨w.heap.size, 0, none⟩ = some (.bool ba) ∧ wr.cell? ⟨w.heap.size, 1, none⟩ = some sa) ∧ (wr.cell? ⟨w.heap.size + 1, 0, none⟩ = some (.bool bb) ∧ wr.cell? ⟨w.heap.size + 1, 1, none⟩ = some sb) ∧ w.heap.size + 1 + 1 + 1 < wr.heap.size :=
  ⟨⟨h.na.cells.1, h.na.cells.2.1⟩, ⟨h.nb.cells.1, h.nb.cells.2.1⟩, lt_of_block h.out⟩
theorem MSt.at_ (h : MSt w ba sa bb sb wr o) {j : Nat} (hj : j < o.length) : wr.cell? ⟨w.heap.size + 1 + 1 + 1, j, none⟩ = some (.int .i64 (o.getD j 0 : Nat)) ∧ wr.frozen? ⟨w.heap.size + 1 + 1 + 1, j, none⟩ = false := by
  have h1 := h.out
  constructor
  · unfold World.cell?
    show (match wr.heap[w.heap.size + 3]? with | some (.cells c _ _) => if (none : Option Nat).isSome then none else c[j]? | _ => none) = _
    rw [h1]
    simp [I64, hj, List.getD_eq_getElem?_getD]
  · unfold World.frozen?
    show (match wr.heap[w.heap.size + 3]? with | some (.cells _ _ (lo, hi)) => lo ≤ j && j < hi | _ => false) = false
    rw [h1]
    simp
theorem MSt.row (h : MSt w ba sa bb sb wr o) (ho : o.length ≤ 1000) : Row wr (.slice (some ⟨w.heap.size + 1 + 1 + 1, 0, none⟩) o.length o.length) o := by
  refine ⟨_, o.length, rfl, Nat.le_refl _, by unfold maxLen; omega, .inr ⟨w.heap.size + 1 + 1 + 1, 0, rfl, lt_of_block h.out, fun j hj => ?_⟩⟩
  rw [Nat.zero_add]
  exact (h.at_ hj).1
end
end Go.Proofs.Ytcbfognflngbaaa.Num
