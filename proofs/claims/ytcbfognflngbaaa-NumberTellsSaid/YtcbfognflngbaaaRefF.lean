/- A number's variable in memory; contracts of the reference's Of and Neg. -/
import Derived.Test.YtcbfognflngbaaaRefE
set_option linter.unusedVariables false
namespace Go.Proofs.Ytcbfognflngbaaa.Num
open Go.RowKit
def isSl (s : Value) : Prop := ∃ a n c, s = .slice a n c
theorem Row.sl {w : World} {s : Value} {l : List Nat} (h : Row w s l) : isSl s := by
  obtain ⟨A, c, rfl, _⟩ := h; exact ⟨_, _, _, rfl⟩
/-- Block p is a variable that holds a number. -/
def NV (w : World) (p : Nat) (t : Bool) (s : Value) : Prop := w.heap[p]? = some (.cells #[.bool t, s] 37 (0, 0)) ∧ isSl s
theorem NV.new (w : World) (t : Bool) {s : Value} (h : isSl s) : NV (w.alloc (.cells #[.bool t, s] 37)) w.heap.size t s := ⟨heap_alloc_new w _, h⟩
theorem NV.lt {w : World} {p : Nat} {t : Bool} {s : Value} (h : NV w p t s) : p < w.heap.size := lt_of_block h.1
theorem NV.below {w w' : World} {p B : Nat} {t : Bool} {s : Value} (h : NV w p t s) (hb : Below B w w') (hp : p < B) : NV w' p t s := ⟨(hb.block p hp).trans h.1, h.2⟩
theorem NV.bl {w w' : World} {p : Nat} {t : Bool} {s : Value} (h : NV w p t s) (hb : Bl w w') : NV w' p t s := h.below hb h.lt
theorem NV.alloc {w : World} {p : Nat} {t : Bool} {s : Value} (h : NV w p t s) (o : Obj) : NV (w.alloc o) p t s := ⟨(Below.heap_alloc w o p h.lt).trans h.1, h.2⟩
theorem NV.cells {w : World} {p : Nat} {t : Bool} {s : Value} (h : NV w p t s) :
    w.cell? ⟨p, 0, none⟩ = some (.bool t) ∧ w.cell? ⟨p, 1, none⟩ = some s ∧ w.frozen? ⟨p, 0, none⟩ = false ∧ w.frozen? ⟨p, 1, none⟩ = false ∧ p < w.heap.size := by
  have h1 := h.1
  refine ⟨?_, ?_, ?_, ?_, h.lt⟩ <;> simp [World.cell?, World.frozen?, h1]
theorem set_block {w : World} {b o : Nat} {cs : Array Value} {t : TypeId} {v : Value} (h : w.heap[b]? = some (.cells cs t (0, 0))) : (w.setCell ⟨b, o, none⟩ v).heap[b]? = some (.cells (cs.setIfInBounds o v) t (0, 0)) := by
  have hlt := lt_of_block h
  have h' : w.heap[b] = .cells cs t (0, 0) := by simpa [Array.getElem?_eq_getElem hlt] using h
  show (w.heap.modify b _)[b]? = _
  rw [Array.getElem?_eq_getElem (by simpa using hlt), Array.getElem_modify_self, h']
  rfl
theorem NV.put {w : World} {p : Nat} {t t' : Bool} {s s' : Value} (h : NV w p t s) (h' : isSl s') : NV (putNum w p t' s') p t' s' :=
  ⟨set_block (set_block h.1), h'⟩
theorem NV.other {w : World} {p q : Nat} {t t' : Bool} {s s' : Value} (h : NV w p t s) (hne : p ≠ q) : NV (putNum w q t' s') p t s :=
  ⟨(Below.heap_setCell _ _ _ _ hne).trans ((Below.heap_setCell _ _ _ _ hne).trans h.1), h.2⟩
theorem below_put {w0 w : World} {B p : Nat} {t : Bool} {s : Value} (h : Below B w0 w) (hp : B ≤ p) : Below B w0 (putNum w p t s) := (h.setCell hp _).setCell hp _
theorem Row.put {w : World} {p : Nat} {t t' : Bool} {s s' r : Value} {l : List Nat} (h : NV w p t s) (hr : Row w r l) : Row (putNum w p t' s') r l := by
  obtain ⟨A, c, hs, h1, h2, h3⟩ := hr
  refine ⟨A, c, hs, h1, h2, ?_⟩
  rcases h3 with h3 | ⟨b, o, hA, hlt, hc⟩
  · exact .inl h3
  · rcases List.eq_nil_or_concat l with h0 | ⟨l', d, h0⟩
    · exact .inl h0
    · have hpos : 0 < l.length := by rw [h0]; simp
      have hne : b ≠ p := by
        intro e
        subst e
        obtain ⟨a, n, c', rfl⟩ := h.2
        have h4 := hc 0 hpos
        have h5 : w.cell? ⟨b, o + 0, none⟩ = (#[Value.bool t, Value.slice a n c'] : Array Value)[o + 0]? := by simp [World.cell?, h.1]
        rw [h5] at h4
        rcases o with _ | _ | o
        · simp at h4
        · simp at h4
        · simp at h4
      refine .inr ⟨b, o, hA, ?_, fun j hj => ?_⟩
      · have e : (putNum w p t' s').heap.size = w.heap.size := by simp [putNum]
        rw [e]; exact hlt
      · rw [← hc j hj]
        exact World.cell?_of_block (a := ⟨b, o + j, none⟩) ((Below.heap_setCell _ _ _ _ hne).trans (Below.heap_setCell _ _ _ _ hne))
theorem NumIs.put {w : World} {p : Nat} {t t' : Bool} {s s' : Value} {v : Value} {z : Int} (h : NV w p t s) (hr : NumIs w v z) : NumIs (putNum w p t' s') v z := by
  obtain ⟨b, s1, l, h1, h2, h3⟩ := hr
  exact ⟨b, s1, l, h1, h2.put h, h3⟩
theorem NumIs.form {w : World} {v : Value} {z : Int} (h : NumIs w v z) : ∃ t a n c, v = .agg #[.bool t, .slice a n c] := by
  obtain ⟨b, s, l, rfl, h2, _⟩ := h
  obtain ⟨a, n, c, rfl⟩ := h2.sl
  exact ⟨b, a, n, c, rfl⟩
/-- A call's last step: the number is laid into the result's variable. -/
theorem num_end {w w1 : World} {z : Int} {t t0 : Bool} {s s0 : Value} {p : Nat} (hp : NV w1 p t0 s0) (hB : w.heap.size ≤ p) (hb : Below w.heap.size w w1) (hn : NumIs w1 (.agg #[.bool t, s]) z) :
    SomeNum w z (.returned (.agg #[.bool t, s])) (putNum w1 p t s) :=
  ⟨_, rfl, hn.put hp, below_put hb hB⟩

theorem row4 (w : World) (a b c d : Nat) (x y z u : Int) (hx : x = a) (hy : y = b) (hz : z = c) (hu : u = d) :
    Row (w.alloc (.cells #[.int .i64 x, .int .i64 y, .int .i64 z, .int .i64 u] 3)) (.slice (some ⟨w.heap.size, 0, none⟩) 4 4) [a, b, c, d] := by
  subst hx hy hz hu
  have h := heap_alloc_new w (.cells #[.int .i64 (a : Int), .int .i64 (b : Int), .int .i64 (c : Int), .int .i64 (d : Int)] 3)
  refine ⟨_, 4, rfl, Nat.le_refl _, by decide, .inr ⟨w.heap.size, 0, rfl, lt_of_block h, fun j hj => ?_⟩⟩
  have e : ∀ k v, (#[Value.int .i64 (a : Int), .int .i64 (b : Int), .int .i64 (c : Int), .int .i64 (d : Int)] : Array Value)[k]? = some v → (w.alloc (.cells #[.int .i64 (a : Int), .int .i64 (b : Int), .int .i64 (c : Int), .int .i64 (d : Int)] 3)).cell? ⟨w.heap.size, k, none⟩ = some v := by
    intro k v hk
    unfold World.cell?
    simp only [h]
    exact hk
  rcases j with _ | _ | _ | _ | j
  · exact e 0 _ rfl
  · exact e 1 _ rfl
  · exact e 2 _ rfl
  · exact e 3 _ rfl
  · exact absurd hj (by simp)

def digs4 (M : Nat) : List Nat := [M % 65536, M / 65536 % 65536, M / 4294967296 % 65536, M / 281474976710656]
theorem digs4_val (M : Nat) : val (digs4 M) = M := by
  unfold digs4 val val val val val
  omega
theorem digs4_dig {M : Nat} (h : M < 18446744073709551616) : Dig (digs4 M) :=
  Dig.cons (by omega) (Dig.cons (by omega) (Dig.cons (by omega) (Dig.cons (by omega) Dig.nil)))

theorem of_any (n : Int) (w : World) (hn : Fits n) : Calls Try.prog 23 #[.int .i64 n] w (SomeNum w n) := by
  have hM : n.natAbs < 18446744073709551616 := by unfold Fits at hn; omega
  obtain ⟨M, hMn⟩ : ∃ M, M = n.natAbs := ⟨_, rfl⟩
  rw [← hMn] at hM
  have WH := Lib.hid (show ∀ b w1 s, Row w1 s (digs4 M) → sg b M = n → Calls Try.prog 38 #[.bool b, s] w1 (SomeNum w1 n) by
    intro b w1 s hr he
    have := whole_any w1 b s _ hr (digs4_dig hM) (by show 4 ≤ 1000; decide)
    rw [digs4_val, he] at this
    exact this)
  have R4 := fun w : World => row4 (w.alloc zNum) (M % 65536) (M / 65536 % 65536) (M / 4294967296 % 65536) (M / 281474976710656) _ _ _ _ rfl rfl rfl rfl
  have R4 : ∀ w : World, Row ((w.alloc zNum).alloc (.cells #[.int .i64 ((M : Int) % 65536), .int .i64 ((M : Int) / 65536 % 65536), .int .i64 ((M : Int) / 4294967296 % 65536), .int .i64 ((M : Int) / 281474976710656)] 3)) (.slice (some ⟨w.heap.size + 1, 0, none⟩) 4 4) (digs4 M) := by
    intro w
    have := R4 w
    rw [size_al] at this
    exact this
  obtain ⟨x1, x2⟩ := hn
  by_cases h0 : n < 0
  · have e2 : IntKind.u64.wrap (-(IntKind.u64.wrap n)) = (M : Int) := by rw [IntKind.wrap_u64, IntKind.wrap_u64]; omega
    have C := WH.out true _ _ (R4 w) (show sg true M = n by unfold sg; simp; omega)
    have hd : decide (n < 0) = true := decide_eq_true h0
    have NVW := Lib.hid (NV.new w false (s := .slice none 0 0) ⟨_, _, _, rfl⟩)
    clear hMn x1 x2 WH
    go_enter Try.func23, Try.ntmps23
    go_wp2_with (go_at_call 38; (with_reducible refine C.mono ?_); rintro e w1 ⟨v, rfl, hnum, hb⟩; obtain ⟨t, a, nn, c, rfl⟩ := hnum.form; have nv := (NVW.out.alloc _).bl hb; obtain ⟨q0, q1, q2, q3, q4⟩ := nv.cells; have FIN := Lib.hid (num_end nv (Nat.le_refl _) (((((Below.refl _ _).alloc (Nat.le_refl _) _).alloc (by simp) _)).trans (hb.mono (by simp; omega))) hnum); clear nv hnum hb)
    refine bodyPost_ret (v := .agg #[.bool t, .slice a nn c]) (by simp [results, Try.results23, go_sem, q0, q1]) rfl FIN.out
  · have e2 : IntKind.u64.wrap n = (M : Int) := by rw [IntKind.wrap_u64]; omega
    have C := WH.out false _ _ (R4 w) (show sg false M = n by unfold sg; simp; omega)
    have hd : decide (n < 0) = false := decide_eq_false h0
    have NVW := Lib.hid (NV.new w false (s := .slice none 0 0) ⟨_, _, _, rfl⟩)
    clear hMn x1 x2 WH
    go_enter Try.func23, Try.ntmps23
    go_wp2_with (go_at_call 38; (with_reducible refine C.mono ?_); rintro e w1 ⟨v, rfl, hnum, hb⟩; obtain ⟨t, a, nn, c, rfl⟩ := hnum.form; have nv := (NVW.out.alloc _).bl hb; obtain ⟨q0, q1, q2, q3, q4⟩ := nv.cells; have FIN := Lib.hid (num_end nv (Nat.le_refl _) (((((Below.refl _ _).alloc (Nat.le_refl _) _).alloc (by simp) _)).trans (hb.mono (by simp; omega))) hnum); clear nv hnum hb)
    refine bodyPost_ret (v := .agg #[.bool t, .slice a nn c]) (by simp [results, Try.results23, go_sem, q0, q1]) rfl FIN.out
end Go.Proofs.Ytcbfognflngbaaa.Num
