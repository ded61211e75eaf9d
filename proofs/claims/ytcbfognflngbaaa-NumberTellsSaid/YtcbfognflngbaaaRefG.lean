/- Contracts of the reference's Neg and Add. -/
import Derived.Test.YtcbfognflngbaaaRefF
import Derived.Deep.RegionHeld3
set_option linter.unusedVariables false
namespace Go.Proofs.Ytcbfognflngbaaa.Num
open Go.RowKit
/-- How far from 0 the numbers are that are reckoned with. -/
def Sm (k : Nat) (z : Int) : Prop := z.natAbs < 65536 ^ k
theorem sg_abs (b : Bool) (n : Nat) : (sg b n).natAbs = n := by cases b <;> simp [sg]
theorem sm_len {z : Int} {b : Bool} {l : List Nat} {k : Nat} (h : Sm k z) (hz : z = sg b (val l)) (hn : Norm l) : l.length ≤ k := by
  unfold Sm at h
  rw [hz, sg_abs] at h
  exact norm_len hn h

theorem neg_num (w : World) (v : Value) (z : Int) (hn : NumIs w v z) (hs : Sm 100 z) : Calls Try.prog 22 #[v] w (SomeNum w (-z)) := by
  obtain ⟨b, s, l, rfl, hr, hd, hnorm, hz, hb⟩ := hn
  have hl := sm_len hs hz hnorm
  have e : sg (!b) (val l) = -z := by rw [hz]; cases b <;> simp [sg]
  have WH := Lib.hid (show ∀ w1, Bl w w1 → Calls Try.prog 38 #[.bool (!b), s] w1 (SomeNum w1 (-z)) by
    intro w1 hb
    have := whole_any w1 (!b) s l (hr.bl hb) hd (by omega)
    rw [e] at this
    exact this)
  have NV0 := Lib.hid (NV.new w b hr.sl)
  have NV1 := Lib.hid (NV.new (w.alloc (.cells #[.bool b, s] 37)) false (s := .slice none 0 0) ⟨_, _, _, rfl⟩)
  obtain ⟨a1, n1, c1, rfl⟩ := hr.sl
  have HB := Lib.hid (show Bl w ((w.alloc (.cells #[.bool b, .slice a1 n1 c1] 37)).alloc zNum) from ((Below.refl _ _).alloc (Nat.le_refl _) _).alloc (by simp) _)
  clear hr hd hnorm hz hb hl e
  have C := WH.out _ HB.out
  clear WH
  go_enter Try.func22, Try.ntmps22
  go_wp2_with (go_at_call 38; (with_reducible refine C.mono ?_); rintro e w1 ⟨v, rfl, hnum, hb⟩; obtain ⟨t, a, nn, c, rfl⟩ := hnum.form; have nv := NV1.out.bl hb; rw [size_al] at nv; obtain ⟨q0, q1, q2, q3, q4⟩ := nv.cells; have FIN := Lib.hid (num_end nv (by omega) (HB.out.trans hb) hnum); clear nv hnum hb)
  refine bodyPost_ret (v := .agg #[.bool t, .slice a nn c]) (by simp [results, Try.results22, go_sem, q0, q1]) rfl FIN.out

theorem cmp_max {P : Prop} (a b : Nat) (h : ∀ M, ((a ≤ b ∧ M = b) ∨ (b < a ∧ M = a)) → P) : P := by
  rcases Nat.lt_or_ge b a with g | g
  · exact h a (.inr ⟨g, rfl⟩)
  · exact h b (.inl ⟨g, rfl⟩)
theorem compare_any (w : World) (sa sb : Value) (la lb : List Nat) (ha : Row w sa la) (hb : Row w sb lb) (da : Dig la) (db : Dig lb) (h1 : la.length ≤ 1000) (h2 : lb.length ≤ 1000) :
    Calls Try.prog 43 #[sa, sb] w (SomeCmp w (val la) (val lb)) :=
  cmp_max la.length lb.length fun M hM => compare_at w sa sb la lb ha hb da db M (by omega) hM
def SomeRowLe (w : World) (n v : Nat) (e : Ending) (w' : World) : Prop := ∃ s l, e = .returned s ∧ Row w' s l ∧ Dig l ∧ l.length ≤ n ∧ val l = v ∧ Bl w w'
theorem plus_any (w : World) (sa sb : Value) (la lb : List Nat) (ha : Row w sa la) (hb : Row w sb lb) (da : Dig la) (db : Dig lb) (n : Nat) (h1 : la.length ≤ n) (h2 : lb.length ≤ n) (hn : n ≤ 900) :
    Calls Try.prog 42 #[sa, sb] w (SomeRowLe w (n + 1) (val la + val lb)) :=
  cmp_max la.length lb.length fun M hM => (plus_at w sa sb la lb ha hb da db M (by omega) hM).mono fun e w' ⟨s, l, h1, h2, h3, h4, h5⟩ => ⟨s, l, h1, h2, h3, by omega, h5⟩
theorem less_le (w : World) (sa sb : Value) (la lb : List Nat) (ha : Row w sa la) (hb : Row w sb lb) (da : Dig la) (db : Dig lb) (n : Nat) (h1 : la.length ≤ n) (hn : n ≤ 900) (hle : val lb ≤ val la) :
    Calls Try.prog 44 #[sa, sb] w (SomeRowLe w n (val la - val lb)) :=
  (less_any w sa sb la lb ha hb da db (by omega) hle).mono fun e w' ⟨s, l, h1, h2, h3, h4, h5⟩ => ⟨s, l, h1, h2, h3, by omega, h5⟩
/-- whole of what a call has made. -/
theorem whole_of {w w1 : World} {s : Value} {l : List Nat} {b : Bool} {z : Int} {n : Nat} (hb : Bl w w1) (hr : Row w1 s l) (hd : Dig l) (hl : l.length ≤ n) (hn : n ≤ 1000) (hz : sg b (val l) = z) : Calls Try.prog 38 #[.bool b, s] w1 (SomeNum w1 z) := by
  have := whole_any w1 b s l hr hd (by omega)
  rw [hz] at this
  exact this

/-- Both numbers lie in their boxes, the result's variable behind them. -/
def Two (p : Nat) (b1 b2 : Bool) (s1 s2 : Value) (w : World) : Prop :=
  w.cell? ⟨p, 0, none⟩ = some (.bool b1) ∧ w.cell? ⟨p, 1, none⟩ = some s1 ∧ w.cell? ⟨p + 1, 0, none⟩ = some (.bool b2) ∧ w.cell? ⟨p + 1, 1, none⟩ = some s2
theorem Two.keep {p : Nat} {b1 b2 : Bool} {s1 s2 : Value} {w w' : World} (h : Two p b1 b2 s1 s2 w) (hb : Bl w w') : Two p b1 b2 s1 s2 w' := by
  have key : ∀ a v, w.cell? a = some v → w'.cell? a = some v := fun a v hv => (Below.cell hb (World.block_lt_of_cell? w a hv)).trans hv
  exact ⟨key _ _ h.1, key _ _ h.2.1, key _ _ h.2.2.1, key _ _ h.2.2.2⟩

theorem Two.set2 {p q i j : Nat} {b1 b2 : Bool} {s1 s2 u v : Value} {w : World} (h : Two p b1 b2 s1 s2 w) (h1 : p ≠ q) (h2 : p + 1 ≠ q) : Two p b1 b2 s1 s2 ((w.setCell ⟨q, i, none⟩ u).setCell ⟨q, j, none⟩ v) := by
  have key : ∀ a : Addr, a.block ≠ q → ((w.setCell ⟨q, i, none⟩ u).setCell ⟨q, j, none⟩ v).cell? a = w.cell? a := fun a ha =>
    World.cell?_of_block ((Below.heap_setCell _ _ _ _ ha).trans (Below.heap_setCell _ _ _ _ ha))
  exact ⟨(key _ h1).trans h.1, (key _ h1).trans h.2.1, (key _ h2).trans h.2.2.1, (key _ h2).trans h.2.2.2⟩

theorem add_same (w : World) (b : Bool) (sa sb : Value) (la lb : List Nat) (z : Int) (hra : Row w sa la) (hrb : Row w sb lb) (da : Dig la) (db : Dig lb) (l1 : la.length ≤ 900) (l2 : lb.length ≤ 900) (hz : sg b (val la + val lb) = z) :
    Calls Try.prog 31 #[.agg #[.bool b, sa], .agg #[.bool b, sb]] w (SomeNum w z) := by
  have PC := Lib.hid (show ∀ w1, Bl w w1 → Calls Try.prog 42 #[sa, sb] w1 (SomeRowLe w1 901 (val la + val lb)) from fun w1 hb => plus_any w1 sa sb la lb (hra.bl hb) (hrb.bl hb) da db 900 l1 l2 (by omega))
  have NV2 := Lib.hid (NV.new ((w.alloc (.cells #[.bool b, sa] 37)).alloc (.cells #[.bool b, sb] 37)) false (s := .slice none 0 0) ⟨_, _, _, rfl⟩)
  have HB := Lib.hid (show Bl w (((w.alloc (.cells #[.bool b, sa] 37)).alloc (.cells #[.bool b, sb] 37)).alloc zNum) from (((Below.refl _ _).alloc (Nat.le_refl _) _).alloc (by simp) _).alloc (by simp; omega) _)
  have T0 : Two w.heap.size b b sa sb (((w.alloc (.cells #[.bool b, sa] 37)).alloc (.cells #[.bool b, sb] 37)).alloc zNum) := by
    have h1 := ((NV.new w b hra.sl).alloc (.cells #[.bool b, sb] 37)).alloc zNum
    have h2 := (NV.new (w.alloc (.cells #[.bool b, sa] 37)) b hrb.sl).alloc zNum
    rw [size_al] at h2
    exact ⟨h1.cells.1, h1.cells.2.1, h2.cells.1, h2.cells.2.1⟩
  obtain ⟨a1, n1, c1, rfl⟩ := hra.sl
  obtain ⟨a2, n2, c2, rfl⟩ := hrb.sl
  clear hra hrb da db l1 l2
  go_enter Try.func31, Try.ntmps31
  go_wp2
  have NVX := NV2.out
  rw [size_al, size_al] at NVX
  have HBX := HB.out
  clear NV2 HB
  generalize (((w.alloc (.cells #[.bool b, .slice a1 n1 c1] 37)).alloc (.cells #[.bool b, .slice a2 n2 c2] 37)).alloc zNum) = W at *
  have NV2 := Lib.hid NVX; have HB := Lib.hid HBX
  obtain ⟨t1, t2, t3, t4⟩ := T0
  clear NVX HBX
  have D : Hid (Bl w W.drew) := Lib.hid (Below.drew HB.out)
  go_region_held3 (fun w' => w'.cell? ⟨w.heap.size, 0, none⟩ = some (.bool b) ∧ w'.cell? ⟨w.heap.size, 1, none⟩ = some (.slice a1 n1 c1) ∧ w'.cell? ⟨w.heap.size + 1, 0, none⟩ = some (.bool b) ∧ w'.cell? ⟨w.heap.size + 1, 1, none⟩ = some (.slice a2 n2 c2)) (first | exact ⟨t1, t2, t3, t4⟩ | exact Two.keep (by assumption) hb1 | exact Two.keep (by assumption) hb2 | exact Two.set2 (by assumption) (by omega) (by omega))
    (first
      | (go_at_call 42; (with_reducible refine (PC.out _ D.out).mono ?_); rintro e w1 ⟨s', l', rfl, hr1, hd1, hl1, hv1, hb1⟩; have C38 := Lib.hid (fun b' z' h' => whole_of (b := b') (z := z') (D.out.trans hb1) hr1 hd1 hl1 (by omega) h'); have HZ := Lib.hid (show sg b (val l') = z by rw [hv1]; exact hz); clear hr1 hd1 hl1 hv1)
      | (go_at_call 38; (with_reducible refine (C38.out _ _ HZ.out).mono ?_); rintro e w2 ⟨v, rfl, hnum, hb2⟩; obtain ⟨t, a, nn, c, rfl⟩ := hnum.form; have nv := (NV.bl (w := W.drew) NV2.out hb1).bl hb2; obtain ⟨q0, q1, q2, q3, q4⟩ := nv.cells; have FIN := Lib.hid (num_end nv (by omega) ((D.out.trans hb1).trans hb2) hnum); clear nv hnum))
  go_wp2
  refine bodyPost_ret (v := .agg #[.bool t, .slice a nn c]) (by simp [results, Try.results31, go_sem, q0, q1]) rfl FIN.out

theorem add_other (w : World) (b b2 : Bool) (hne : (b == b2) = false) (sa sb : Value) (la lb : List Nat) (z : Int) (hra : Row w sa la) (hrb : Row w sb lb) (da : Dig la) (db : Dig lb) (l1 : la.length ≤ 900) (l2 : lb.length ≤ 900) (hle : val lb ≤ val la) (hz : sg b (val la - val lb) = z) :
    Calls Try.prog 31 #[.agg #[.bool b, sa], .agg #[.bool b2, sb]] w (SomeNum w z) := by
  have PC := Lib.hid (show ∀ w1, Bl w w1 → Calls Try.prog 44 #[sa, sb] w1 (SomeRowLe w1 900 (val la - val lb)) from fun w1 hb => less_le w1 sa sb la lb (hra.bl hb) (hrb.bl hb) da db 900 l1 (by omega) hle)
  have CC := Lib.hid (show ∀ w1, Bl w w1 → Calls Try.prog 43 #[sa, sb] w1 (SomeCmp w1 (val la) (val lb)) from fun w1 hb => compare_any w1 sa sb la lb (hra.bl hb) (hrb.bl hb) da db (by omega) (by omega))
  have NV2 := Lib.hid (NV.new ((w.alloc (.cells #[.bool b, sa] 37)).alloc (.cells #[.bool b2, sb] 37)) false (s := .slice none 0 0) ⟨_, _, _, rfl⟩)
  have HB := Lib.hid (show Bl w (((w.alloc (.cells #[.bool b, sa] 37)).alloc (.cells #[.bool b2, sb] 37)).alloc zNum) from (((Below.refl _ _).alloc (Nat.le_refl _) _).alloc (by simp) _).alloc (by simp; omega) _)
  have T0 : Two w.heap.size b b2 sa sb (((w.alloc (.cells #[.bool b, sa] 37)).alloc (.cells #[.bool b2, sb] 37)).alloc zNum) := by
    have h1 := ((NV.new w b hra.sl).alloc (.cells #[.bool b2, sb] 37)).alloc zNum
    have h2 := (NV.new (w.alloc (.cells #[.bool b, sa] 37)) b2 hrb.sl).alloc zNum
    rw [size_al] at h2
    exact ⟨h1.cells.1, h1.cells.2.1, h2.cells.1, h2.cells.2.1⟩
  obtain ⟨a1, n1, c1, rfl⟩ := hra.sl
  obtain ⟨a2, n2, c2, rfl⟩ := hrb.sl
  have HLE := Lib.hid hle
  clear hra hrb da db l1 l2 hle
  go_enter Try.func31, Try.ntmps31
  go_wp2_with (go_at_call 43; (with_reducible refine (CC.out _ HB.out).mono ?_); rintro e w9 ⟨cv, rfl, hcv, rfl⟩; have hge : 0 ≤ cv := hcv.2 HLE.out; clear hcv)
  have NVX := NV2.out
  rw [size_al, size_al] at NVX
  have HBX := HB.out
  clear NV2 HB
  generalize (((w.alloc (.cells #[.bool b, .slice a1 n1 c1] 37)).alloc (.cells #[.bool b2, .slice a2 n2 c2] 37)).alloc zNum) = W at *
  have NV2 := Lib.hid NVX; have HB := Lib.hid HBX
  obtain ⟨t1, t2, t3, t4⟩ := T0
  clear NVX HBX
  have D : Hid (Bl w W.drew) := Lib.hid (Below.drew HB.out)
  go_region_held3 (fun w' => w'.cell? ⟨w.heap.size, 0, none⟩ = some (.bool b) ∧ w'.cell? ⟨w.heap.size, 1, none⟩ = some (.slice a1 n1 c1) ∧ w'.cell? ⟨w.heap.size + 1, 0, none⟩ = some (.bool b2) ∧ w'.cell? ⟨w.heap.size + 1, 1, none⟩ = some (.slice a2 n2 c2)) (first | exact ⟨t1, t2, t3, t4⟩ | exact Two.keep (by assumption) hb1 | exact Two.keep (by assumption) hb2 | exact Two.set2 (by assumption) (by omega) (by omega))
    (first
      | (go_at_call 44; (with_reducible refine (PC.out _ D.out).mono ?_); rintro e w1 ⟨s', l', rfl, hr1, hd1, hl1, hv1, hb1⟩; have C38 := Lib.hid (fun b' z' h' => whole_of (b := b') (z := z') (D.out.trans hb1) hr1 hd1 hl1 (by omega) h'); have HZ := Lib.hid (show sg b (val l') = z by rw [hv1]; exact hz); clear hr1 hd1 hl1 hv1)
      | (go_at_call 38; (with_reducible refine (C38.out _ _ HZ.out).mono ?_); rintro e w2 ⟨v, rfl, hnum, hb2⟩; obtain ⟨t, a, nn, c, rfl⟩ := hnum.form; have nv := (NV.bl (w := W.drew) NV2.out hb1).bl hb2; obtain ⟨q0, q1, q2, q3, q4⟩ := nv.cells; have FIN := Lib.hid (num_end nv (by omega) ((D.out.trans hb1).trans hb2) hnum); clear nv hnum))
  go_wp2
  refine bodyPost_ret (v := .agg #[.bool t, .slice a nn c]) (by simp [results, Try.results31, go_sem, q0, q1]) rfl FIN.out

theorem add_other2 (w : World) (b b2 : Bool) (hne : (b == b2) = false) (sa sb : Value) (la lb : List Nat) (z : Int) (hra : Row w sa la) (hrb : Row w sb lb) (da : Dig la) (db : Dig lb) (l1 : la.length ≤ 900) (l2 : lb.length ≤ 900) (hle : ¬ val lb ≤ val la) (hz : sg b2 (val lb - val la) = z) :
    Calls Try.prog 31 #[.agg #[.bool b, sa], .agg #[.bool b2, sb]] w (SomeNum w z) := by
  have PC := Lib.hid (show ∀ w1, Bl w w1 → Calls Try.prog 44 #[sb, sa] w1 (SomeRowLe w1 900 (val lb - val la)) from fun w1 hb => less_le w1 sb sa lb la (hrb.bl hb) (hra.bl hb) db da 900 l2 (by omega) (by omega))
  have CC := Lib.hid (show ∀ w1, Bl w w1 → Calls Try.prog 43 #[sa, sb] w1 (SomeCmp w1 (val la) (val lb)) from fun w1 hb => compare_any w1 sa sb la lb (hra.bl hb) (hrb.bl hb) da db (by omega) (by omega))
  have NV2 := Lib.hid (NV.new ((w.alloc (.cells #[.bool b, sa] 37)).alloc (.cells #[.bool b2, sb] 37)) false (s := .slice none 0 0) ⟨_, _, _, rfl⟩)
  have HB := Lib.hid (show Bl w (((w.alloc (.cells #[.bool b, sa] 37)).alloc (.cells #[.bool b2, sb] 37)).alloc zNum) from (((Below.refl _ _).alloc (Nat.le_refl _) _).alloc (by simp) _).alloc (by simp; omega) _)
  have T0 : Two w.heap.size b b2 sa sb (((w.alloc (.cells #[.bool b, sa] 37)).alloc (.cells #[.bool b2, sb] 37)).alloc zNum) := by
    have h1 := ((NV.new w b hra.sl).alloc (.cells #[.bool b2, sb] 37)).alloc zNum
    have h2 := (NV.new (w.alloc (.cells #[.bool b, sa] 37)) b2 hrb.sl).alloc zNum
    rw [size_al] at h2
    exact ⟨h1.cells.1, h1.cells.2.1, h2.cells.1, h2.cells.2.1⟩
  obtain ⟨a1, n1, c1, rfl⟩ := hra.sl
  obtain ⟨a2, n2, c2, rfl⟩ := hrb.sl
  have HLE := Lib.hid hle
  clear hra hrb da db l1 l2 hle
  go_enter Try.func31, Try.ntmps31
  go_wp2_with (go_at_call 43; (with_reducible refine (CC.out _ HB.out).mono ?_); rintro e w9 ⟨cv, rfl, hcv, rfl⟩; have hge : cv < 0 := Int.not_le.1 (fun h => HLE.out (hcv.1 h)); clear hcv)
  have NVX := NV2.out
  rw [size_al, size_al] at NVX
  have HBX := HB.out
  clear NV2 HB
  generalize (((w.alloc (.cells #[.bool b, .slice a1 n1 c1] 37)).alloc (.cells #[.bool b2, .slice a2 n2 c2] 37)).alloc zNum) = W at *
  have NV2 := Lib.hid NVX; have HB := Lib.hid HBX
  obtain ⟨t1, t2, t3, t4⟩ := T0
  clear NVX HBX
  have D : Hid (Bl w W.drew) := Lib.hid (Below.drew HB.out)
  go_region_held3 (fun w' => w'.cell? ⟨w.heap.size, 0, none⟩ = some (.bool b) ∧ w'.cell? ⟨w.heap.size, 1, none⟩ = some (.slice a1 n1 c1) ∧ w'.cell? ⟨w.heap.size + 1, 0, none⟩ = some (.bool b2) ∧ w'.cell? ⟨w.heap.size + 1, 1, none⟩ = some (.slice a2 n2 c2)) (first | exact ⟨t1, t2, t3, t4⟩ | exact Two.keep (by assumption) hb1 | exact Two.keep (by assumption) hb2 | exact Two.set2 (by assumption) (by omega) (by omega))
    (first
      | (go_at_call 44; (with_reducible refine (PC.out _ D.out).mono ?_); rintro e w1 ⟨s', l', rfl, hr1, hd1, hl1, hv1, hb1⟩; have C38 := Lib.hid (fun b' z' h' => whole_of (b := b') (z := z') (D.out.trans hb1) hr1 hd1 hl1 (by omega) h'); have HZ := Lib.hid (show sg b2 (val l') = z by rw [hv1]; exact hz); clear hr1 hd1 hl1 hv1)
      | (go_at_call 38; (with_reducible refine (C38.out _ _ HZ.out).mono ?_); rintro e w2 ⟨v, rfl, hnum, hb2⟩; obtain ⟨t, a, nn, c, rfl⟩ := hnum.form; have nv := (NV.bl (w := W.drew) NV2.out hb1).bl hb2; obtain ⟨q0, q1, q2, q3, q4⟩ := nv.cells; have FIN := Lib.hid (num_end nv (by omega) ((D.out.trans hb1).trans hb2) hnum); clear nv hnum))
  go_wp2
  refine bodyPost_ret (v := .agg #[.bool t, .slice a nn c]) (by simp [results, Try.results31, go_sem, q0, q1]) rfl FIN.out

theorem add_num (w : World) (u v : Value) (x y : Int) (hu : NumIs w u x) (hv : NumIs w v y) (hx : Sm 100 x) (hy : Sm 100 y) : Calls Try.prog 31 #[u, v] w (SomeNum w (x + y)) := by
  obtain ⟨b, sa, la, rfl, hra, da, na, ex, -⟩ := hu
  obtain ⟨b2, sb, lb, rfl, hrb, db, nb, ey, -⟩ := hv
  have l1 := sm_len hx ex na
  have l2 := sm_len hy ey nb
  subst ex ey
  by_cases he : b = b2
  · subst he
    exact add_same w b sa sb la lb _ hra hrb da db (by omega) (by omega) (by unfold sg; cases b <;> simp; omega)
  · have hne : (b == b2) = false := by simpa using he
    by_cases hle : val lb ≤ val la
    · exact add_other w b b2 hne sa sb la lb _ hra hrb da db (by omega) (by omega) hle (by cases b <;> cases b2 <;> simp_all [sg] <;> omega)
    · exact add_other2 w b b2 hne sa sb la lb _ hra hrb da db (by omega) (by omega) hle (by cases b <;> cases b2 <;> simp_all [sg] <;> omega)
end Go.Proofs.Ytcbfognflngbaaa.Num
