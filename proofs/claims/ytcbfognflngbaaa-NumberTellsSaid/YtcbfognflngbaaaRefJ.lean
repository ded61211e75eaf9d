/- Contract of the reference's Parts. -/
import Derived.Test.YtcbfognflngbaaaRefI
import Derived.Test.YtcbfognflngbaaaLawA
set_option linter.unusedVariables false
namespace Go.Proofs.Ytcbfognflngbaaa.Num
open Go.RowKit
def SomeParts (w : World) (q r : Int) (e : Ending) (w' : World) : Prop := ∃ u v, e = .returned (.tuple #[u, v]) ∧ NumIs w' u q ∧ NumIs w' v r ∧ Bl w w'

theorem num_nil (w : World) : NumIs w (.agg #[.bool false, nilS]) 0 := ⟨false, nilS, [], rfl, ⟨none, 0, rfl, by simp, by decide, .inl rfl⟩, Dig.nil, norm_nil, rfl, fun h => by cases h⟩
theorem num_one {w : World} {t : Bool} {s : Value} (h : NumIs w (.agg #[.bool t, s]) 1) : t = false := by
  obtain ⟨l, _, _, _, hz, _⟩ := h.row
  cases t
  · rfl
  · simp [sg] at hz; omega
/-- Parts has laid its variables. -/
abbrev lay6 (w : World) (ba : Bool) (sa : Value) (bb : Bool) (sb : Value) : World :=
  (((((w.alloc (.cells #[.bool ba, sa] 37)).alloc (.cells #[.bool bb, sb] 37)).alloc zNum).alloc zNum).alloc zNum).alloc zNum
theorem lay6_size (w : World) (ba : Bool) (sa : Value) (bb : Bool) (sb : Value) : (lay6 w ba sa bb sb).heap.size = w.heap.size + 6 := by simp
theorem PSt.start {w w1 : World} {ba bb : Bool} {sa sb s : Value} (h1 : isSl sa) (h2 : isSl sb) (hb : Bl (lay6 w ba sa bb sb) w1) (hn : NumIs w1 (.agg #[.bool false, s]) 1) :
    PSt w w1.heap.size ba sa bb sb s (w1.alloc (.cells #[.bool false, s] 37)) false nilS false nilS 0 0 := by
  have nz : isSl nilS := ⟨_, _, _, rfl⟩
  have hsz : w.heap.size + 6 ≤ w1.heap.size := by rw [← lay6_size w ba sa bb sb]; exact Below.size hb
  have hl : Bl w1 (w1.alloc (.cells #[.bool false, s] 37)) := (Below.refl _ _).alloc (Nat.le_refl _) _
  have hB : Below w.heap.size w (lay6 w ba sa bb sb) :=
    ((((((Below.refl _ _).alloc (Nat.le_refl _) _).alloc (by simp) _).alloc (by simp; omega) _).alloc (by simp; omega) _).alloc (by simp; omega) _).alloc (by simp; omega) _
  have m0 := ((((((NV.new w ba h1).alloc (.cells #[.bool bb, sb] 37)).alloc zNum).alloc zNum).alloc zNum).alloc zNum)
  have m1 := (((((NV.new (w.alloc (.cells #[.bool ba, sa] 37)) bb h2).alloc zNum).alloc zNum).alloc zNum).alloc zNum)
  have m2 := ((((NV.new ((w.alloc (.cells #[.bool ba, sa] 37)).alloc (.cells #[.bool bb, sb] 37)) false nz).alloc zNum).alloc zNum).alloc zNum)
  have m3 := (((NV.new (((w.alloc (.cells #[.bool ba, sa] 37)).alloc (.cells #[.bool bb, sb] 37)).alloc zNum) false nz).alloc zNum).alloc zNum)
  have m4 := ((NV.new ((((w.alloc (.cells #[.bool ba, sa] 37)).alloc (.cells #[.bool bb, sb] 37)).alloc zNum).alloc zNum) false nz).alloc zNum)
  have m5 := (NV.new (((((w.alloc (.cells #[.bool ba, sa] 37)).alloc (.cells #[.bool bb, sb] 37)).alloc zNum).alloc zNum).alloc zNum) false nz)
  simp only [size_al] at m1 m2 m3 m4 m5
  exact ⟨(hB.trans (hb.mono (by rw [lay6_size]; omega))).trans (hl.mono (by omega)), (m0.bl hb).bl hl, (m1.bl hb).bl hl, (m2.bl hb).bl hl, (m3.bl hb).bl hl, (m4.bl hb).bl hl, (m5.bl hb).bl hl, NV.new w1 false hn.slice, by omega, num_nil _, num_nil _, hn.bl hl⟩

theorem bit_test (d k : Nat) : (((d : Int) / 2 ^ k).tmod 2 == 1) = decide (d / 2 ^ k % 2 = 1) := by
  have e : (d : Int) / 2 ^ k = ((d / 2 ^ k : Nat) : Int) := by rw [Int.natCast_ediv]; norm_cast
  rw [e]
  generalize d / 2 ^ k = m
  rw [Int.tmod_eq_emod_of_nonneg (Int.natCast_nonneg m)]
  by_cases h : m % 2 = 1
  · rw [decide_eq_true h]; exact eq_t (by omega)
  · rw [decide_eq_false h]; exact eq_f (by omega)

theorem num_facts {w : World} {t : Bool} {a : Option Addr} {n c : Nat} {z : Int} (h : NumIs w (.agg #[.bool t, .slice a n c]) z) : (z = 0 → n = 0 ∧ t = false) ∧ (z ≠ 0 → 0 < n) ∧ (0 < z → t = false) ∧ (z < 0 → t = true) := by
  obtain ⟨l, hr, _, hn, hz, ht⟩ := h.row
  have hl : n = l.length := by obtain ⟨_, _, h, _⟩ := hr; injection h
  have h0 := norm_zero hn
  have hz' := congrArg Int.natAbs hz
  rw [sg_abs] at hz'
  refine ⟨fun h => ?_, fun h => ?_, fun h => ?_, fun h => ?_⟩
  · have : l = [] := h0.2 (by omega)
    refine ⟨by rw [hl, this]; rfl, ?_⟩
    cases t
    · rfl
    · exact absurd this (ht rfl)
  · rw [hl]
    rcases List.eq_nil_or_concat l with h1 | ⟨_, _, h1⟩
    · have := h0.1 h1; omega
    · rw [h1]; simp
  · cases t
    · rfl
    · have : z = -(val l : Int) := hz
      omega
  · cases t
    · have : z = (val l : Int) := hz
      omega
    · rfl
theorem PSt.drew {w : World} {p6 : Nat} {ba : Bool} {sa : Value} {bb : Bool} {sb s1 : Value} {wr : World} {tq : Bool} {sq : Value} {tr : Bool} {sr : Value} {Q R : Int} (h : PSt w p6 ba sa bb sb s1 wr tq sq tr sr Q R) : PSt w p6 ba sa bb sb s1 wr.drew tq sq tr sr Q R :=
  ⟨Below.drew h.low, h.na, h.nb, h.r1, h.r2, h.nq, h.nr, h.n1, h.h6, h.q, h.r, h.one⟩
theorem NumIs.drew {w : World} {v : Value} {z : Int} (h : NumIs w v z) : NumIs w.drew v z := h
theorem parts_fin {w : World} {p6 : Nat} {ba : Bool} {sa : Value} {bb : Bool} {sb s1 : Value} {wr : World} {tq : Bool} {sq : Value} {tr : Bool} {sr : Value} {Q R : Int} (h : PSt w p6 ba sa bb sb s1 wr tq sq tr sr Q R) :
    SomeParts w Q R (.returned (.tuple #[.agg #[.bool tq, sq], .agg #[.bool tr, sr]])) (putNum (putNum wr (w.heap.size + 1 + 1) tq sq) (w.heap.size + 1 + 1 + 1) tr sr).drew := by
  have n1 : NV wr (w.heap.size + 1 + 1) false nilS := h.r1
  have n2 : NV wr (w.heap.size + 1 + 1 + 1) false nilS := h.r2
  have n3 : NV (putNum wr (w.heap.size + 1 + 1) tq sq) (w.heap.size + 1 + 1 + 1) false nilS := n2.other (by omega)
  have q1 : NumIs (putNum wr (w.heap.size + 1 + 1) tq sq) (.agg #[.bool tq, sq]) Q := h.q.put n1
  have q2 : NumIs (putNum wr (w.heap.size + 1 + 1) tq sq) (.agg #[.bool tr, sr]) R := h.r.put n1
  have q3 : NumIs (putNum (putNum wr (w.heap.size + 1 + 1) tq sq) (w.heap.size + 1 + 1 + 1) tr sr) (.agg #[.bool tq, sq]) Q := q1.put n3
  have q4 : NumIs (putNum (putNum wr (w.heap.size + 1 + 1) tq sq) (w.heap.size + 1 + 1 + 1) tr sr) (.agg #[.bool tr, sr]) R := q2.put n3
  have lo : Below w.heap.size w (putNum (putNum wr (w.heap.size + 1 + 1) tq sq) (w.heap.size + 1 + 1 + 1) tr sr) := below_put (below_put h.low (by omega)) (by omega)
  generalize putNum (putNum wr (w.heap.size + 1 + 1) tq sq) (w.heap.size + 1 + 1 + 1) tr sr = X at *
  exact ⟨_, _, rfl, q3.drew, q4.drew, Below.drew lo⟩
def K5 : Nat := 65536 ^ 5
theorem sm_of {n : Nat} (h : n < 4 * K5) : Sm 100 (n : Int) := by
  unfold Sm
  rw [Int.natAbs_natCast]
  have h1 : 4 * K5 ≤ 65536 ^ 6 := by decide
  have h2 : (65536 : Nat) ^ 6 ≤ 65536 ^ 100 := Nat.pow_le_pow_right (by decide) (by decide)
  omega
theorem sg_sm {b : Bool} {n : Nat} (h : n < K5) : Sm 100 (sg b n) := by
  unfold Sm
  rw [sg_abs]
  have h1 := sm_of (n := n) (by omega)
  unfold Sm at h1
  rw [Int.natAbs_natCast] at h1
  exact h1
theorem sm_of_neg {z : Int} (h : z.natAbs < 4 * K5) : Sm 100 z := by
  have h1 := sm_of h
  unfold Sm at *
  rw [Int.natAbs_natCast] at h1
  exact h1
theorem parts_bd {a b t Q R : Nat} (h : a / 2 ^ t = Q * b + R) (hR : R < b) (ha : a < K5) (hb : b < K5) : Q < K5 ∧ R < K5 := by
  have h1 : a / 2 ^ t ≤ a := Nat.div_le_self _ _
  have h2 : Q * 1 ≤ Q * b := Nat.mul_le_mul_left _ (by omega)
  omega

set_option maxHeartbeats 8000000 in
set_option maxHeartbeats 8000000 in
set_option maxHeartbeats 8000000 in
theorem parts_num (w : World) (u v : Value) (x y : Int) (hu : NumIs w u x) (hv : NumIs w v y) (hx : Sm 5 x) (hy : Sm 5 y) (hy0 : y ≠ 0) :
    Calls Try.prog 33 #[u, v] w (SomeParts w (x.fdiv y) (x.fmod y)) := by
  obtain ⟨ba, sa, la, rfl, hra, da, na, ex, hba⟩ := hu
  obtain ⟨bb, sb, lb, rfl, hrb, db, nb, ey, hbb⟩ := hv
  have va : val la < K5 := by unfold Sm at hx; rw [ex, sg_abs] at hx; exact hx
  have vb : val lb < K5 := by unfold Sm at hy; rw [ey, sg_abs] at hy; exact hy
  have hb0 : 0 < val lb := by
    rcases Nat.eq_zero_or_pos (val lb) with h | h
    · exfalso; apply hy0; rw [ey, h]; cases bb <;> rfl
    · exact h
  have l1 := sm_len hx ex na
  have l2 := sm_len hy ey nb
  have OF := fun w => of_any 1 w (by decide)
  obtain ⟨a1, n1, c1, rfl⟩ := hra.sl
  obtain ⟨a2, n2, c2, rfl⟩ := hrb.sl
  have ST := Lib.hid (fun w1 s => PSt.start (w := w) (w1 := w1) (ba := ba) (bb := bb) (s := s) hra.sl hrb.sl)
  have hn1 : n1 = la.length := by obtain ⟨_, _, h, _⟩ := hra; injection h
  have HN := Lib.hid hn1
  have hnn : n1 ≤ 5 := by omega
  -- what the loop starts from, and what it ends with
  have hval : val la < 65536 ^ n1 := by rw [hn1]; exact val_lt da
  have PST := Lib.hid (parts_start (val lb) hval)
  have BIT := Lib.hid (fun i => bit_at da i)
  have DG := Lib.hid (fun k w' (e : Bl w w') hk => digit_any w' (.slice a1 n1 c1) la k (hra.bl e) hk)
  have DB := Lib.hid (fun k => da.getD k)
  have RB := Lib.hid (fun w' (e : Bl w w') => hrb.bl e)
  clear hn1 hval
  have L1 := Lib.hid l1; have L2 := Lib.hid l2
  clear l1 l2 hx hy
  go_enter Try.func33, Try.ntmps33
  go_wp2_with (go_at_call 23; (with_reducible refine (OF _).mono ?_); rintro e w1 ⟨v, rfl, hnum, hb⟩; obtain ⟨t, a6, n6, c6, rfl⟩ := hnum.form; obtain rfl := num_one hnum; have st0 := ST.out w1 _ hb hnum; obtain ⟨⟨f1, f2⟩, ⟨f3, f4⟩, ⟨f5, f6, f7, f8⟩, ⟨f9, f10, f11, f12⟩, ⟨f13, f14⟩, f15, f16⟩ := st0.facts; clear hnum hb)
  go_loopw [9] (fun i wr => ∃ (t Q R : Nat) (tq tr : Bool) (aq : Option Addr) (nq cq : Nat) (ar : Option Addr) (nr cr : Nat), i = .int .i64 ((t : Int) - 1) ∧ t ≤ 16 * n1 ∧ val la / 2 ^ t = Q * val lb + R ∧ R < val lb ∧
      PSt w w1.heap.size ba (.slice a1 n1 c1) bb (.slice a2 n2 c2) (.slice a6 n6 c6) wr tq (.slice aq nq cq) tr (.slice ar nr cr) Q R) (fun i _ => (intOf i + 1).toNat)
  case atStart => exact ⟨16 * n1, 0, 0, false, false, none, 0, 0, none, 0, 0, by congr 1 <;> omega, Nat.le_refl _, PST.out, hb0, st0⟩
  case round =>
    clear f1 f2 f3 f4 f5 f6 f7 f8 f9 f10 f11 f12 f13 f14 f15 f16 st0 OF ST
    obtain ⟨t, Q, R, tq, tr, aq, nq, cq, ar, nr, cr, rfl, ht, hQR, hR, st⟩ := hrel
    obtain ⟨⟨f1, f2⟩, ⟨f3, f4⟩, ⟨f5, f6, f7, f8⟩, ⟨f9, f10, f11, f12⟩, ⟨f13, f14⟩, f15, f16⟩ := st.facts
    cases t with
    | zero =>
      have e : ((0 : Nat) : Int) - 1 = -1 := rfl
      rw [e]; clear e
      obtain ⟨bq, br⟩ := parts_bd hQR hR va vb
      rw [Nat.pow_zero, Nat.div_one] at hQR
      have END := parts_end hQR hR ba bb
      have YS := Lib.hid ey
      rw [← ex, ← ey] at END
      have NB := Lib.hid (show NumIs w (.agg #[.bool bb, .slice a2 n2 c2]) y from ⟨bb, _, lb, rfl, hrb, db, nb, ey, hbb⟩)
      have SY := Lib.hid (show Sm 100 y by rw [ey]; cases bb <;> exact sg_sm vb)
      clear hQR hR va vb hb0 PST BIT DG DB RB L1 L2 ex ey da na db nb hra hrb hba hbb HN hy0
      cases ba <;> cases bb
      · have HT := num_facts st.r
        by_cases hR0 : R = 0
        · have EQ := Lib.hid (END.1 (.inl hR0))
          have hlen : decide (0 < nr) = false := decide_eq_false (by have := (HT.1 (by omega)).1; omega)
          clear END HT hR0
          go_wp2_with fail
          obtain ⟨g1, g2, g3, g4, -⟩ := st.r1.cells
          obtain ⟨g5, g6, g7, g8, -⟩ := st.r2.cells
          have FIN := Lib.hid (parts_fin st)
          clear st
          go_region
          all_goals
            go_wp2
            refine bodyPost_ret (v := .tuple #[.agg #[.bool tq, .slice aq nq cq], .agg #[.bool tr, .slice ar nr cr]]) (by simp [results, Try.results33, go_sem, g1, g2, g5, g6]) rfl ?_
            rw [EQ.out.1, EQ.out.2]
            exact FIN.out
        · have EQ := Lib.hid (END.1 (.inr (by simp)))
          have hlen : decide (0 < nr) = true := decide_eq_true (by have := HT.2.1 (by omega); omega)
          obtain rfl := HT.2.2.1 (by omega)
          clear END HT hR0
          go_wp2_with fail
          obtain ⟨g1, g2, g3, g4, -⟩ := st.r1.cells
          obtain ⟨g5, g6, g7, g8, -⟩ := st.r2.cells
          have FIN := Lib.hid (parts_fin st)
          clear st
          go_region
          all_goals
            go_wp2
            refine bodyPost_ret (v := .tuple #[.agg #[.bool tq, .slice aq nq cq], .agg #[.bool false, .slice ar nr cr]]) (by simp [results, Try.results33, go_sem, g1, g2, g5, g6]) rfl ?_
            rw [EQ.out.1, EQ.out.2]
            exact FIN.out
      · go_wp2_with fail
        refine (neg_num _ _ (Q : Int) st.q (sm_of (by omega))).mono ?_
        rintro e W21 ⟨v, rfl, hn21, hb21⟩
        obtain ⟨t21, A21, N21, C21, rfl⟩ := hn21.form
        have sb21 := st.bl hb21
        have st21 := sb21.setQ hn21
        clear f1 f2 f3 f4 f5 f6 f7 f8 f9 f10 f11 f12 f13 f14 f15 f16 hn21 hb21 st
        obtain ⟨⟨f1, f2⟩, ⟨f3, f4⟩, ⟨f5, f6, f7, f8⟩, ⟨f9, f10, f11, f12⟩, ⟨f13, f14⟩, f15, f16⟩ := sb21.facts
        clear sb21
        have HT := num_facts st21.r
        by_cases hR0 : R = 0
        · have EQ := Lib.hid (END.1 (.inl hR0))
          have hlen : decide (0 < nr) = false := decide_eq_false (by have := (HT.1 (by omega)).1; omega)
          clear END HT hR0
          go_wp2_with fail
          clear f1 f2 f3 f4 f5 f6 f7 f8 f9 f10 f11 f12 f13 f14 f15 f16
          unfold putNum at st21
          generalize ((W21.setCell ⟨w.heap.size + 1 + 1 + 1 + 1, 0, none⟩ (.bool t21)).setCell ⟨w.heap.size + 1 + 1 + 1 + 1, 1, none⟩ (.slice A21 N21 C21)) = X at *
          obtain ⟨⟨f1, f2⟩, ⟨f3, f4⟩, ⟨f5, f6, f7, f8⟩, ⟨f9, f10, f11, f12⟩, ⟨f13, f14⟩, f15, f16⟩ := st21.facts
          obtain ⟨g1, g2, g3, g4, -⟩ := st21.r1.cells
          obtain ⟨g5, g6, g7, g8, -⟩ := st21.r2.cells
          have FIN := Lib.hid (parts_fin st21)
          clear st21
          go_region
          all_goals
            go_wp2
            refine bodyPost_ret (v := .tuple #[.agg #[.bool t21, .slice A21 N21 C21], .agg #[.bool tr, .slice ar nr cr]]) (by simp [results, Try.results33, go_sem, g1, g2, g5, g6]) rfl ?_
            rw [EQ.out.1, EQ.out.2]
            exact FIN.out
        · have EQ := Lib.hid (END.2 hR0 (by decide))
          have hlen : decide (0 < nr) = true := decide_eq_true (by have := HT.2.1 (by omega); omega)
          obtain rfl := HT.2.2.1 (by omega)
          clear END HT hR0
          go_wp2_with fail
          clear f1 f2 f3 f4 f5 f6 f7 f8 f9 f10 f11 f12 f13 f14 f15 f16
          unfold putNum at st21
          generalize ((W21.setCell ⟨w.heap.size + 1 + 1 + 1 + 1, 0, none⟩ (.bool t21)).setCell ⟨w.heap.size + 1 + 1 + 1 + 1, 1, none⟩ (.slice A21 N21 C21)) = X at *
          have sd := st21.drew
          obtain ⟨⟨f1, f2⟩, ⟨f3, f4⟩, ⟨f5, f6, f7, f8⟩, ⟨f9, f10, f11, f12⟩, ⟨f13, f14⟩, f15, f16⟩ := st21.facts
          go_region_with (first
            | (go_at_call 23; (with_reducible refine (of_any (-1) _ (by decide)).mono ?_); rintro e W23 ⟨v, rfl, hn23, hb23⟩; obtain ⟨t23, A23, N23, C23, rfl⟩ := hn23.form; have sx := sd.bl hb23; clear f1 f2 f3 f4 f5 f6 f7 f8 f9 f10 f11 f12 f13 f14 f15 f16; obtain ⟨⟨f1, f2⟩, ⟨f3, f4⟩, ⟨f5, f6, f7, f8⟩, ⟨f9, f10, f11, f12⟩, ⟨f13, f14⟩, f15, f16⟩ := sx.facts)
            | (go_at_call 31; refine (add_num _ _ _ (-(Q : Int)) (-1) sx.q hn23 (sm_of_neg (by omega)) (sm_of_neg (by decide))).mono ?_; rintro e W24 ⟨v, rfl, hn24, hb24⟩; obtain ⟨t24, A24, N24, C24, rfl⟩ := hn24.form; have sb24 := sx.bl hb24; have st24 := sb24.setQ hn24; clear f1 f2 f3 f4 f5 f6 f7 f8 f9 f10 f11 f12 f13 f14 f15 f16 hn24 hb24 hn23 hb23 sx sd st21; obtain ⟨⟨f1, f2⟩, ⟨f3, f4⟩, ⟨f5, f6, f7, f8⟩, ⟨f9, f10, f11, f12⟩, ⟨f13, f14⟩, f15, f16⟩ := sb24.facts; clear sb24))
          all_goals
            go_wp2_with fail
            refine (add_num _ _ _ (R : Int) y st24.r (NB.out.bl st24.low) (sm_of_neg (by omega)) SY.out).mono ?_
            rintro e W25 ⟨v, rfl, hn25, hb25⟩
            obtain ⟨t25, A25, N25, C25, rfl⟩ := hn25.form
            have sb25 := st24.bl hb25
            have st25 := sb25.setR hn25
            clear f1 f2 f3 f4 f5 f6 f7 f8 f9 f10 f11 f12 f13 f14 f15 f16 hn25 hb25 st24
            obtain ⟨⟨f1, f2⟩, ⟨f3, f4⟩, ⟨f5, f6, f7, f8⟩, ⟨f9, f10, f11, f12⟩, ⟨f13, f14⟩, f15, f16⟩ := sb25.facts
            clear sb25
            go_wp2_with fail
            clear f1 f2 f3 f4 f5 f6 f7 f8 f9 f10 f11 f12 f13 f14 f15 f16
            unfold putNum at st25
            generalize ((W25.setCell ⟨w.heap.size + 1 + 1 + 1 + 1 + 1, 0, none⟩ (.bool t25)).setCell ⟨w.heap.size + 1 + 1 + 1 + 1 + 1, 1, none⟩ (.slice A25 N25 C25)) = X at *
            obtain ⟨⟨f1, f2⟩, ⟨f3, f4⟩, ⟨f5, f6, f7, f8⟩, ⟨f9, f10, f11, f12⟩, ⟨f13, f14⟩, f15, f16⟩ := st25.facts
            obtain ⟨g1, g2, g3, g4, -⟩ := st25.r1.cells
            obtain ⟨g5, g6, g7, g8, -⟩ := st25.r2.cells
            have FIN := Lib.hid (parts_fin st25)
            clear st25
            go_region
            all_goals
              go_wp2
              refine bodyPost_ret (v := .tuple #[.agg #[.bool t24, .slice A24 N24 C24], .agg #[.bool t25, .slice A25 N25 C25]]) (by simp [results, Try.results33, go_sem, g1, g2, g5, g6]) rfl ?_
              rw [EQ.out.1, EQ.out.2]
              exact FIN.out
      · go_wp2_with fail
        refine (neg_num _ _ (Q : Int) st.q (sm_of (by omega))).mono ?_
        rintro e W21 ⟨v, rfl, hn21, hb21⟩
        obtain ⟨t21, A21, N21, C21, rfl⟩ := hn21.form
        have sb21 := st.bl hb21
        have st21 := sb21.setQ hn21
        clear f1 f2 f3 f4 f5 f6 f7 f8 f9 f10 f11 f12 f13 f14 f15 f16 hn21 hb21 st
        obtain ⟨⟨f1, f2⟩, ⟨f3, f4⟩, ⟨f5, f6, f7, f8⟩, ⟨f9, f10, f11, f12⟩, ⟨f13, f14⟩, f15, f16⟩ := sb21.facts
        clear sb21
        go_wp2_with fail
        refine (neg_num _ _ (R : Int) st21.r (sm_of (by omega))).mono ?_
        rintro e W22 ⟨v, rfl, hn22, hb22⟩
        obtain ⟨t22, A22, N22, C22, rfl⟩ := hn22.form
        have sb22 := st21.bl hb22
        have st22 := sb22.setR hn22
        clear f1 f2 f3 f4 f5 f6 f7 f8 f9 f10 f11 f12 f13 f14 f15 f16 hn22 hb22 st21
        obtain ⟨⟨f1, f2⟩, ⟨f3, f4⟩, ⟨f5, f6, f7, f8⟩, ⟨f9, f10, f11, f12⟩, ⟨f13, f14⟩, f15, f16⟩ := sb22.facts
        clear sb22
        have HT := num_facts st22.r
        by_cases hR0 : R = 0
        · have EQ := Lib.hid (END.1 (.inl hR0))
          have hlen : decide (0 < N22) = false := decide_eq_false (by have := (HT.1 (by omega)).1; omega)
          clear END HT hR0
          go_wp2_with fail
          clear f1 f2 f3 f4 f5 f6 f7 f8 f9 f10 f11 f12 f13 f14 f15 f16
          unfold putNum at st22
          generalize ((W22.setCell ⟨w.heap.size + 1 + 1 + 1 + 1 + 1, 0, none⟩ (.bool t22)).setCell ⟨w.heap.size + 1 + 1 + 1 + 1 + 1, 1, none⟩ (.slice A22 N22 C22)) = X at *
          obtain ⟨⟨f1, f2⟩, ⟨f3, f4⟩, ⟨f5, f6, f7, f8⟩, ⟨f9, f10, f11, f12⟩, ⟨f13, f14⟩, f15, f16⟩ := st22.facts
          obtain ⟨g1, g2, g3, g4, -⟩ := st22.r1.cells
          obtain ⟨g5, g6, g7, g8, -⟩ := st22.r2.cells
          have FIN := Lib.hid (parts_fin st22)
          clear st22
          go_region
          all_goals
            go_wp2
            refine bodyPost_ret (v := .tuple #[.agg #[.bool t21, .slice A21 N21 C21], .agg #[.bool t22, .slice A22 N22 C22]]) (by simp [results, Try.results33, go_sem, g1, g2, g5, g6]) rfl ?_
            rw [EQ.out.1, EQ.out.2]
            exact FIN.out
        · have EQ := Lib.hid (END.2 hR0 (by decide))
          have hlen : decide (0 < N22) = true := decide_eq_true (by have := HT.2.1 (by omega); omega)
          obtain rfl := HT.2.2.2 (by omega)
          clear END HT hR0
          go_wp2_with fail
          clear f1 f2 f3 f4 f5 f6 f7 f8 f9 f10 f11 f12 f13 f14 f15 f16
          unfold putNum at st22
          generalize ((W22.setCell ⟨w.heap.size + 1 + 1 + 1 + 1 + 1, 0, none⟩ (.bool true)).setCell ⟨w.heap.size + 1 + 1 + 1 + 1 + 1, 1, none⟩ (.slice A22 N22 C22)) = X at *
          have sd := st22.drew
          obtain ⟨⟨f1, f2⟩, ⟨f3, f4⟩, ⟨f5, f6, f7, f8⟩, ⟨f9, f10, f11, f12⟩, ⟨f13, f14⟩, f15, f16⟩ := st22.facts
          go_region_with (first
            | (go_at_call 23; (with_reducible refine (of_any (-1) _ (by decide)).mono ?_); rintro e W23 ⟨v, rfl, hn23, hb23⟩; obtain ⟨t23, A23, N23, C23, rfl⟩ := hn23.form; have sx := sd.bl hb23; clear f1 f2 f3 f4 f5 f6 f7 f8 f9 f10 f11 f12 f13 f14 f15 f16; obtain ⟨⟨f1, f2⟩, ⟨f3, f4⟩, ⟨f5, f6, f7, f8⟩, ⟨f9, f10, f11, f12⟩, ⟨f13, f14⟩, f15, f16⟩ := sx.facts)
            | (go_at_call 31; refine (add_num _ _ _ (-(Q : Int)) (-1) sx.q hn23 (sm_of_neg (by omega)) (sm_of_neg (by decide))).mono ?_; rintro e W24 ⟨v, rfl, hn24, hb24⟩; obtain ⟨t24, A24, N24, C24, rfl⟩ := hn24.form; have sb24 := sx.bl hb24; have st24 := sb24.setQ hn24; clear f1 f2 f3 f4 f5 f6 f7 f8 f9 f10 f11 f12 f13 f14 f15 f16 hn24 hb24 hn23 hb23 sx sd st22; obtain ⟨⟨f1, f2⟩, ⟨f3, f4⟩, ⟨f5, f6, f7, f8⟩, ⟨f9, f10, f11, f12⟩, ⟨f13, f14⟩, f15, f16⟩ := sb24.facts; clear sb24))
          all_goals
            go_wp2_with fail
            refine (add_num _ _ _ (-(R : Int)) y st24.r (NB.out.bl st24.low) (sm_of_neg (by omega)) SY.out).mono ?_
            rintro e W25 ⟨v, rfl, hn25, hb25⟩
            obtain ⟨t25, A25, N25, C25, rfl⟩ := hn25.form
            have sb25 := st24.bl hb25
            have st25 := sb25.setR hn25
            clear f1 f2 f3 f4 f5 f6 f7 f8 f9 f10 f11 f12 f13 f14 f15 f16 hn25 hb25 st24
            obtain ⟨⟨f1, f2⟩, ⟨f3, f4⟩, ⟨f5, f6, f7, f8⟩, ⟨f9, f10, f11, f12⟩, ⟨f13, f14⟩, f15, f16⟩ := sb25.facts
            clear sb25
            go_wp2_with fail
            clear f1 f2 f3 f4 f5 f6 f7 f8 f9 f10 f11 f12 f13 f14 f15 f16
            unfold putNum at st25
            generalize ((W25.setCell ⟨w.heap.size + 1 + 1 + 1 + 1 + 1, 0, none⟩ (.bool t25)).setCell ⟨w.heap.size + 1 + 1 + 1 + 1 + 1, 1, none⟩ (.slice A25 N25 C25)) = X at *
            obtain ⟨⟨f1, f2⟩, ⟨f3, f4⟩, ⟨f5, f6, f7, f8⟩, ⟨f9, f10, f11, f12⟩, ⟨f13, f14⟩, f15, f16⟩ := st25.facts
            obtain ⟨g1, g2, g3, g4, -⟩ := st25.r1.cells
            obtain ⟨g5, g6, g7, g8, -⟩ := st25.r2.cells
            have FIN := Lib.hid (parts_fin st25)
            clear st25
            go_region
            all_goals
              go_wp2
              refine bodyPost_ret (v := .tuple #[.agg #[.bool t24, .slice A24 N24 C24], .agg #[.bool t25, .slice A25 N25 C25]]) (by simp [results, Try.results33, go_sem, g1, g2, g5, g6]) rfl ?_
              rw [EQ.out.1, EQ.out.2]
              exact FIN.out
      · go_wp2_with fail
        refine (neg_num _ _ (R : Int) st.r (sm_of (by omega))).mono ?_
        rintro e W22 ⟨v, rfl, hn22, hb22⟩
        obtain ⟨t22, A22, N22, C22, rfl⟩ := hn22.form
        have sb22 := st.bl hb22
        have st22 := sb22.setR hn22
        clear f1 f2 f3 f4 f5 f6 f7 f8 f9 f10 f11 f12 f13 f14 f15 f16 hn22 hb22 st
        obtain ⟨⟨f1, f2⟩, ⟨f3, f4⟩, ⟨f5, f6, f7, f8⟩, ⟨f9, f10, f11, f12⟩, ⟨f13, f14⟩, f15, f16⟩ := sb22.facts
        clear sb22
        have HT := num_facts st22.r
        by_cases hR0 : R = 0
        · have EQ := Lib.hid (END.1 (.inl hR0))
          have hlen : decide (0 < N22) = false := decide_eq_false (by have := (HT.1 (by omega)).1; omega)
          clear END HT hR0
          go_wp2_with fail
          clear f1 f2 f3 f4 f5 f6 f7 f8 f9 f10 f11 f12 f13 f14 f15 f16
          unfold putNum at st22
          generalize ((W22.setCell ⟨w.heap.size + 1 + 1 + 1 + 1 + 1, 0, none⟩ (.bool t22)).setCell ⟨w.heap.size + 1 + 1 + 1 + 1 + 1, 1, none⟩ (.slice A22 N22 C22)) = X at *
          obtain ⟨⟨f1, f2⟩, ⟨f3, f4⟩, ⟨f5, f6, f7, f8⟩, ⟨f9, f10, f11, f12⟩, ⟨f13, f14⟩, f15, f16⟩ := st22.facts
          obtain ⟨g1, g2, g3, g4, -⟩ := st22.r1.cells
          obtain ⟨g5, g6, g7, g8, -⟩ := st22.r2.cells
          have FIN := Lib.hid (parts_fin st22)
          clear st22
          go_region
          all_goals
            go_wp2
            refine bodyPost_ret (v := .tuple #[.agg #[.bool tq, .slice aq nq cq], .agg #[.bool t22, .slice A22 N22 C22]]) (by simp [results, Try.results33, go_sem, g1, g2, g5, g6]) rfl ?_
            rw [EQ.out.1, EQ.out.2]
            exact FIN.out
        · have EQ := Lib.hid (END.1 (.inr (by simp)))
          have hlen : decide (0 < N22) = true := decide_eq_true (by have := HT.2.1 (by omega); omega)
          obtain rfl := HT.2.2.2 (by omega)
          clear END HT hR0
          go_wp2_with fail
          clear f1 f2 f3 f4 f5 f6 f7 f8 f9 f10 f11 f12 f13 f14 f15 f16
          unfold putNum at st22
          generalize ((W22.setCell ⟨w.heap.size + 1 + 1 + 1 + 1 + 1, 0, none⟩ (.bool true)).setCell ⟨w.heap.size + 1 + 1 + 1 + 1 + 1, 1, none⟩ (.slice A22 N22 C22)) = X at *
          obtain ⟨⟨f1, f2⟩, ⟨f3, f4⟩, ⟨f5, f6, f7, f8⟩, ⟨f9, f10, f11, f12⟩, ⟨f13, f14⟩, f15, f16⟩ := st22.facts
          obtain ⟨g1, g2, g3, g4, -⟩ := st22.r1.cells
          obtain ⟨g5, g6, g7, g8, -⟩ := st22.r2.cells
          have FIN := Lib.hid (parts_fin st22)
          clear st22
          go_region
          all_goals
            go_wp2
            refine bodyPost_ret (v := .tuple #[.agg #[.bool tq, .slice aq nq cq], .agg #[.bool true, .slice A22 N22 C22]]) (by simp [results, Try.results33, go_sem, g1, g2, g5, g6]) rfl ?_
            rw [EQ.out.1, EQ.out.2]
            exact FIN.out
    | succ t =>
      have e : ((t + 1 : Nat) : Int) - 1 = (t : Int) := by omega
      rw [e]; clear e
      obtain ⟨bq, br⟩ := parts_bd hQR hR va vb
      go_wp2_with fail
      refine (add_num _ _ _ Q Q st.q st.q (sm_of (by omega)) (sm_of (by omega))).mono ?_
      rintro e W2 ⟨v, rfl, hn2, hb2⟩
      obtain ⟨t2, A2, N2, C2, rfl⟩ := hn2.form
      have sb2 := st.bl hb2
      have st2 := sb2.setQ hn2
      clear f1 f2 f3 f4 f5 f6 f7 f8 f9 f10 f11 f12 f13 f14 f15 f16 hn2 hb2 st
      obtain ⟨⟨f1, f2⟩, ⟨f3, f4⟩, ⟨f5, f6, f7, f8⟩, ⟨f9, f10, f11, f12⟩, ⟨f13, f14⟩, f15, f16⟩ := sb2.facts
      clear sb2
      go_wp2_with fail
      refine (add_num _ _ _ R R st2.r st2.r (sm_of (by omega)) (sm_of (by omega))).mono ?_
      rintro e W3 ⟨v, rfl, hn3, hb3⟩
      obtain ⟨t3, A3, N3, C3, rfl⟩ := hn3.form
      have sb3 := st2.bl hb3
      have st3 := sb3.setR hn3
      clear f1 f2 f3 f4 f5 f6 f7 f8 f9 f10 f11 f12 f13 f14 f15 f16 hn3 hb3 st2
      obtain ⟨⟨f1, f2⟩, ⟨f3, f4⟩, ⟨f5, f6, f7, f8⟩, ⟨f9, f10, f11, f12⟩, ⟨f13, f14⟩, f15, f16⟩ := sb3.facts
      clear sb3
      have dg := DG.out (t / 16) _ st3.low (by omega)
      rw [show ((t / 16 : Nat) : Int) = (t : Int) / 16 from by omega] at dg
      have bt := BIT.out t
      have gd := DB.out (t / 16)
      have HQ := parts_step hQR
      generalize la.getD (t / 16) 0 = d at *
      have bt2 := bit_test d (t % 16)
      rw [← bt] at bt2
      clear bt
      go_wp2_with fail
      refine dg.mono ?_
      rintro e W4 ⟨rfl, rfl⟩
      clear dg
      have hbit : val la / 2 ^ t % 2 < 2 := Nat.mod_lt _ (by decide)
      by_cases hb1 : val la / 2 ^ t % 2 = 1
      · rw [decide_eq_true hb1] at bt2
        rw [hb1] at HQ
        clear hbit
        go_wp2_with fail
        refine (add_num _ _ _ (R + R : Nat) 1 st3.r st3.one (sm_of (by omega)) (sm_of (n := 1) (by decide))).mono ?_
        rintro e W5 ⟨v, rfl, hn5, hb5⟩
        obtain ⟨t5, A5, N5, C5, rfl⟩ := hn5.form
        have sb5 := st3.bl hb5
        have st5 := sb5.setR hn5
        clear f1 f2 f3 f4 f5 f6 f7 f8 f9 f10 f11 f12 f13 f14 f15 f16 hn5 hb5 st3
        obtain ⟨⟨f1, f2⟩, ⟨f3, f4⟩, ⟨f5, f6, f7, f8⟩, ⟨f9, f10, f11, f12⟩, ⟨f13, f14⟩, f15, f16⟩ := sb5.facts
        clear sb5
        clear bt2 hb1
        obtain ⟨lr, rr, dr, nrr, er, -⟩ := st5.r.row
        have vr : val lr = (R + R + 1) := by have := congrArg Int.natAbs er; rw [sg_abs] at this; omega
        have lrl := sm_len (sm_of (show (R + R + 1) < 4 * K5 by omega)) er nrr
        have CC := compare_any _ _ _ lr lb rr (RB.out _ st5.low) dr db (by omega) (by have := L2.out; omega)
        rw [vr] at CC
        go_wp2_with fail
        refine CC.mono ?_
        rintro e W9 ⟨cv, rfl, hcv, rfl⟩
        clear CC
        by_cases hge : val lb ≤ (R + R + 1)
        · have hcv2 : 0 ≤ cv := hcv.2 hge
          have CL := less_le _ _ _ lr lb rr (RB.out _ st5.low) dr db 100 lrl (by omega) (by omega)
          rw [vr] at CL
          clear hcv rr dr nrr er vr lrl
          go_wp2_with fail
          refine CL.mono ?_
          rintro e W10 ⟨s', l', rfl, hr10, hd10, hl10, hv10, hb10⟩
          have sx := st5.bl hb10
          have CW := whole_of (b := false) (z := (((R + R + 1) - val lb : Nat) : Int)) (Bl.refl _) hr10 hd10 hl10 (by omega) (by rw [hv10]; rfl)
          clear f1 f2 f3 f4 f5 f6 f7 f8 f9 f10 f11 f12 f13 f14 f15 f16 hr10 hd10 hl10 hv10 hb10 st5 CL
          obtain ⟨⟨f1, f2⟩, ⟨f3, f4⟩, ⟨f5, f6, f7, f8⟩, ⟨f9, f10, f11, f12⟩, ⟨f13, f14⟩, f15, f16⟩ := sx.facts
          go_wp2_with fail
          refine CW.mono ?_
          clear CW
          rintro e W11 ⟨v, rfl, hn11, hb11⟩
          obtain ⟨t11, A11, N11, C11, rfl⟩ := hn11.form
          have sb11 := sx.bl hb11
          have st11 := sb11.setR hn11
          clear f1 f2 f3 f4 f5 f6 f7 f8 f9 f10 f11 f12 f13 f14 f15 f16 hn11 hb11 sx
          obtain ⟨⟨f1, f2⟩, ⟨f3, f4⟩, ⟨f5, f6, f7, f8⟩, ⟨f9, f10, f11, f12⟩, ⟨f13, f14⟩, f15, f16⟩ := sb11.facts
          clear sb11
          go_wp2_with fail
          refine (add_num _ _ _ (Q + Q : Nat) 1 st11.q st11.one (sm_of (by omega)) (sm_of (n := 1) (by decide))).mono ?_
          rintro e W12 ⟨v, rfl, hn12, hb12⟩
          obtain ⟨t12, A12, N12, C12, rfl⟩ := hn12.form
          have sb12 := st11.bl hb12
          have st12 := sb12.setQ hn12
          clear f1 f2 f3 f4 f5 f6 f7 f8 f9 f10 f11 f12 f13 f14 f15 f16 hn12 hb12 st11
          obtain ⟨⟨f1, f2⟩, ⟨f3, f4⟩, ⟨f5, f6, f7, f8⟩, ⟨f9, f10, f11, f12⟩, ⟨f13, f14⟩, f15, f16⟩ := sb12.facts
          clear sb12
          go_wp2_with fail
          go_roundw
          case rel => exact ⟨t, Q + Q + 1, (R + R + 1) - val lb, _, _, _, _, _, _, _, _, rfl, by omega, parts_step1 HQ hge, by omega, st12⟩
          case measure => simp [intOf] <;> omega
        · have hcv2 : cv < 0 := Int.not_le.1 (fun h => hge (hcv.1 h))
          clear hcv rr dr nrr er vr lrl
          go_wp2_with fail
          go_roundw
          case rel => exact ⟨t, Q + Q, (R + R + 1), _, _, _, _, _, _, _, _, rfl, by omega, HQ, by omega, st5⟩
          case measure => simp [intOf] <;> omega
      · rw [decide_eq_false hb1] at bt2
        rw [show val la / 2 ^ t % 2 = 0 by omega, Nat.add_zero] at HQ
        clear hbit hb1
        obtain ⟨lr, rr, dr, nrr, er, -⟩ := st3.r.row
        have vr : val lr = (R + R) := by have := congrArg Int.natAbs er; rw [sg_abs] at this; omega
        have lrl := sm_len (sm_of (show (R + R) < 4 * K5 by omega)) er nrr
        have CC := compare_any _ _ _ lr lb rr (RB.out _ st3.low) dr db (by omega) (by have := L2.out; omega)
        rw [vr] at CC
        go_wp2_with fail
        refine CC.mono ?_
        rintro e W9 ⟨cv, rfl, hcv, rfl⟩
        clear CC
        by_cases hge : val lb ≤ (R + R)
        · have hcv2 : 0 ≤ cv := hcv.2 hge
          have CL := less_le _ _ _ lr lb rr (RB.out _ st3.low) dr db 100 lrl (by omega) (by omega)
          rw [vr] at CL
          clear hcv rr dr nrr er vr lrl
          go_wp2_with fail
          refine CL.mono ?_
          rintro e W10 ⟨s', l', rfl, hr10, hd10, hl10, hv10, hb10⟩
          have sx := st3.bl hb10
          have CW := whole_of (b := false) (z := (((R + R) - val lb : Nat) : Int)) (Bl.refl _) hr10 hd10 hl10 (by omega) (by rw [hv10]; rfl)
          clear f1 f2 f3 f4 f5 f6 f7 f8 f9 f10 f11 f12 f13 f14 f15 f16 hr10 hd10 hl10 hv10 hb10 st3 CL
          obtain ⟨⟨f1, f2⟩, ⟨f3, f4⟩, ⟨f5, f6, f7, f8⟩, ⟨f9, f10, f11, f12⟩, ⟨f13, f14⟩, f15, f16⟩ := sx.facts
          go_wp2_with fail
          refine CW.mono ?_
          clear CW
          rintro e W11 ⟨v, rfl, hn11, hb11⟩
          obtain ⟨t11, A11, N11, C11, rfl⟩ := hn11.form
          have sb11 := sx.bl hb11
          have st11 := sb11.setR hn11
          clear f1 f2 f3 f4 f5 f6 f7 f8 f9 f10 f11 f12 f13 f14 f15 f16 hn11 hb11 sx
          obtain ⟨⟨f1, f2⟩, ⟨f3, f4⟩, ⟨f5, f6, f7, f8⟩, ⟨f9, f10, f11, f12⟩, ⟨f13, f14⟩, f15, f16⟩ := sb11.facts
          clear sb11
          go_wp2_with fail
          refine (add_num _ _ _ (Q + Q : Nat) 1 st11.q st11.one (sm_of (by omega)) (sm_of (n := 1) (by decide))).mono ?_
          rintro e W12 ⟨v, rfl, hn12, hb12⟩
          obtain ⟨t12, A12, N12, C12, rfl⟩ := hn12.form
          have sb12 := st11.bl hb12
          have st12 := sb12.setQ hn12
          clear f1 f2 f3 f4 f5 f6 f7 f8 f9 f10 f11 f12 f13 f14 f15 f16 hn12 hb12 st11
          obtain ⟨⟨f1, f2⟩, ⟨f3, f4⟩, ⟨f5, f6, f7, f8⟩, ⟨f9, f10, f11, f12⟩, ⟨f13, f14⟩, f15, f16⟩ := sb12.facts
          clear sb12
          go_wp2_with fail
          go_roundw
          case rel => exact ⟨t, Q + Q + 1, (R + R) - val lb, _, _, _, _, _, _, _, _, rfl, by omega, parts_step1 HQ hge, by omega, st12⟩
          case measure => simp [intOf] <;> omega
        · have hcv2 : cv < 0 := Int.not_le.1 (fun h => hge (hcv.1 h))
          clear hcv rr dr nrr er vr lrl
          go_wp2_with fail
          go_roundw
          case rel => exact ⟨t, Q + Q, (R + R), _, _, _, _, _, _, _, _, rfl, by omega, HQ, by omega, st3⟩
          case measure => simp [intOf] <;> omega
end Go.Proofs.Ytcbfognflngbaaa.Num
