/- Contract of the reference's Do. -/
import Derived.Test.YtcbfognflngbaaaRefO
set_option linter.unusedVariables false
namespace Go.Proofs.Ytcbfognflngbaaa.Num
open Go.RowKit
structure DSt (w : World) (px py : Nat) (wr : World) (tx : Bool) (sx : Value) (ty : Bool) (sy : Value) (X Y : Int) : Prop where
  low : Below w.heap.size w wr
  nx : NV wr px tx sx
  ny : NV wr py ty sy
  hp : w.heap.size ≤ px ∧ px < py
  x : NumIs wr (.agg #[.bool tx, sx]) X
  y : NumIs wr (.agg #[.bool ty, sy]) Y
section
variable {w wr w1 : World} {px py : Nat} {tx ty : Bool} {sx sy : Value} {X Y : Int}
theorem DSt.bl (h : DSt w px py wr tx sx ty sy X Y) (hb : Bl wr w1) : DSt w px py w1 tx sx ty sy X Y :=
  ⟨h.low.trans (hb.mono (Below.size h.low)), h.nx.bl hb, h.ny.bl hb, h.hp, h.x.bl hb, h.y.bl hb⟩
theorem DSt.setX (h : DSt w px py wr tx sx ty sy X Y) {t : Bool} {s : Value} {X' : Int} (hn : NumIs wr (.agg #[.bool t, s]) X') : DSt w px py (putNum wr px t s) t s ty sy X' Y :=
  ⟨below_put h.low h.hp.1, h.nx.put hn.slice, h.ny.other (by have := h.hp; omega), h.hp, hn.put h.nx, h.y.put h.nx⟩
theorem DSt.drew (h : DSt w px py wr tx sx ty sy X Y) : DSt w px py wr.drew tx sx ty sy X Y := ⟨Below.drew h.low, h.nx, h.ny, h.hp, h.x, h.y⟩
theorem DSt.facts (h : DSt w px py wr tx sx ty sy X Y) : (wr.cell? ⟨px, 0, none⟩ = some (.bool tx) ∧ wr.cell? ⟨px, 1, none⟩ = some sx ∧ wr.frozen? ⟨px, 0, none⟩ = false ∧ wr.frozen? ⟨px, 1, none⟩ = false) ∧ (wr.cell? ⟨py, 0, none⟩ = some (.bool ty) ∧ wr.cell? ⟨py, 1, none⟩ = some sy) ∧ px < py ∧ py < wr.heap.size :=
  ⟨⟨h.nx.cells.1, h.nx.cells.2.1, h.nx.cells.2.2.1, h.nx.cells.2.2.2.1⟩, ⟨h.ny.cells.1, h.ny.cells.2.1⟩, h.hp.2, h.ny.lt⟩
end
theorem DSt.start {w w1 w2 : World} {t1 t2 : Bool} {s1 s2 : Value} {X Y : Int} (h1 : Bl w w1) (hn1 : NumIs w1 (.agg #[.bool t1, s1]) X) (h2 : Bl (w1.alloc (.cells #[.bool t1, s1] 37)) w2) (hn2 : NumIs w2 (.agg #[.bool t2, s2]) Y) :
    DSt w w1.heap.size w2.heap.size (w2.alloc (.cells #[.bool t2, s2] 37)) t1 s1 t2 s2 X Y := by
  have ha := Bl.al w1 (.cells #[.bool t1, s1] 37)
  have hb := Bl.al w2 (.cells #[.bool t2, s2] 37)
  have hsz := Below.size h2
  rw [size_al] at hsz
  have hs1 : w.heap.size ≤ w1.heap.size := Below.size h1
  exact ⟨Bl.trans (Bl.trans (Bl.trans h1 ha) h2) hb, ((NV.new w1 t1 hn1.slice).bl h2).bl hb, NV.new w2 t2 hn2.slice, ⟨hs1, by omega⟩, ((hn1.bl ha).bl h2).bl hb, hn2.bl hb⟩
theorem fits_lt {z : Int} (h : Fits z) : z.natAbs < K5 := by
  have : (18446744073709551616 : Nat) < K5 := by decide
  unfold Fits at h
  omega
theorem sm_prod {x y : Int} (h : x.natAbs < K5) (hx : y.natAbs < K5) : Sm 100 (x * y) := by
  unfold Sm
  rw [Int.natAbs_mul]
  have h1 : x.natAbs * y.natAbs < K5 * K5 := Nat.mul_lt_mul'' h hx
  have h2 : K5 * K5 ≤ 65536 ^ 10 := by decide
  have h3 : (65536 : Nat) ^ 10 ≤ 65536 ^ 100 := Nat.pow_le_pow_right (by decide) (by decide)
  exact Nat.lt_of_lt_of_le h1 (Nat.le_trans h2 h3)
def DA (w : World) (r : Int × ByteArray) (e : Ending) (w' : World) : Prop := e = two r.1 r.2 ∧ Bl w w'
set_option maxHeartbeats 8000000 in
theorem refdo_add (a b : Int) (w : World) (ha : Fits a) (hb : Fits b) :
    Calls Try.prog 16 #[.string ⟨#[43]⟩, .int .i64 a, .int .i64 b] w (DA w (chk (a + b))) := by
  have c1 := fun w => of_any a w ha
  have c2 := fun w => of_any b w hb
  have S1 := sm_of_neg (z := a) (by have := fits_lt ha; omega)
  have S2 := sm_of_neg (z := b) (by have := fits_lt hb; omega)
  have S3 : Sm 900 (a + b) := sm_up (sm_of_neg (z := a + b) (by have := fits_lt ha; have := fits_lt hb; omega)) (by decide)
  by_cases hF : Fits (a + b)
  · have F := Lib.hid (chk_ok hF)
    clear ha hb
    go_enter Try.func16, Try.ntmps16
    go_wp2_with fail
    refine (c1 _).mono ?_
    rintro e W1 ⟨v, rfl, hn1, hb1⟩
    obtain ⟨t1, A1, N1, C1, rfl⟩ := hn1.form
    go_wp2_with fail
    refine (c2 _).mono ?_
    rintro e W2 ⟨v, rfl, hn2, hb2⟩
    obtain ⟨t2, A2, N2, C2, rfl⟩ := hn2.form
    have st := DSt.start hb1 hn1 hb2 hn2
    clear hb1 hn1 hb2 hn2 c1 c2
    obtain ⟨⟨f1, f2, f3, f4⟩, ⟨f5, f6⟩, f7, f8⟩ := st.facts
    go_wp2_with fail
    refine (add_num _ _ _ a b st.x st.y S1 S2).mono ?_
    rintro e W3 ⟨v, rfl, hn3, hb3⟩
    obtain ⟨t3, A3, N3, C3, rfl⟩ := hn3.form
    have s3 := st.bl hb3
    have st3 := s3.setX hn3
    clear f1 f2 f3 f4 f5 f6 f7 f8 hn3 hb3 st
    obtain ⟨⟨f1, f2, f3, f4⟩, ⟨f5, f6⟩, f7, f8⟩ := s3.facts
    clear s3
    go_wp2_with fail
    unfold putNum at st3
    refine (int_good (int_num _ _ _ st3.x S3) hF).mono ?_
    rintro e W4 ⟨rfl, hb4⟩
    have LO := Lib.hid (st3.low.trans (hb4.mono (Below.size st3.low)))
    clear st3 hb4 hF S1 S2 S3 f1 f2 f3 f4 f5 f6 f7 f8
    go_wp2
    go_ret2
    exact ⟨by rw [F.out]; rfl, LO.out⟩
  · have F := Lib.hid (chk_no hF)
    clear ha hb
    go_enter Try.func16, Try.ntmps16
    go_wp2_with fail
    refine (c1 _).mono ?_
    rintro e W1 ⟨v, rfl, hn1, hb1⟩
    obtain ⟨t1, A1, N1, C1, rfl⟩ := hn1.form
    go_wp2_with fail
    refine (c2 _).mono ?_
    rintro e W2 ⟨v, rfl, hn2, hb2⟩
    obtain ⟨t2, A2, N2, C2, rfl⟩ := hn2.form
    have st := DSt.start hb1 hn1 hb2 hn2
    clear hb1 hn1 hb2 hn2 c1 c2
    obtain ⟨⟨f1, f2, f3, f4⟩, ⟨f5, f6⟩, f7, f8⟩ := st.facts
    go_wp2_with fail
    refine (add_num _ _ _ a b st.x st.y S1 S2).mono ?_
    rintro e W3 ⟨v, rfl, hn3, hb3⟩
    obtain ⟨t3, A3, N3, C3, rfl⟩ := hn3.form
    have s3 := st.bl hb3
    have st3 := s3.setX hn3
    clear f1 f2 f3 f4 f5 f6 f7 f8 hn3 hb3 st
    obtain ⟨⟨f1, f2, f3, f4⟩, ⟨f5, f6⟩, f7, f8⟩ := s3.facts
    clear s3
    go_wp2_with fail
    unfold putNum at st3
    refine (int_bad (int_num _ _ _ st3.x S3) hF).mono ?_
    rintro e W4 ⟨n4, rfl, hb4⟩
    have LO := Lib.hid (st3.low.trans (hb4.mono (Below.size st3.low)))
    clear st3 hb4 hF S1 S2 S3 f1 f2 f3 f4 f5 f6 f7 f8
    go_wp2
    go_ret2
    exact ⟨by rw [F.out]; rfl, LO.out⟩
set_option maxHeartbeats 8000000 in
theorem refdo_sub (a b : Int) (w : World) (ha : Fits a) (hb : Fits b) :
    Calls Try.prog 16 #[.string ⟨#[45]⟩, .int .i64 a, .int .i64 b] w (DA w (chk (a - b))) := by
  have c1 := fun w => of_any a w ha
  have c2 := fun w => of_any b w hb
  have S1 := sm_of_neg (z := a) (by have := fits_lt ha; omega)
  have S2 := sm_of_neg (z := b) (by have := fits_lt hb; omega)
  have S2' : Sm 100 (-b) := sm_upneg S2 (Nat.le_refl _)
  have S3 : Sm 900 (a + -b) := sm_up (sm_of_neg (z := a + -b) (by have := fits_lt ha; have := fits_lt hb; omega)) (by decide)
  rw [show a - b = a + -b from Int.sub_eq_add_neg]
  by_cases hF : Fits (a + -b)
  · have F := Lib.hid (chk_ok hF)
    clear ha hb
    go_enter Try.func16, Try.ntmps16
    go_wp2_with fail
    refine (c1 _).mono ?_
    rintro e W1 ⟨v, rfl, hn1, hb1⟩
    obtain ⟨t1, A1, N1, C1, rfl⟩ := hn1.form
    go_wp2_with fail
    refine (c2 _).mono ?_
    rintro e W2 ⟨v, rfl, hn2, hb2⟩
    obtain ⟨t2, A2, N2, C2, rfl⟩ := hn2.form
    have st := DSt.start hb1 hn1 hb2 hn2
    clear hb1 hn1 hb2 hn2 c1 c2
    obtain ⟨⟨f1, f2, f3, f4⟩, ⟨f5, f6⟩, f7, f8⟩ := st.facts
    go_wp2_with fail
    generalize W2.alloc (.cells #[.bool t2, .slice A2 N2 C2] 37) = W at *
    have sd := st.drew
    go_region_with (first
      | (go_at_call 22; (refine (neg_num _ _ b sd.y S2).mono ?_); rintro e W9 ⟨v, rfl, hn9, hb9⟩; obtain ⟨t9, A9, N9, C9, rfl⟩ := hn9.form; have s9 := sd.bl hb9; clear f1 f2 f3 f4 f5 f6 f7 f8; obtain ⟨⟨f1, f2, f3, f4⟩, ⟨f5, f6⟩, f7, f8⟩ := s9.facts)
      | (go_at_call 31; (refine (add_num _ _ _ a (-b) s9.x hn9 S1 S2').mono ?_); rintro e W3 ⟨v, rfl, hn3, hb3⟩; obtain ⟨t3, A3, N3, C3, rfl⟩ := hn3.form; have s3 := s9.bl hb3; have st3 := s3.setX hn3; clear f1 f2 f3 f4 f5 f6 f7 f8; obtain ⟨⟨f1, f2, f3, f4⟩, ⟨f5, f6⟩, f7, f8⟩ := s3.facts))
    all_goals
      unfold putNum at st3
      clear st sd s9 s3 hn9 hn3 hb9 hb3
      go_wp2_with fail
      refine (int_good (int_num _ _ _ st3.x S3) hF).mono ?_
      rintro e W4 ⟨rfl, hb4⟩
      have LO := Lib.hid (st3.low.trans (hb4.mono (Below.size st3.low)))
      clear st3 hb4 hF S1 S2 S2' S3 f1 f2 f3 f4 f5 f6 f7 f8
      go_wp2
      go_ret2
      exact ⟨by rw [F.out]; rfl, LO.out⟩
  · have F := Lib.hid (chk_no hF)
    clear ha hb
    go_enter Try.func16, Try.ntmps16
    go_wp2_with fail
    refine (c1 _).mono ?_
    rintro e W1 ⟨v, rfl, hn1, hb1⟩
    obtain ⟨t1, A1, N1, C1, rfl⟩ := hn1.form
    go_wp2_with fail
    refine (c2 _).mono ?_
    rintro e W2 ⟨v, rfl, hn2, hb2⟩
    obtain ⟨t2, A2, N2, C2, rfl⟩ := hn2.form
    have st := DSt.start hb1 hn1 hb2 hn2
    clear hb1 hn1 hb2 hn2 c1 c2
    obtain ⟨⟨f1, f2, f3, f4⟩, ⟨f5, f6⟩, f7, f8⟩ := st.facts
    go_wp2_with fail
    generalize W2.alloc (.cells #[.bool t2, .slice A2 N2 C2] 37) = W at *
    have sd := st.drew
    go_region_with (first
      | (go_at_call 22; (refine (neg_num _ _ b sd.y S2).mono ?_); rintro e W9 ⟨v, rfl, hn9, hb9⟩; obtain ⟨t9, A9, N9, C9, rfl⟩ := hn9.form; have s9 := sd.bl hb9; clear f1 f2 f3 f4 f5 f6 f7 f8; obtain ⟨⟨f1, f2, f3, f4⟩, ⟨f5, f6⟩, f7, f8⟩ := s9.facts)
      | (go_at_call 31; (refine (add_num _ _ _ a (-b) s9.x hn9 S1 S2').mono ?_); rintro e W3 ⟨v, rfl, hn3, hb3⟩; obtain ⟨t3, A3, N3, C3, rfl⟩ := hn3.form; have s3 := s9.bl hb3; have st3 := s3.setX hn3; clear f1 f2 f3 f4 f5 f6 f7 f8; obtain ⟨⟨f1, f2, f3, f4⟩, ⟨f5, f6⟩, f7, f8⟩ := s3.facts))
    all_goals
      unfold putNum at st3
      clear st sd s9 s3 hn9 hn3 hb9 hb3
      go_wp2_with fail
      refine (int_bad (int_num _ _ _ st3.x S3) hF).mono ?_
      rintro e W4 ⟨n4, rfl, hb4⟩
      have LO := Lib.hid (st3.low.trans (hb4.mono (Below.size st3.low)))
      clear st3 hb4 hF S1 S2 S2' S3 f1 f2 f3 f4 f5 f6 f7 f8
      go_wp2
      go_ret2
      exact ⟨by rw [F.out]; rfl, LO.out⟩
set_option maxHeartbeats 8000000 in
theorem refdo_mul (a b : Int) (w : World) (ha : Fits a) (hb : Fits b) :
    Calls Try.prog 16 #[.string ⟨#[42]⟩, .int .i64 a, .int .i64 b] w (DA w (chk (a * b))) := by
  have c1 := fun w => of_any a w ha
  have c2 := fun w => of_any b w hb
  have S1 := sm_of_neg (z := a) (by have := fits_lt ha; omega)
  have S2 := sm_of_neg (z := b) (by have := fits_lt hb; omega)
  have S3 : Sm 900 (a * b) := sm_up (sm_prod (fits_lt ha) (fits_lt hb)) (by decide)
  by_cases hF : Fits (a * b)
  · have F := Lib.hid (chk_ok hF)
    clear ha hb
    go_enter Try.func16, Try.ntmps16
    go_wp2_with fail
    refine (c1 _).mono ?_
    rintro e W1 ⟨v, rfl, hn1, hb1⟩
    obtain ⟨t1, A1, N1, C1, rfl⟩ := hn1.form
    go_wp2_with fail
    refine (c2 _).mono ?_
    rintro e W2 ⟨v, rfl, hn2, hb2⟩
    obtain ⟨t2, A2, N2, C2, rfl⟩ := hn2.form
    have st := DSt.start hb1 hn1 hb2 hn2
    clear hb1 hn1 hb2 hn2 c1 c2
    obtain ⟨⟨f1, f2, f3, f4⟩, ⟨f5, f6⟩, f7, f8⟩ := st.facts
    go_wp2_with fail
    refine (mul_num _ _ _ a b st.x st.y S1 S2).mono ?_
    rintro e W3 ⟨v, rfl, hn3, hb3⟩
    obtain ⟨t3, A3, N3, C3, rfl⟩ := hn3.form
    have s3 := st.bl hb3
    have st3 := s3.setX hn3
    clear f1 f2 f3 f4 f5 f6 f7 f8 hn3 hb3 st
    obtain ⟨⟨f1, f2, f3, f4⟩, ⟨f5, f6⟩, f7, f8⟩ := s3.facts
    clear s3
    go_wp2_with fail
    unfold putNum at st3
    refine (int_good (int_num _ _ _ st3.x S3) hF).mono ?_
    rintro e W4 ⟨rfl, hb4⟩
    have LO := Lib.hid (st3.low.trans (hb4.mono (Below.size st3.low)))
    clear st3 hb4 hF S1 S2 S3 f1 f2 f3 f4 f5 f6 f7 f8
    go_wp2
    go_ret2
    exact ⟨by rw [F.out]; rfl, LO.out⟩
  · have F := Lib.hid (chk_no hF)
    clear ha hb
    go_enter Try.func16, Try.ntmps16
    go_wp2_with fail
    refine (c1 _).mono ?_
    rintro e W1 ⟨v, rfl, hn1, hb1⟩
    obtain ⟨t1, A1, N1, C1, rfl⟩ := hn1.form
    go_wp2_with fail
    refine (c2 _).mono ?_
    rintro e W2 ⟨v, rfl, hn2, hb2⟩
    obtain ⟨t2, A2, N2, C2, rfl⟩ := hn2.form
    have st := DSt.start hb1 hn1 hb2 hn2
    clear hb1 hn1 hb2 hn2 c1 c2
    obtain ⟨⟨f1, f2, f3, f4⟩, ⟨f5, f6⟩, f7, f8⟩ := st.facts
    go_wp2_with fail
    refine (mul_num _ _ _ a b st.x st.y S1 S2).mono ?_
    rintro e W3 ⟨v, rfl, hn3, hb3⟩
    obtain ⟨t3, A3, N3, C3, rfl⟩ := hn3.form
    have s3 := st.bl hb3
    have st3 := s3.setX hn3
    clear f1 f2 f3 f4 f5 f6 f7 f8 hn3 hb3 st
    obtain ⟨⟨f1, f2, f3, f4⟩, ⟨f5, f6⟩, f7, f8⟩ := s3.facts
    clear s3
    go_wp2_with fail
    unfold putNum at st3
    refine (int_bad (int_num _ _ _ st3.x S3) hF).mono ?_
    rintro e W4 ⟨n4, rfl, hb4⟩
    have LO := Lib.hid (st3.low.trans (hb4.mono (Below.size st3.low)))
    clear st3 hb4 hF S1 S2 S3 f1 f2 f3 f4 f5 f6 f7 f8
    go_wp2
    go_ret2
    exact ⟨by rw [F.out]; rfl, LO.out⟩
end Go.Proofs.Ytcbfognflngbaaa.Num
