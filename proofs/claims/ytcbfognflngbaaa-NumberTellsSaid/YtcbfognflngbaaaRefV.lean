/- Contract of the reference's Do: // and %. -/
import Derived.Test.YtcbfognflngbaaaRefU
import Derived.Test.YtcbfognflngbaaaRefJ
import Derived.Test.YtcbfognflngbaaaNumC
set_option linter.unusedVariables false
namespace Go.Proofs.Ytcbfognflngbaaa.Num
open Go.RowKit
theorem fits5 {z : Int} (h : Fits z) : Sm 5 z := fits_lt h
theorem DSt.parts {w wr w3 : World} {px py : Nat} {tx ty : Bool} {sx sy : Value} {X Y Q R : Int} (h : DSt w px py wr tx sx ty sy X Y) (hb : Bl wr w3) {t3 t4 : Bool} {s3 s4 : Value} (hq : NumIs w3 (.agg #[.bool t3, s3]) Q) (hr : NumIs w3 (.agg #[.bool t4, s4]) R) :
    DSt w px py ((w3.alloc (.cells #[.bool t3, s3] 37)).alloc (.cells #[.bool t4, s4] 37)) tx sx ty sy X Y ∧ NumIs ((w3.alloc (.cells #[.bool t3, s3] 37)).alloc (.cells #[.bool t4, s4] 37)) (.agg #[.bool t3, s3]) Q ∧ NumIs ((w3.alloc (.cells #[.bool t3, s3] 37)).alloc (.cells #[.bool t4, s4] 37)) (.agg #[.bool t4, s4]) R := by
  have h1 := Bl.al w3 (.cells #[.bool t3, s3] 37)
  have h2 := Bl.al (w3.alloc (.cells #[.bool t3, s3] 37)) (.cells #[.bool t4, s4] 37)
  exact ⟨((h.bl hb).bl h1).bl h2, (hq.bl h1).bl h2, (hr.bl h1).bl h2⟩
set_option maxHeartbeats 8000000 in
theorem refdo_divg (a b : Int) (w : World) (ha : Fits a) (hb : Fits b) (hb0 : b ≠ 0) (r : Int × ByteArray) (HR : r = (a.fdiv b, eNone)) (SDD : Sm 100 (a.fdiv b)) (hF : Fits (a.fdiv b)) :
    Calls Try.prog 16 #[.string ⟨#[47, 47]⟩, .int .i64 a, .int .i64 b] w (DA w r) := by
  have c1 := fun w => of_any a w ha
  have c2 := fun w => of_any b w hb
  have P1 := fits5 ha
  have P2 := fits5 hb
  have b0 : (b == 0) = false := eq_f hb0
  have HRR := Lib.hid HR
  have SD := Lib.hid SDD
  clear HR ha hb SDD
  go_enter Try.func16, Try.ntmps16
  go_wp2_with fail
  refine (c1 _).mono ?_
  rintro e W1 ⟨v, rfl, hn1, hb1⟩
  obtain ⟨t1, A1, N1, C1, rfl⟩ := hn1.form
  go_wp2_with fail
  refine (c2 _).mono ?_
  rintro e W2 ⟨v, rfl, hn2, hb2⟩
  obtain ⟨t2, A2, N2, C2, rfl⟩ := hn2.form
  have st := DSt.start hb1 hn1 hb2 hn2
  clear hb1 hn1 hb2 hn2 c1 c2
  obtain ⟨⟨f1, f2, f3, f4⟩, ⟨f5, f6⟩, f7, f8⟩ := st.facts
  go_wp2_with fail

  refine (parts_num _ _ _ a b st.x st.y P1 P2 hb0).mono ?_
  rintro e W3 ⟨u3, v3, rfl, hq, hr, hb3⟩
  obtain ⟨t3, A3, N3, C3, rfl⟩ := hq.form
  obtain ⟨t4, A4, N4, C4, rfl⟩ := hr.form
  obtain ⟨st3, hq3, hr3⟩ := st.parts hb3 hq hr
  have hsz3 : W2.heap.size + 1 ≤ W3.heap.size := by have := Below.size hb3; rw [size_al] at this; exact this
  clear f1 f2 f3 f4 f5 f6 f7 f8 st hq hr
  obtain ⟨⟨f1, f2, f3, f4⟩, ⟨f5, f6⟩, f7, f8⟩ := st3.facts
  go_wp2_with fail
  have st4 := st3.setX hq3
  clear st3 hq3 hr3
  unfold putNum at st4
  refine (int_good (int_num _ _ _ st4.x (sm_up SD.out (by decide))) hF).mono ?_
  rintro e W4 ⟨rfl, hb4⟩
  have LO := Lib.hid (st4.low.trans (hb4.mono (Below.size st4.low)))
  clear st4 hb4 hF P1 P2 f1 f2 f3 f4 f5 f6 f7 f8
  go_wp2
  go_ret2
  exact ⟨by rw [HRR.out]; rfl, LO.out⟩

set_option maxHeartbeats 8000000 in
theorem refdo_divb (a b : Int) (w : World) (ha : Fits a) (hb : Fits b) (hb0 : b ≠ 0) (r : Int × ByteArray) (HR : r = (0, eOver)) (SDD : Sm 100 (a.fdiv b)) (hF : ¬ Fits (a.fdiv b)) :
    Calls Try.prog 16 #[.string ⟨#[47, 47]⟩, .int .i64 a, .int .i64 b] w (DA w r) := by
  have c1 := fun w => of_any a w ha
  have c2 := fun w => of_any b w hb
  have P1 := fits5 ha
  have P2 := fits5 hb
  have b0 : (b == 0) = false := eq_f hb0
  have HRR := Lib.hid HR
  have SD := Lib.hid SDD
  clear HR ha hb SDD
  go_enter Try.func16, Try.ntmps16
  go_wp2_with fail
  refine (c1 _).mono ?_
  rintro e W1 ⟨v, rfl, hn1, hb1⟩
  obtain ⟨t1, A1, N1, C1, rfl⟩ := hn1.form
  go_wp2_with fail
  refine (c2 _).mono ?_
  rintro e W2 ⟨v, rfl, hn2, hb2⟩
  obtain ⟨t2, A2, N2, C2, rfl⟩ := hn2.form
  have st := DSt.start hb1 hn1 hb2 hn2
  clear hb1 hn1 hb2 hn2 c1 c2
  obtain ⟨⟨f1, f2, f3, f4⟩, ⟨f5, f6⟩, f7, f8⟩ := st.facts
  go_wp2_with fail

  refine (parts_num _ _ _ a b st.x st.y P1 P2 hb0).mono ?_
  rintro e W3 ⟨u3, v3, rfl, hq, hr, hb3⟩
  obtain ⟨t3, A3, N3, C3, rfl⟩ := hq.form
  obtain ⟨t4, A4, N4, C4, rfl⟩ := hr.form
  obtain ⟨st3, hq3, hr3⟩ := st.parts hb3 hq hr
  have hsz3 : W2.heap.size + 1 ≤ W3.heap.size := by have := Below.size hb3; rw [size_al] at this; exact this
  clear f1 f2 f3 f4 f5 f6 f7 f8 st hq hr
  obtain ⟨⟨f1, f2, f3, f4⟩, ⟨f5, f6⟩, f7, f8⟩ := st3.facts
  go_wp2_with fail
  have st4 := st3.setX hq3
  clear st3 hq3 hr3
  unfold putNum at st4
  refine (int_bad (int_num _ _ _ st4.x (sm_up SD.out (by decide))) hF).mono ?_
  rintro e W4 ⟨n4, rfl, hb4⟩
  have LO := Lib.hid (st4.low.trans (hb4.mono (Below.size st4.low)))
  clear st4 hb4 hF P1 P2 f1 f2 f3 f4 f5 f6 f7 f8
  go_wp2
  go_ret2
  exact ⟨by rw [HRR.out]; rfl, LO.out⟩

end Go.Proofs.Ytcbfognflngbaaa.Num
