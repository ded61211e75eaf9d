/- Contract of the reference's Do: ** from 0 on; no operator. -/
import Derived.Test.YtcbfognflngbaaaRefX
import Derived.Test.YtcbfognflngbaaaRefT
set_option linter.unusedVariables false
namespace Go.Proofs.Ytcbfognflngbaaa.Num
open Go.RowKit
theorem tl_no {op c : ByteArray} (h : (op == c) = false) (l : List UInt8) (hl : c.data.toList = l) : (op.toList == l) = false := by
  subst hl
  rw [beq_toListBytes, ByteArray.toList_eq c] at h
  exact h
set_option maxHeartbeats 8000000 in
theorem refdo_pow (a : Int) (b : Nat) (w : World) (ha : Fits a) (hb : Fits (b : Int)) (z : Int) (hz : z = a ^ b) :
    Calls Try.prog 16 #[.string ⟨#[42, 42]⟩, .int .i64 a, .int .i64 (b : Int)] w (DA w (chk z)) := by
  have PW := fun w u hu => power_num w u a b hu ha (by unfold Fits at hb; omega)
  rw [← hz] at PW
  clear hz
  have c1 := fun w => of_any a w ha
  have c2 := fun w => of_any (b : Int) w hb
  have b0 : decide ((b : Int) < 0) = false := decide_eq_false (by omega)
  have b1 : ¬ ((b : Int) < 0) := by omega
  clear ha hb
  go_enter Try.func16, Try.ntmps16
  go_wp2_with fail
  refine (c1 _).mono ?_
  rintro e W1 ⟨v, rfl, hn1, hb1⟩
  obtain ⟨t1, A1, N1, C1, rfl⟩ := hn1.form
  go_wp2_with fail
  refine (c2 _).mono ?_
  rintro e W2 ⟨v, rfl, hn2, hb2⟩
  obtain ⟨t2, A2, N2, C2, rfl⟩ := hn2.form
  have st := DSt.start hb1 hn1 hb2 hn2
  clear hb1 hn1 hb2 hn2 c1 c2
  obtain ⟨⟨f1, f2, f3, f4⟩, ⟨f5, f6⟩, f7, f8⟩ := st.facts
  go_wp2_with fail
  refine (PW _ _ st.x).mono ?_
  rintro e W3 ⟨u3, y, ok, rfl, hn3, hs3, h1, h2, hb3⟩
  have SD := Lib.hid hs3
  clear hs3 PW
  obtain ⟨t3, A3, N3, C3, rfl⟩ := hn3.form
  have s3 := st.bl hb3
  have st3 := s3.setX hn3
  clear f1 f2 f3 f4 f5 f6 f7 f8 hn3 hb3 st
  obtain ⟨⟨f1, f2, f3, f4⟩, ⟨f5, f6⟩, f7, f8⟩ := s3.facts
  clear s3
  cases ok with
  | true =>
    have hy := h1 rfl
    clear h1 h2
    subst hy
    by_cases hF : Fits y
    · have HRR := Lib.hid (chk_ok hF)
      go_wp2_with fail
      unfold putNum at st3
      refine (int_good (int_num _ _ _ st3.x (sm_up SD.out (by decide))) hF).mono ?_
      rintro e W4 ⟨rfl, hb4⟩
      have LO := Lib.hid (st3.low.trans (hb4.mono (Below.size st3.low)))
      clear st3 hb4 hF SD f1 f2 f3 f4 f5 f6 f7 f8
      go_wp2
      go_ret2
      exact ⟨by rw [HRR.out]; rfl, LO.out⟩
    · have HRR := Lib.hid (chk_no hF)
      go_wp2_with fail
      unfold putNum at st3
      refine (int_bad (int_num _ _ _ st3.x (sm_up SD.out (by decide))) hF).mono ?_
      rintro e W4 ⟨n4, rfl, hb4⟩
      have LO := Lib.hid (st3.low.trans (hb4.mono (Below.size st3.low)))
      clear st3 hb4 hF SD f1 f2 f3 f4 f5 f6 f7 f8
      go_wp2
      go_ret2
      exact ⟨by rw [HRR.out]; rfl, LO.out⟩
  | false =>
    have HRR := Lib.hid (chk_no (h2 rfl))
    clear h1 h2
    by_cases hF : Fits y
    · go_wp2_with fail
      unfold putNum at st3
      refine (int_good (int_num _ _ _ st3.x (sm_up SD.out (by decide))) hF).mono ?_
      rintro e W4 ⟨rfl, hb4⟩
      have LO := Lib.hid (st3.low.trans (hb4.mono (Below.size st3.low)))
      clear st3 hb4 hF SD f1 f2 f3 f4 f5 f6 f7 f8
      go_wp2
      go_ret2
      exact ⟨by rw [HRR.out]; rfl, LO.out⟩
    · go_wp2_with fail
      unfold putNum at st3
      refine (int_bad (int_num _ _ _ st3.x (sm_up SD.out (by decide))) hF).mono ?_
      rintro e W4 ⟨n4, rfl, hb4⟩
      have LO := Lib.hid (st3.low.trans (hb4.mono (Below.size st3.low)))
      clear st3 hb4 hF SD f1 f2 f3 f4 f5 f6 f7 f8
      go_wp2
      go_ret2
      exact ⟨by rw [HRR.out]; rfl, LO.out⟩
set_option maxHeartbeats 8000000 in
theorem refdo_else (op : ByteArray) (a b : Int) (w : World) (ha : Fits a) (hb : Fits b) (h1 : (op == ⟨#[43]⟩) = false) (h2 : (op == ⟨#[45]⟩) = false) (h3 : (op == ⟨#[42]⟩) = false) (h4 : (op == ⟨#[47, 47]⟩) = false) (h5 : (op == ⟨#[37]⟩) = false) (h6 : (op == ⟨#[42, 42]⟩) = false) :
    Calls Try.prog 16 #[.string op, .int .i64 a, .int .i64 b] w (DA w (0, eType)) := by
  have c1 := fun w => of_any a w ha
  have c2 := fun w => of_any b w hb
  have g1 := tl_no h1 [43] rfl
  have g2 := tl_no h2 [45] rfl
  have g3 := tl_no h3 [42] rfl
  have g4 := tl_no h4 [47, 47] rfl
  have g5 := tl_no h5 [37] rfl
  have g6 := tl_no h6 [42, 42] rfl
  clear ha hb h1 h2 h3 h4 h5 h6
  go_enter Try.func16, Try.ntmps16
  go_wp2_with fail
  refine (c1 _).mono ?_
  rintro e W1 ⟨v, rfl, hn1, hb1⟩
  obtain ⟨t1, A1, N1, C1, rfl⟩ := hn1.form
  go_wp2_with fail
  refine (c2 _).mono ?_
  rintro e W2 ⟨v, rfl, hn2, hb2⟩
  obtain ⟨t2, A2, N2, C2, rfl⟩ := hn2.form
  have st := DSt.start hb1 hn1 hb2 hn2
  clear hb1 hn1 hb2 hn2 c1 c2
  obtain ⟨⟨f1, f2, f3, f4⟩, ⟨f5, f6⟩, f7, f8⟩ := st.facts
  have LO := Lib.hid st.low
  clear st
  go_wp2
  go_ret2
  exact ⟨rfl, LO.out⟩
end Go.Proofs.Ytcbfognflngbaaa.Num
