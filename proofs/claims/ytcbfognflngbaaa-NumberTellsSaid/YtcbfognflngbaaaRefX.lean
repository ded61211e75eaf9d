/- Contract of the reference's Do: where it says an error at once. -/
import Derived.Test.YtcbfognflngbaaaRefW
set_option linter.unusedVariables false
namespace Go.Proofs.Ytcbfognflngbaaa.Num
open Go.RowKit
set_option maxHeartbeats 8000000 in
theorem refdo_neg (a b : Int) (w : World) (ha : Fits a) (hb : Fits b) (h : b < 0) :
    Calls Try.prog 16 #[.string ⟨#[42, 42]⟩, .int .i64 a, .int .i64 b] w (DA w (0, eValue)) := by
  have c1 := fun w => of_any a w ha
  have c2 := fun w => of_any b w hb
  have b0 : decide (b < 0) = true := decide_eq_true h
  clear ha hb
  go_enter Try.func16, Try.ntmps16
  go_wp2_with fail
  refine (c1 _).mono ?_
  rintro e W1 ⟨v, rfl, hn1, hb1⟩
  obtain ⟨t1, A1, N1, C1, rfl⟩ := hn1.form
  go_wp2_with fail
  refine (c2 _).mono ?_
  rintro e W2 ⟨v, rfl, hn2, hb2⟩
  obtain ⟨t2, A2, N2, C2, rfl⟩ := hn2.form
  have st := DSt.start hb1 hn1 hb2 hn2
  clear hb1 hn1 hb2 hn2 c1 c2
  obtain ⟨⟨f1, f2, f3, f4⟩, ⟨f5, f6⟩, f7, f8⟩ := st.facts
  have LO := Lib.hid st.low
  clear st
  go_wp2
  go_ret2
  exact ⟨rfl, LO.out⟩
end Go.Proofs.Ytcbfognflngbaaa.Num
