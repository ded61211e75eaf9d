/- Contract of the laws' own shown: it is true. -/
import Derived.Test.YtcbfognflngbaaaNumE
import Derived.Test.YtcbfognflngbaaaNumF
import Derived.Test.YtcbfognflngbaaaNumG
set_option linter.unusedVariables false
namespace Go.Proofs.Ytcbfognflngbaaa.Num
open Go.RowKit

theorem shown_any (w : World) : Calls Try.prog 14 #[] w fun e w' => e = .returned (.bool true) ∧ Bl w w' := by
  have c1 := fun w => do_div (-7) 2 w (by decide) (by decide)
  have c2 := fun w => do_mod 7 (-2) w (by decide) (by decide)
  have c3 := fun w => do_pow 2 (-1) w (by decide) (by decide)
  have c4 := fun w => do_add 9223372036854775807 1 w (by decide) (by decide)
  have c5 := fun w => parse_any ⟨#[45, 48, 48, 55]⟩ w (by decide)
  have c6 := fun w => text_any (-10) w (by decide)
  rw [show divS (-7) 2 = (-4, eNone) by decide] at c1
  rw [show modS 7 (-2) = (-1, eNone) by decide] at c2
  rw [show powS 2 (-1) = (0, eValue) by decide] at c3
  rw [show chk (9223372036854775807 + 1) = (0, eOver) by decide] at c4
  rw [show parseS (ByteArray.mk #[45, 48, 48, 55]).data.toList = (-7, true) by decide +kernel] at c5
  rw [show str (textL (-10)) = ⟨#[45, 49, 48]⟩ by decide +kernel] at c6
  have HB := Bl.refl w
  go_enter Try.func14, Try.ntmps14
  go_wp2_with (first
    | (go_at_call 15; first | (with_reducible refine (c1 _).mono ?_) | (with_reducible refine (c2 _).mono ?_) | (with_reducible refine (c3 _).mono ?_) | (with_reducible refine (c4 _).mono ?_)
       rintro e w' ⟨rfl, hb⟩; replace HB := HB.trans hb; clear hb)
    | (go_at_call 17; (with_reducible refine (c5 _).mono ?_); rintro e w' ⟨rfl, rfl⟩)
    | (go_at_call 19; (with_reducible refine (c6 _).mono ?_); rintro e w' ⟨rfl, hb⟩; replace HB := HB.trans hb; clear hb))
  go_ret
  exact ⟨rfl, HB⟩
end Go.Proofs.Ytcbfognflngbaaa.Num
