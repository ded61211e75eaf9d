/- Contract of number.mul. -/
import Derived.Test.YtcbfognflngbaaaNumA
set_option linter.unusedVariables false
namespace Go.Proofs.Ytcbfognflngbaaa.Num
open Go.RowKit

set_option maxHeartbeats 2000000 in
theorem mul_any (a b : Int) (w : World) (ha : Fits a) (hb : Fits b) :
    Calls Try.prog 27 #[.int .i64 a, .int .i64 b] w fun e w' => e = two (chk (a * b)).1 (chk (a * b)).2 ∧ w = w' := by
  have pa := prod_abs a b
  have pb := prod_below a b
  have ba : a.natAbs < 18446744073709551616 := by unfold Fits at ha; omega
  have bb : b.natAbs < 18446744073709551616 := by unfold Fits at hb; omega
  have C := fun w => Try.bits_Mul64 a.natAbs b.natAbs ba bb w
  rw [← pa] at C
  generalize hx : a * b = x at *
  by_cases hh : x.natAbs / 18446744073709551616 = 0
  · have hlo : x.natAbs % 18446744073709551616 = x.natAbs := by omega
    rw [hh, hlo] at C
    have hlt : x.natAbs < 18446744073709551616 := by omega
    have key : ∀ t : Bool, sgn x.natAbs t = x → ∀ w, Calls Try.prog 35 #[.int .u64 (x.natAbs : Nat), .bool t] w fun e w' => e = two (chk x).1 (chk x).2 ∧ w = w' := by
      intro t ht w; have := signed_any x.natAbs t w hlt; rw [ht] at this; exact this
    have k1 : x < 0 → sgn x.natAbs true = x := by intro h; unfold sgn; simp; omega
    have k0 : 0 ≤ x → sgn x.natAbs false = x := by intro h; unfold sgn; simp; omega
    have h0 : ((0 : Nat) : Int) = 0 := rfl
    rw [h0] at C
    by_cases h1 : a < 0 <;> by_cases h2 : b < 0 <;> by_cases h3 : x = 0
    all_goals (first | (have h4 : x < 0 := by simp [h1, h2, h3] at pb; omega) | (have h4 : 0 ≤ x := by simp [h1, h2, h3] at pb; omega))
    all_goals (first | have S := key true (k1 h4) | have S := key false (k0 h4))
    all_goals (first | have h5 : ((x.natAbs : Nat) : Int) ≠ 0 := by omega | have h5 : ((x.natAbs : Nat) : Int) = 0 := by omega)
    all_goals (first | have hA : decide (a < 0) = true := decide_eq_true h1 | have hA : decide (a < 0) = false := decide_eq_false h1)
    all_goals (first | have hB : decide (b < 0) = true := decide_eq_true h2 | have hB : decide (b < 0) = false := decide_eq_false h2)
    all_goals
      clear key k1 k0 hh hlo hlt pa pb h0 h3 h4 ba bb hx
      generalize hn : ((x.natAbs : Nat) : Int) = n at *
      clear hn
      first | subst h5 | have h6 : (n != 0) = true := by simpa using h5
      go_enter Try.func27, Try.ntmps27
      go_wp2_with (first | (go_at_call 37; refine (magnitude_any _ _ (by assumption)).mono ?_; rintro e w' ⟨rfl, rfl⟩) | (go_at_call 40; refine (C _).mono ?_; rintro e w' ⟨rfl, hw⟩; rw [hw]) | (go_at_call 35; ((with_reducible refine (S _).mono ?_)); rintro e w' ⟨rfl, rfl⟩))
      go_ret2
      exact ⟨rfl, rfl⟩
  · rw [chk_no (by unfold Fits; omega)]
    have hne : ((x.natAbs / 18446744073709551616 : Nat) : Int) ≠ 0 := by omega
    generalize hhi : x.natAbs / 18446744073709551616 = hi at *
    clear hhi pa pb hx hh
    go_enter Try.func27, Try.ntmps27
    go_wp2_with (first | (go_at_call 37; refine (magnitude_any _ _ (by assumption)).mono ?_; rintro e w' ⟨rfl, rfl⟩) | (go_at_call 40; refine (C _).mono ?_; rintro e w' ⟨rfl, hw⟩; rw [hw]))
    go_ret2
    exact ⟨rfl, rfl⟩
end Go.Proofs.Ytcbfognflngbaaa.Num
