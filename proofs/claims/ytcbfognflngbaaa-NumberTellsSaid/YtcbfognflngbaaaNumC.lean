/- Contracts of number.parts, div, mod, Neg. -/
import Derived.Test.YtcbfognflngbaaaNumA
set_option linter.unusedVariables false
namespace Go.Proofs.Ytcbfognflngbaaa.Num
open Go.RowKit

abbrev pair (q r : Int) : Ending := .returned (.tuple #[.int .i64 q, .int .i64 r])
theorem pair_eq {q r q' r' : Int} (h : q = q' ∧ r = r') : pair q r = pair q' r' := by rw [h.1, h.2]

theorem parts_m1 (a : Int) (w : World) (ha : Fits a) (h : a ≠ -9223372036854775808) :
    Calls Try.prog 41 #[.int .i64 a, .int .i64 (-1)] w fun e w' => e = pair (a.fdiv (-1)) (a.fmod (-1)) ∧ w = w' := by
  rw [(fdiv_m1 a).1, (fdiv_m1 a).2]
  obtain ⟨h1, h2⟩ := ha
  have h3 : -a ≤ 9223372036854775807 := by omega
  clear h
  go_enter Try.func41, Try.ntmps41
  go_wp2
  go_ret2
  exact ⟨rfl, rfl⟩

theorem parts_m1_rem (a : Int) (w : World) :
    Calls Try.prog 41 #[.int .i64 a, .int .i64 (-1)] w fun e w' => e = pair (wrap64 (-a)) 0 ∧ w = w' := by
  go_enter Try.func41, Try.ntmps41
  go_wp2
  go_ret2
  exact ⟨rfl, rfl⟩

theorem tdiv_hi {a b : Int} (ha : Fits a) (hz : b ≠ 0) (hm : b ≠ -1) : a.tdiv b ≤ 9223372036854775807 := by
  have e := Int.mul_tdiv_add_tmod a b
  have hq := tdiv_bd a b
  have hr := tmod_bd a b hz
  unfold Fits at ha
  by_cases h9 : a.tdiv b = 9223372036854775808
  · rw [h9] at e; omega
  · omega

theorem parts_any (a b : Int) (w : World) (ha : Fits a) (hb : Fits b) (hz : b ≠ 0) (hm : b ≠ -1) :
    Calls Try.prog 41 #[.int .i64 a, .int .i64 b] w fun e w' => e = pair (a.fdiv b) (a.fmod b) ∧ ∃ n, w' = w.drewN n := by
  have hz' : (b == 0) = false := by simpa using hz
  have hm' : (b == -1) = false := by simpa using hm
  have hq := tdiv_bd a b
  have hr := tmod_bd a b hz
  have hq1 : -9223372036854775808 ≤ a.tdiv b := by unfold Fits at ha; omega
  have hf := fdiv_fits ha hz (by omega)
  by_cases hs : a.tmod b = 0
  · have P := Lib.hid (parts_same hz (.inl hs))
    have hf2 : Fits (a.tdiv b) := by rw [← P.out.1]; exact hf
    have hs' : (a.tmod b != 0) = false := by simpa using hs
    obtain ⟨g1, g2⟩ := hf2
    clear hr hq hs hf
    go_enter Try.func41, Try.ntmps41
    go_wp2
    go_quiet (fail)
    go_wp2
    go_ret2
    exact ⟨pair_eq ⟨P.out.1.symm, P.out.2.symm⟩, _, rfl⟩
  · have hs' : (a.tmod b != 0) = true := by simpa using hs
    by_cases hr0 : a.tmod b < 0 <;> by_cases hb0 : b < 0
    · have P := Lib.hid (parts_same hz (.inr ⟨fun _ => hb0, fun _ => hr0⟩))
      have hf2 : Fits (a.tdiv b) := by rw [← P.out.1]; exact hf
      obtain ⟨g1, g2⟩ := hf2
      clear hr hq hs hf
      go_enter Try.func41, Try.ntmps41
      go_wp2
      go_quiet (fail)
      go_wp2
      go_ret2
      exact ⟨pair_eq ⟨P.out.1.symm, P.out.2.symm⟩, _, rfl⟩
    · have P := Lib.hid (parts_less hz hs (fun h => hb0 (h.1 hr0)))
      have hf2 : Fits (a.tdiv b - 1) := by rw [← P.out.1]; exact hf
      obtain ⟨g1, g2⟩ := hf2
      obtain ⟨g3, g4⟩ := hb
      have g5 := tdiv_hi ha hz hm
      have g6 : 0 ≤ a.tmod b + b := by omega
      have hb1 : decide (b < 0) = false := decide_eq_false hb0
      clear hr hq hs hf
      go_enter Try.func41, Try.ntmps41
      go_wp2
      go_quiet (fail)
      go_wp2
      go_ret2
      exact ⟨pair_eq ⟨P.out.1.symm, P.out.2.symm⟩, _, rfl⟩
    · have P := Lib.hid (parts_less hz hs (fun h => hr0 (h.2 hb0)))
      have hf2 : Fits (a.tdiv b - 1) := by rw [← P.out.1]; exact hf
      obtain ⟨g1, g2⟩ := hf2
      obtain ⟨g3, g4⟩ := hb
      have g5 := tdiv_hi ha hz hm
      have g6 : a.tmod b + b ≤ 0 := by omega
      have g7 : b < a.tmod b + b := by omega
      have hr1 : decide (a.tmod b < 0) = false := decide_eq_false hr0
      clear hr hq hs hf
      go_enter Try.func41, Try.ntmps41
      go_wp2
      go_quiet (fail)
      go_wp2
      go_ret2
      exact ⟨pair_eq ⟨P.out.1.symm, P.out.2.symm⟩, _, rfl⟩
    · have P := Lib.hid (parts_same hz (.inr ⟨fun h => absurd h hr0, fun h => absurd h hb0⟩))
      have hf2 : Fits (a.tdiv b) := by rw [← P.out.1]; exact hf
      have hr1 : decide (a.tmod b < 0) = false := decide_eq_false hr0
      have hb1 : decide (b < 0) = false := decide_eq_false hb0
      obtain ⟨g1, g2⟩ := hf2
      clear hr hq hs hf
      go_enter Try.func41, Try.ntmps41
      go_wp2
      go_quiet (fail)
      go_wp2
      go_ret2
      exact ⟨pair_eq ⟨P.out.1.symm, P.out.2.symm⟩, _, rfl⟩

def divS (a b : Int) : Int × ByteArray := if b = 0 then (0, eZero) else chk (a.fdiv b)
def modS (a b : Int) : Int × ByteArray := if b = 0 then (0, eZero) else (a.fmod b, eNone)

theorem div_any (a b : Int) (w : World) (ha : Fits a) (hb : Fits b) :
    Calls Try.prog 28 #[.int .i64 a, .int .i64 b] w fun e w' => e = two (divS a b).1 (divS a b).2 ∧ ∃ n, w' = w.drewN n := by
  unfold divS
  by_cases hz : b = 0
  · rw [if_pos hz]; subst hz
    go_enter Try.func28, Try.ntmps28
    go_wp2
    go_ret2
    exact ⟨rfl, 0, rfl⟩
  · rw [if_neg hz]
    have hz' : (b == 0) = false := by simpa using hz
    by_cases hm : b = -1
    · subst hm
      by_cases hl : a = -9223372036854775808
      · subst hl
        rw [chk_no (by rw [(fdiv_m1 _).1]; decide)]
        go_enter Try.func28, Try.ntmps28
        go_wp2
        go_ret2
        exact ⟨rfl, 0, rfl⟩
      · rw [chk_ok (by rw [(fdiv_m1 _).1]; unfold Fits at *; omega)]
        have C := fun w => parts_m1 a w ha hl
        have hl' : (a == -9223372036854775808) = false := by simpa using hl
        clear hz hl
        go_enter Try.func28, Try.ntmps28
        go_wp2_with (go_at_call 41; refine (C _).mono ?_; rintro e w' ⟨rfl, rfl⟩)
        go_ret2
        exact ⟨rfl, 0, rfl⟩
    · rw [chk_ok (fdiv_fits ha hz (by omega))]
      have C := fun w => parts_any a b w ha hb hz hm
      have hm' : (b == -1) = false := by simpa using hm
      clear hz hm
      by_cases hl : (a == -9223372036854775808) = true
      · go_enter Try.func28, Try.ntmps28
        go_wp2_with (go_at_call 41; refine (C _).mono ?_; rintro e w' ⟨rfl, n, rfl⟩)
        go_ret2
        exact ⟨rfl, _, rfl⟩
      · have hl' : (a == -9223372036854775808) = false := by simpa using hl
        clear hl
        go_enter Try.func28, Try.ntmps28
        go_wp2_with (go_at_call 41; refine (C _).mono ?_; rintro e w' ⟨rfl, n, rfl⟩)
        go_ret2
        exact ⟨rfl, _, rfl⟩

theorem mod_any (a b : Int) (w : World) (ha : Fits a) (hb : Fits b) :
    Calls Try.prog 29 #[.int .i64 a, .int .i64 b] w fun e w' => e = two (modS a b).1 (modS a b).2 ∧ ∃ n, w' = w.drewN n := by
  unfold modS
  by_cases hz : b = 0
  · rw [if_pos hz]; subst hz
    go_enter Try.func29, Try.ntmps29
    go_wp2
    go_ret2
    exact ⟨rfl, 0, rfl⟩
  · rw [if_neg hz]
    have hz' : (b == 0) = false := by simpa using hz
    by_cases hm : b = -1
    · subst hm
      rw [(fdiv_m1 a).2]
      have C := fun w => parts_m1_rem a w
      clear hz
      go_enter Try.func29, Try.ntmps29
      go_wp2_with (go_at_call 41; refine (C _).mono ?_; rintro e w' ⟨rfl, rfl⟩)
      go_ret2
      exact ⟨rfl, 0, rfl⟩
    · have C := fun w => parts_any a b w ha hb hz hm
      clear hz hm
      go_enter Try.func29, Try.ntmps29
      go_wp2_with (go_at_call 41; refine (C _).mono ?_; rintro e w' ⟨rfl, n, rfl⟩)
      go_ret2
      exact ⟨rfl, _, rfl⟩

theorem neg_any (a : Int) (w : World) (ha : Fits a) :
    Calls Try.prog 20 #[.int .i64 a] w fun e w' => e = two (chk (-a)).1 (chk (-a)).2 ∧ w = w' := by
  have C := fun w => sub_any 0 a w (by decide) ha
  rw [Int.zero_sub] at C
  go_enter Try.func20, Try.ntmps20
  go_wp2_with (go_at_call 26; refine (C _).mono ?_; rintro e w' ⟨rfl, rfl⟩)
  go_ret2
  exact ⟨rfl, rfl⟩
end Go.Proofs.Ytcbfognflngbaaa.Num
