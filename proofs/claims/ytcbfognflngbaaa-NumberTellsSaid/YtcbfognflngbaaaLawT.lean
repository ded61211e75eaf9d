/- Walk of the law NumberTells. -/
import Derived.Test.YtcbfognflngbaaaRefY
import Derived.Test.YtcbfognflngbaaaRefZ
import Derived.Test.YtcbfognflngbaaaLawC
set_option linter.unusedVariables false
namespace Go.Proofs.Ytcbfognflngbaaa.Num
open Go.RowKit
def Both (op : ByteArray) (a b : Int) (r : Int × ByteArray) : Prop :=
  ∀ w : World, Calls Try.prog 15 #[.string op, .int .i64 a, .int .i64 b] w (fun e w' => e = two r.1 r.2 ∧ Bl w w') ∧ Calls Try.prog 16 #[.string op, .int .i64 a, .int .i64 b] w (DA w r)
theorem op_eq {op : ByteArray} {c : ByteArray} (h : (op == c) = true) : op = c := by
  rw [beq_toListBytes, ByteArray.toList_eq, ByteArray.toList_eq] at h
  exact ByteArray.ext (Array.ext' (eq_of_beq h))
theorem nat_sm {n : Nat} (h : n ≤ 9223372036854775808) : n < 65536 ^ 100 :=
  Nat.lt_of_lt_of_le (show n < 65536 ^ 4 by omega) (Nat.pow_le_pow_right (by decide) (by decide))
theorem sm_fits {z : Int} (h : Fits z) : Sm 100 z := by
  unfold Sm
  exact nat_sm (by unfold Fits at h; omega)
theorem fits_fmod {a b : Int} (hb : Fits b) (h0 : b ≠ 0) : Fits (a.fmod b) := by
  unfold Fits at *
  rcases Int.lt_or_gt_of_ne h0 with h | h
  · have := fmod_gt a h; omega
  · have := fmod_lt a h; omega
theorem fdiv_least {a b : Int} (h : a = -9223372036854775808 ∧ b = -1) : a.fdiv b = 9223372036854775808 := by
  rw [h.1, h.2]; rfl
theorem both_any (op : ByteArray) (a b : Int) (ha : Fits a) (hb : Fits b) : ∃ r, Both op a b r := by
  by_cases h1 : (op == ⟨#[43]⟩) = true
  · cases op_eq h1; exact ⟨_, fun w => ⟨do_add a b w ha hb, refdo_add a b w ha hb⟩⟩
  by_cases h2 : (op == ⟨#[45]⟩) = true
  · cases op_eq h2; exact ⟨_, fun w => ⟨do_sub a b w ha hb, refdo_sub a b w ha hb⟩⟩
  by_cases h3 : (op == ⟨#[42]⟩) = true
  · cases op_eq h3; exact ⟨_, fun w => ⟨do_mul a b w ha hb, refdo_mul a b w ha hb⟩⟩
  by_cases h4 : (op == ⟨#[47, 47]⟩) = true
  · cases op_eq h4
    by_cases h0 : b = 0
    · subst h0
      refine ⟨_, fun w => ⟨do_div a 0 w ha hb, ?_⟩⟩
      rw [show divS a 0 = (0, eZero) from if_pos rfl]
      exact refdo_zerod a w ha
    · refine ⟨_, fun w => ⟨do_div a b w ha hb, ?_⟩⟩
      rw [show divS a b = chk (a.fdiv b) from if_neg h0]
      by_cases hl : a = -9223372036854775808 ∧ b = -1
      · have e := fdiv_least hl
        have nf : ¬ Fits (a.fdiv b) := by rw [e]; unfold Fits; omega
        exact refdo_divb a b w ha hb h0 _ (chk_no nf) (by rw [e]; unfold Sm; exact nat_sm (by decide)) nf
      · have f := fdiv_fits ha h0 hl
        exact refdo_divg a b w ha hb h0 _ (chk_ok f) (sm_fits f) f
  by_cases h5 : (op == ⟨#[37]⟩) = true
  · cases op_eq h5
    by_cases h0 : b = 0
    · subst h0
      refine ⟨_, fun w => ⟨do_mod a 0 w ha hb, ?_⟩⟩
      rw [show modS a 0 = (0, eZero) from if_pos rfl]
      exact refdo_zerom a w ha
    · refine ⟨_, fun w => ⟨do_mod a b w ha hb, ?_⟩⟩
      have f := fits_fmod (a := a) hb h0
      exact refdo_modg a b w ha hb h0 _ (if_neg h0) (sm_fits f) f
  by_cases h6 : (op == ⟨#[42, 42]⟩) = true
  · cases op_eq h6
    by_cases h0 : b < 0
    · refine ⟨_, fun w => ⟨do_pow a b w ha hb, ?_⟩⟩
      rw [show powS a b = (0, eValue) from if_pos h0]
      exact refdo_neg a b w ha hb h0
    · obtain ⟨B, rfl⟩ := Int.eq_ofNat_of_zero_le (show 0 ≤ b by omega)
      refine ⟨_, fun w => ⟨do_pow a B w ha hb, ?_⟩⟩
      rw [powS_nat]
      exact refdo_pow a B w ha hb _ rfl
  · exact ⟨_, fun w => ⟨do_else op a b w (by simpa using h1) (by simpa using h2) (by simpa using h3) (by simpa using h4) (by simpa using h5) (by simpa using h6),
      refdo_else op a b w ha hb (by simpa using h1) (by simpa using h2) (by simpa using h3) (by simpa using h4) (by simpa using h5) (by simpa using h6)⟩⟩
theorem law_tells (s : ByteArray) (a b : Int) (hs : s.size ≤ maxLen) (wa : (Lit.int .i64 a).wf = true) (wb : (Lit.int .i64 b).wf = true) (w : World) :
    Calls Try.prog 3 #[.string s, .int .i64 a, .int .i64 b] w fun e w' => e = .returned (.bool true) ∧ Below w.heap.size w w' := by
  have ha := fits_wf wa; have hb := fits_wf wb
  have HB := Bl.refl w
  have hm : s.size ≤ 9223372036854775807 := by unfold maxLen at hs; omega
  by_cases h60 : s.size ≤ 10
  · obtain ⟨r, hr⟩ := both_any s a b ha hb
    have c1 := fun w => (hr w).1
    have c2 := fun w => (hr w).2
    clear hs hr ha hb wa wb
    obtain ⟨r1, r2⟩ := r
    go_enter Try.func3, Try.ntmps3
    go_wp2_with (first
      | (go_at_call 14; (with_reducible refine (shown_any _).mono ?_); rintro e w' ⟨rfl, hb⟩; replace HB := HB.trans hb; clear hb)
      | (go_at_call 15; (with_reducible refine (c1 _).mono ?_); rintro e w' ⟨rfl, hb⟩; replace HB := Bl.trans HB hb; clear hb)
      | (go_at_call 16; (with_reducible refine (c2 _).mono ?_); rintro e w5 ⟨rfl, hb⟩; replace HB := Bl.trans HB hb; clear hb))
    go_ret
    exact ⟨rfl, HB⟩
  · have hd : (s.extract 0 10).size = 10 := by rw [ByteArray.size_extract]; omega
    obtain ⟨r, hr⟩ := both_any (s.extract 0 10) a b ha hb
    have c1 := fun w => (hr w).1
    have c2 := fun w => (hr w).2
    clear hs hr ha hb wa wb
    obtain ⟨r1, r2⟩ := r
    go_enter Try.func3, Try.ntmps3
    go_wp2_with (first
      | (go_at_call 14; (with_reducible refine (shown_any _).mono ?_); rintro e w' ⟨rfl, hb⟩; replace HB := HB.trans hb; clear hb)
      | (go_at_call 15; (with_reducible refine (c1 _).mono ?_); rintro e w' ⟨rfl, hb⟩; replace HB := Bl.trans HB hb; clear hb)
      | (go_at_call 16; (with_reducible refine (c2 _).mono ?_); rintro e w5 ⟨rfl, hb⟩; replace HB := Bl.trans HB hb; clear hb))
    go_ret
    exact ⟨rfl, HB⟩
end Go.Proofs.Ytcbfognflngbaaa.Num
