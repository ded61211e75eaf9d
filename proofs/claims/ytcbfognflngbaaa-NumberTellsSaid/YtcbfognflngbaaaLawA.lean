/- Walks of the laws NumberParts, NumberSums, NumberProducts, NumberRings. -/
import Derived.Test.YtcbfognflngbaaaNumH
set_option linter.unusedVariables false
namespace Go.Proofs.Ytcbfognflngbaaa.Num
open Go.RowKit
theorem fits_wf {a : Int} (h : (Lit.int .i64 a).wf = true) : Fits a := by
  simp [Lit.wf, IntKind.min, IntKind.max, IntKind.signed, IntKind.bits] at h
  exact ⟨by omega, by omega⟩
theorem eq_t {a b : Int} (h : a = b) : (a == b) = true := by simpa using h
theorem eq_f {a b : Int} (h : a ≠ b) : (a == b) = false := by simpa using h

theorem law_parts (a b : Int) (wa : (Lit.int .i64 a).wf = true) (wb : (Lit.int .i64 b).wf = true) (w : World) :
    Calls Try.prog 6 #[.int .i64 a, .int .i64 b] w fun e w' => e = .returned (.bool true) ∧ Below w.heap.size w w' := by
  have ha := fits_wf wa; have hb := fits_wf wb
  have c1 := fun w => do_div a b w ha hb
  have c2 := fun w => do_mod a b w ha hb
  have HB := Bl.refl w
  unfold divS at c1; unfold modS at c2
  by_cases hz : b = 0
  · rw [if_pos hz] at c1 c2
    have hz1 := eq_t hz
    clear hz
    go_enter Try.func6, Try.ntmps6
    go_wp2_with (first
      | (go_at_call 14; (with_reducible refine (shown_any _).mono ?_); rintro e w' ⟨rfl, hb⟩; replace HB := HB.trans hb; clear hb)
      | (go_at_call 15; first | (with_reducible refine (c1 _).mono ?_) | (with_reducible refine (c2 _).mono ?_)
         rintro e w' ⟨rfl, hb⟩; replace HB := HB.trans hb; clear hb))
    go_ret
    exact ⟨rfl, HB⟩
  · rw [if_neg hz] at c1 c2
    have hz1 := eq_f hz
    have hp := parts_back a b
    by_cases hf : Fits (a.fdiv b)
    · rw [chk_ok hf] at c1
      obtain ⟨f1, f2⟩ := hf
      obtain ⟨x1, x2⟩ := ha
      by_cases hpos : 0 < b
      · obtain ⟨m1, m2⟩ := fmod_lt a hpos
        generalize a.fdiv b = q at *
        generalize a.fmod b = r at *
        have e1 : (wrap64 (wrap64 (q * b) + r) == a) = true := eq_t (by unfold wrap64; omega)
        clear hp hz
        go_enter Try.func6, Try.ntmps6
        go_wp2_with (first
          | (go_at_call 14; (with_reducible refine (shown_any _).mono ?_); rintro e w' ⟨rfl, hb⟩; replace HB := HB.trans hb; clear hb)
          | (go_at_call 15; first | (with_reducible refine (c1 _).mono ?_) | (with_reducible refine (c2 _).mono ?_)
             rintro e w' ⟨rfl, hb⟩; replace HB := HB.trans hb; clear hb))
        go_ret
        exact ⟨rfl, HB⟩
      · have hneg : b < 0 := by omega
        obtain ⟨m1, m2⟩ := fmod_gt a hneg
        generalize a.fdiv b = q at *
        generalize a.fmod b = r at *
        have e1 : (wrap64 (wrap64 (q * b) + r) == a) = true := eq_t (by unfold wrap64; omega)
        clear hp hz
        go_enter Try.func6, Try.ntmps6
        go_wp2_with (first
          | (go_at_call 14; (with_reducible refine (shown_any _).mono ?_); rintro e w' ⟨rfl, hb⟩; replace HB := HB.trans hb; clear hb)
          | (go_at_call 15; first | (with_reducible refine (c1 _).mono ?_) | (with_reducible refine (c2 _).mono ?_)
             rintro e w' ⟨rfl, hb⟩; replace HB := HB.trans hb; clear hb))
        go_ret
        exact ⟨rfl, HB⟩
    · rw [chk_no hf] at c1
      have hl : a = -9223372036854775808 ∧ b = -1 := by
        apply Classical.byContradiction
        intro h
        exact hf (fdiv_fits ha hz h)
      obtain ⟨rfl, rfl⟩ := hl
      rw [(fdiv_m1 _).2] at c2
      clear hf hz hz1 hp wa wb ha hb
      go_enter Try.func6, Try.ntmps6
      go_wp2_with (first
        | (go_at_call 14; (with_reducible refine (shown_any _).mono ?_); rintro e w' ⟨rfl, hb⟩; replace HB := HB.trans hb; clear hb)
        | (go_at_call 15; first | (with_reducible refine (c1 _).mono ?_) | (with_reducible refine (c2 _).mono ?_)
           rintro e w' ⟨rfl, hb⟩; replace HB := HB.trans hb; clear hb))
      go_ret
      exact ⟨rfl, HB⟩

theorem law_sums (a b : Int) (wa : (Lit.int .i64 a).wf = true) (wb : (Lit.int .i64 b).wf = true) (w : World) :
    Calls Try.prog 7 #[.int .i64 a, .int .i64 b] w fun e w' => e = .returned (.bool true) ∧ Below w.heap.size w w' := by
  have ha := fits_wf wa; have hb := fits_wf wb
  have c1 := fun w => do_add a b w ha hb
  have c2 := fun w => do_add b a w hb ha
  have HB := Bl.refl w
  rw [Int.add_comm b a] at c2
  by_cases hf : Fits (a + b)
  · have c3 := fun w => do_sub (a + b) b w hf hb
    rw [Int.add_sub_cancel, chk_ok ha] at c3
    rw [chk_ok hf] at c1 c2
    obtain ⟨f1, f2⟩ := hf
    obtain ⟨x1, x2⟩ := ha
    obtain ⟨y1, y2⟩ := hb
    clear wa wb
    by_cases hpos : 0 ≤ b
    · have d1 : decide (b < 0) = false := decide_eq_false (by omega)
      have d2 : decide (a ≤ 9223372036854775807 - b) = true := decide_eq_true (by omega)
      go_enter Try.func7, Try.ntmps7
      go_wp2_with (first
        | (go_at_call 14; (with_reducible refine (shown_any _).mono ?_); rintro e w' ⟨rfl, hb⟩; replace HB := HB.trans hb; clear hb)
        | (go_at_call 15; first | (with_reducible refine (c1 _).mono ?_) | (with_reducible refine (c2 _).mono ?_) | (with_reducible refine (c3 _).mono ?_)
           rintro e w' ⟨rfl, hb⟩; replace HB := HB.trans hb; clear hb))
      go_ret
      exact ⟨rfl, HB⟩
    · have d1 : decide (0 ≤ b) = false := decide_eq_false (by omega)
      have d3 : decide (b < 0) = true := decide_eq_true (by omega)
      have d2 : decide (-9223372036854775808 - b ≤ a) = true := decide_eq_true (by omega)
      go_enter Try.func7, Try.ntmps7
      go_wp2_with (first
        | (go_at_call 14; (with_reducible refine (shown_any _).mono ?_); rintro e w' ⟨rfl, hb⟩; replace HB := HB.trans hb; clear hb)
        | (go_at_call 15; first | (with_reducible refine (c1 _).mono ?_) | (with_reducible refine (c2 _).mono ?_) | (with_reducible refine (c3 _).mono ?_)
           rintro e w' ⟨rfl, hb⟩; replace HB := HB.trans hb; clear hb))
      go_ret
      exact ⟨rfl, HB⟩
  · have hn := not_fits hf
    rw [chk_no hf] at c1 c2
    obtain ⟨x1, x2⟩ := ha
    obtain ⟨y1, y2⟩ := hb
    clear wa wb hf
    by_cases hpos : 0 ≤ b
    · have d1 : decide (b < 0) = false := decide_eq_false (by omega)
      have d2 : decide (a ≤ 9223372036854775807 - b) = false := decide_eq_false (by omega)
      clear hn
      go_enter Try.func7, Try.ntmps7
      go_wp2_with (first
        | (go_at_call 14; (with_reducible refine (shown_any _).mono ?_); rintro e w' ⟨rfl, hb⟩; replace HB := HB.trans hb; clear hb)
        | (go_at_call 15; first | (with_reducible refine (c1 _).mono ?_) | (with_reducible refine (c2 _).mono ?_)
           rintro e w' ⟨rfl, hb⟩; replace HB := HB.trans hb; clear hb))
      go_ret
      exact ⟨rfl, HB⟩
    · have d1 : decide (0 ≤ b) = false := decide_eq_false (by omega)
      have d3 : decide (b < 0) = true := decide_eq_true (by omega)
      have d2 : decide (-9223372036854775808 - b ≤ a) = false := decide_eq_false (by omega)
      clear hn
      go_enter Try.func7, Try.ntmps7
      go_wp2_with (first
        | (go_at_call 14; (with_reducible refine (shown_any _).mono ?_); rintro e w' ⟨rfl, hb⟩; replace HB := HB.trans hb; clear hb)
        | (go_at_call 15; first | (with_reducible refine (c1 _).mono ?_) | (with_reducible refine (c2 _).mono ?_)
           rintro e w' ⟨rfl, hb⟩; replace HB := HB.trans hb; clear hb))
      go_ret
      exact ⟨rfl, HB⟩
end Go.Proofs.Ytcbfognflngbaaa.Num
