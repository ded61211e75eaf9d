/- Walks of the laws NumberProducts and NumberRings. -/
import Derived.Test.YtcbfognflngbaaaLawA
set_option linter.unusedVariables false
namespace Go.Proofs.Ytcbfognflngbaaa.Num
open Go.RowKit
theorem prod_fdiv {a b : Int} (hb : b ≠ 0) : (a * b).fdiv b = a ∧ (a * b).fmod b = 0 := by
  rcases Int.lt_or_gt_of_ne hb with h | h
  · exact floor_neg h (by rw [Int.mul_comm]; omega) (by omega) (by omega)
  · exact floor_pos h (by rw [Int.mul_comm]; omega) (by omega) (by omega)
/-- What does not fit: both are farther from 0 than 1, or one is -1 and the other the least int. -/
theorem prod_far {a b : Int} (hb : Fits b) (h : ¬ Fits (a * b)) : a > 1 ∨ a < -1 ∨ (a = -1 ∧ b = -9223372036854775808) := by
  apply Classical.byContradiction
  intro hn
  have h1 : a = 0 ∨ a = 1 ∨ a = -1 := by omega
  apply h
  unfold Fits at *
  rcases h1 with rfl | rfl | rfl
  · omega
  · omega
  · omega

set_option maxRecDepth 100000 in
theorem law_products (a b : Int) (wa : (Lit.int .i64 a).wf = true) (wb : (Lit.int .i64 b).wf = true) (w : World) :
    Calls Try.prog 8 #[.int .i64 a, .int .i64 b] w fun e w' => e = .returned (.bool true) ∧ Below w.heap.size w w' := by
  have ha := fits_wf wa; have hb := fits_wf wb
  have c1 := fun w => do_mul a b w ha hb
  have c2 := fun w => do_mul b a w hb ha
  have HB := Bl.refl w
  rw [Int.mul_comm b a] at c2
  by_cases hz : a = 0 ∨ b = 0
  · have h0 : a * b = 0 := by rcases hz with rfl | rfl <;> simp
    rw [h0, chk_ok (by decide)] at c1 c2
    by_cases hza : a = 0
    · have z1 := eq_t hza
      clear hz hza h0
      go_enter Try.func8, Try.ntmps8
      go_wp2_with (first
        | (go_at_call 14; (with_reducible refine (shown_any _).mono ?_); rintro e w' ⟨rfl, hb⟩; replace HB := HB.trans hb; clear hb)
        | (go_at_call 15; first | (with_reducible refine (c1 _).mono ?_) | (with_reducible refine (c2 _).mono ?_)
           rintro e w' ⟨rfl, hb⟩; replace HB := HB.trans hb; clear hb))
      go_ret
      exact ⟨rfl, HB⟩
    · have z1 := eq_f hza
      have z2 := eq_t (show b = 0 by omega)
      clear hz hza h0
      go_enter Try.func8, Try.ntmps8
      go_wp2_with (first
        | (go_at_call 14; (with_reducible refine (shown_any _).mono ?_); rintro e w' ⟨rfl, hb⟩; replace HB := HB.trans hb; clear hb)
        | (go_at_call 15; first | (with_reducible refine (c1 _).mono ?_) | (with_reducible refine (c2 _).mono ?_)
           rintro e w' ⟨rfl, hb⟩; replace HB := HB.trans hb; clear hb))
      go_ret
      exact ⟨rfl, HB⟩
  · have z1 := eq_f (show a ≠ 0 by omega)
    have z2 := eq_f (show b ≠ 0 by omega)
    by_cases hf : Fits (a * b)
    · have c3 := fun w => do_div (a * b) b w hf hb
      have c4 := fun w => do_mod (a * b) b w hf hb
      have hb0 : b ≠ 0 := by omega
      unfold divS at c3; unfold modS at c4
      rw [if_neg hb0, (prod_fdiv hb0).1, chk_ok ha] at c3
      rw [if_neg hb0, (prod_fdiv hb0).2] at c4
      rw [chk_ok hf] at c1 c2
      have ps := prod_below a b
      obtain ⟨f1, f2⟩ := hf
      generalize hx : a * b = x at *
      have e1 : (x == wrap64 (a * b)) = true := eq_t (by rw [hx, IntWalk.wrap64_in x ⟨f1, f2⟩])
      have hx0 : x ≠ 0 := by rw [← hx]; exact fun h => by rcases Int.mul_eq_zero.1 h with h | h <;> omega
      have X := Lib.hid hx
      clear hx hz
      by_cases ga : a < 0 <;> by_cases gb : b < 0
      all_goals (first | have da : decide (a < 0) = true := decide_eq_true ga | have da : decide (a < 0) = false := decide_eq_false ga)
      all_goals (first | have db : decide (b < 0) = true := decide_eq_true gb | have db : decide (b < 0) = false := decide_eq_false gb)
      all_goals (first | have dx : decide (x < 0) = true := decide_eq_true (by simp [ga, gb, hx0] at ps; omega) | have dx : decide (x < 0) = false := decide_eq_false (by simp [ga, gb, hx0] at ps; omega))
      all_goals
        clear ps hx0 hb0 ha hb ga gb wa wb
        go_enter Try.func8, Try.ntmps8
        go_wp2_with (first
          | (go_at_call 14; (with_reducible refine (shown_any _).mono ?_); rintro e w' ⟨rfl, hb⟩; replace HB := HB.trans hb; clear hb)
          | (go_at_call 15; first | (with_reducible refine (c1 _).mono ?_) | (with_reducible refine (c2 _).mono ?_) | (with_reducible refine (c3 _).mono ?_) | (with_reducible refine (c4 _).mono ?_)
             rintro e w' ⟨rfl, hb⟩; replace HB := HB.trans hb; clear hb))
        go_ret
        exact ⟨rfl, HB⟩
    · have b1 := prod_far hb hf
      have b2 := prod_far ha (by rw [Int.mul_comm]; exact hf)
      rw [chk_no hf] at c1 c2
      clear hz hf
      obtain ⟨x1, x2⟩ := ha
      obtain ⟨y1, y2⟩ := hb
      rcases b1 with g | g | ⟨rfl, rfl⟩
      · have k1 : decide (1 < a) = true := decide_eq_true g
        rcases b2 with g2 | g2 | ⟨rfl, rfl⟩
        · have k2 : decide (1 < b) = true := decide_eq_true g2
          go_enter Try.func8, Try.ntmps8
          go_wp2_with (first
            | (go_at_call 14; (with_reducible refine (shown_any _).mono ?_); rintro e w' ⟨rfl, hb⟩; replace HB := HB.trans hb; clear hb)
            | (go_at_call 15; first | (with_reducible refine (c1 _).mono ?_) | (with_reducible refine (c2 _).mono ?_)
               rintro e w' ⟨rfl, hb⟩; replace HB := HB.trans hb; clear hb))
          go_ret
          exact ⟨rfl, HB⟩
        · have k2 : decide (1 < b) = false := decide_eq_false (by omega)
          have k3 : decide (b < -1) = true := decide_eq_true g2
          go_enter Try.func8, Try.ntmps8
          go_wp2_with (first
            | (go_at_call 14; (with_reducible refine (shown_any _).mono ?_); rintro e w' ⟨rfl, hb⟩; replace HB := HB.trans hb; clear hb)
            | (go_at_call 15; first | (with_reducible refine (c1 _).mono ?_) | (with_reducible refine (c2 _).mono ?_)
               rintro e w' ⟨rfl, hb⟩; replace HB := HB.trans hb; clear hb))
          go_ret
          exact ⟨rfl, HB⟩
        · exact absurd g (by decide)
      · have k1 : decide (1 < a) = false := decide_eq_false (by omega)
        have k4 : decide (a < -1) = true := decide_eq_true g
        rcases b2 with g2 | g2 | ⟨rfl, rfl⟩
        · have k2 : decide (1 < b) = true := decide_eq_true g2
          go_enter Try.func8, Try.ntmps8
          go_wp2_with (first
            | (go_at_call 14; (with_reducible refine (shown_any _).mono ?_); rintro e w' ⟨rfl, hb⟩; replace HB := HB.trans hb; clear hb)
            | (go_at_call 15; first | (with_reducible refine (c1 _).mono ?_) | (with_reducible refine (c2 _).mono ?_)
               rintro e w' ⟨rfl, hb⟩; replace HB := HB.trans hb; clear hb))
          go_ret
          exact ⟨rfl, HB⟩
        · have k2 : decide (1 < b) = false := decide_eq_false (by omega)
          have k3 : decide (b < -1) = true := decide_eq_true g2
          go_enter Try.func8, Try.ntmps8
          go_wp2_with (first
            | (go_at_call 14; (with_reducible refine (shown_any _).mono ?_); rintro e w' ⟨rfl, hb⟩; replace HB := HB.trans hb; clear hb)
            | (go_at_call 15; first | (with_reducible refine (c1 _).mono ?_) | (with_reducible refine (c2 _).mono ?_)
               rintro e w' ⟨rfl, hb⟩; replace HB := HB.trans hb; clear hb))
          go_ret
          exact ⟨rfl, HB⟩
        · clear z1 z2 x1 x2 y1 y2 g k1 k4 wa wb
          go_enter Try.func8, Try.ntmps8
          go_wp2_with (first
            | (go_at_call 14; (with_reducible refine (shown_any _).mono ?_); rintro e w' ⟨rfl, hb⟩; replace HB := HB.trans hb; clear hb)
            | (go_at_call 15; first | (with_reducible refine (c1 _).mono ?_) | (with_reducible refine (c2 _).mono ?_)
               rintro e w' ⟨rfl, hb⟩; replace HB := HB.trans hb; clear hb))
          go_ret
          exact ⟨rfl, HB⟩
      · clear z1 z2 x1 x2 y1 y2 b2 wa wb
        go_enter Try.func8, Try.ntmps8
        go_wp2_with (first
          | (go_at_call 14; (with_reducible refine (shown_any _).mono ?_); rintro e w' ⟨rfl, hb⟩; replace HB := HB.trans hb; clear hb)
          | (go_at_call 15; first | (with_reducible refine (c1 _).mono ?_) | (with_reducible refine (c2 _).mono ?_)
             rintro e w' ⟨rfl, hb⟩; replace HB := HB.trans hb; clear hb))
        go_ret
        exact ⟨rfl, HB⟩

theorem small_mul {x y : Int} (hx : x.natAbs ≤ 1048576) (hy : y.natAbs ≤ 524288) : Fits (x * y) := by
  have h := Int.natAbs_mul x y
  have h2 : x.natAbs * y.natAbs ≤ 1048576 * 524288 := Nat.mul_le_mul hx hy
  unfold Fits
  omega
theorem law_rings (a b c : Int) (wa : (Lit.int .i64 a).wf = true) (wb : (Lit.int .i64 b).wf = true) (wc : (Lit.int .i64 c).wf = true) (w : World) :
    Calls Try.prog 9 #[.int .i64 a, .int .i64 b, .int .i64 c] w fun e w' => e = .returned (.bool true) ∧ Below w.heap.size w w' := by
  have HB := Bl.refl w
  obtain ⟨a1, a2, a3⟩ := tmod_bd a 524288 (by omega)
  obtain ⟨b1, b2, b3⟩ := tmod_bd b 524288 (by omega)
  obtain ⟨d1, d2, d3⟩ := tmod_bd c 524288 (by omega)
  have e9 : (524288 : Int).natAbs = 524288 := rfl
  rw [e9] at a3 b3 d3
  have a4 := a3; have b4 := b3; have d4 := d3
  clear a1 a2 a3 b1 b2 b3 d1 d2 d3
  have wa' := fits_wf wa; have wb' := fits_wf wb; have wc' := fits_wf wc
  generalize hA : a.tmod 524288 = A at *
  generalize hB : b.tmod 524288 = B at *
  generalize hC : c.tmod 524288 = C at *
  have c1 := fun w => do_add A B w (by unfold Fits; omega) (by unfold Fits; omega)
  have c2 := fun w => do_mul (A + B) C w (by unfold Fits; omega) (by unfold Fits; omega)
  have c3 := fun w => do_mul A C w (by unfold Fits; omega) (by unfold Fits; omega)
  have c4 := fun w => do_mul B C w (by unfold Fits; omega) (by unfold Fits; omega)
  have f2 := small_mul (x := A + B) (y := C) (by omega) (by omega)
  have f3 := small_mul (x := A) (y := C) (by omega) (by omega)
  have f4 := small_mul (x := B) (y := C) (by omega) (by omega)
  have c5 := fun w => do_add (A * C) (B * C) w f3 f4
  have c6 := fun w => do_add (A + B) C w (by unfold Fits; omega) (by unfold Fits; omega)
  have c7 := fun w => do_add B C w (by unfold Fits; omega) (by unfold Fits; omega)
  have c8 := fun w => do_add A (B + C) w (by unfold Fits; omega) (by unfold Fits; omega)
  rw [chk_ok (by unfold Fits; omega)] at c1 c6 c7 c8
  rw [← Int.add_mul, chk_ok f2] at c5
  rw [chk_ok f2] at c2
  rw [chk_ok f3] at c3
  rw [chk_ok f4] at c4
  rw [← Int.add_assoc] at c8
  generalize A * C = x at *
  generalize B * C = y at *
  generalize (A + B) * C = z at *
  clear f2 f3 f4 a4 b4 d4 wa wb wc
  generalize A + B + C = s at *
  generalize A + B = u at *
  generalize B + C = v at *
  obtain ⟨x1, x2⟩ := wa'
  obtain ⟨y1, y2⟩ := wb'
  obtain ⟨z1, z2⟩ := wc'
  go_enter Try.func9, Try.ntmps9
  go_wp2_with (first
    | (go_at_call 14; (with_reducible refine (shown_any _).mono ?_); rintro e w' ⟨rfl, hb⟩; replace HB := HB.trans hb; clear hb)
    | (go_at_call 15; first | (with_reducible refine (c1 _).mono ?_) | (with_reducible refine (c2 _).mono ?_) | (with_reducible refine (c3 _).mono ?_) | (with_reducible refine (c4 _).mono ?_) | (with_reducible refine (c5 _).mono ?_) | (with_reducible refine (c6 _).mono ?_) | (with_reducible refine (c7 _).mono ?_) | (with_reducible refine (c8 _).mono ?_)
       rintro e w' ⟨rfl, hb⟩; replace HB := HB.trans hb; clear hb))
  go_ret
  exact ⟨rfl, HB⟩
end Go.Proofs.Ytcbfognflngbaaa.Num
