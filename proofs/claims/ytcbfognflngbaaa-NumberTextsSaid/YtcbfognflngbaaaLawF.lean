/- Walk of the law NumberTexts. -/
import Derived.Test.YtcbfognflngbaaaRefK
set_option linter.unusedVariables false
namespace Go.Proofs.Ytcbfognflngbaaa.Num
open Go.RowKit
theorem sm_mono {z : Int} {j k : Nat} (h : Sm j z) (hjk : j ≤ k) : Sm k z := Nat.lt_of_lt_of_le h (Nat.pow_le_pow_right (by decide) hjk)
theorem fits_sm5 {z : Int} (h : Fits z) : Sm 5 z := by
  have h1 : z.natAbs < K5 := by
    have : (18446744073709551616 : Nat) < K5 := by decide
    unfold Fits at h; omega
  exact h1
theorem sm_neg {z : Int} {k : Nat} (h : Sm k z) : Sm k (-z) := by unfold Sm at *; rwa [Int.natAbs_neg]

theorem law_texts (a : Int) (wa : (Lit.int .i64 a).wf = true) (w : World) :
    Calls Try.prog 13 #[.int .i64 a] w fun e w' => e = .returned (.bool true) ∧ Below w.heap.size w w' := by
  have ha := fits_wf wa
  have HB := Bl.refl w
  have c1 := fun w => neg_any a w ha
  have c2 := fun w => text_any a w ha
  have c3 := fun w => reftext_any a w ha
  have c4 := fun w => of_any a w ha
  have S1 := Lib.hid (sm_mono (k := 100) (fits_sm5 ha) (by decide))
  have S2 := Lib.hid (sm_neg (sm_mono (k := 900) (fits_sm5 ha) (by decide)))
  generalize str (textL a) = S at *
  clear wa ha
  by_cases hf : Fits (-a)
  · rw [chk_ok hf] at c1
    have hd : decide (Fits (-a)) = true := decide_eq_true hf
    go_enter Try.func13, Try.ntmps13
    go_wp2_with (first
      | (go_at_call 14; (with_reducible refine (shown_any _).mono ?_); rintro e w' ⟨rfl, hb⟩; replace HB := HB.trans hb; clear hb)
      | (go_at_call 20; (with_reducible refine (c1 _).mono ?_); rintro e w' ⟨rfl, rfl⟩)
      | (go_at_call 23; (with_reducible refine (c4 _).mono ?_); rintro e w1 ⟨v, rfl, hn1, hb⟩; replace HB := Bl.trans HB hb; clear hb)
      | (go_at_call 22; (with_reducible refine (neg_num _ _ _ hn1 S1.out).mono ?_); rintro e w2 ⟨v2, rfl, hn2, hb⟩; replace HB := Bl.trans HB hb; clear hb hn1)
      | (go_at_call 21; (with_reducible refine (int_num _ _ _ hn2 S2.out).mono ?_); rintro e w3 ⟨m, rfl, hm, hb⟩; obtain rfl := hm hf; rw [hd]; replace HB := Bl.trans HB hb; clear hb hn2)
      | (go_at_call 19; (with_reducible refine (c2 _).mono ?_); rintro e w4 ⟨rfl, hb⟩; replace HB := Bl.trans HB hb; clear hb)
      | (go_at_call 24; (with_reducible refine (c3 _).mono ?_); rintro e w5 ⟨rfl, hb⟩; replace HB := Bl.trans HB hb; clear hb))
    go_ret
    exact ⟨rfl, HB⟩
  · rw [chk_no hf] at c1
    have hd : decide (Fits (-a)) = false := decide_eq_false hf
    go_enter Try.func13, Try.ntmps13
    go_wp2_with (first
      | (go_at_call 14; (with_reducible refine (shown_any _).mono ?_); rintro e w' ⟨rfl, hb⟩; replace HB := HB.trans hb; clear hb)
      | (go_at_call 20; (with_reducible refine (c1 _).mono ?_); rintro e w' ⟨rfl, rfl⟩)
      | (go_at_call 23; (with_reducible refine (c4 _).mono ?_); rintro e w1 ⟨v, rfl, hn1, hb⟩; replace HB := Bl.trans HB hb; clear hb)
      | (go_at_call 22; (with_reducible refine (neg_num _ _ _ hn1 S1.out).mono ?_); rintro e w2 ⟨v2, rfl, hn2, hb⟩; replace HB := Bl.trans HB hb; clear hb hn1)
      | (go_at_call 21; (with_reducible refine (int_num _ _ _ hn2 S2.out).mono ?_); rintro e w3 ⟨m, rfl, hm, hb⟩; rw [hd]; replace HB := Bl.trans HB hb; clear hb hn2)
      | (go_at_call 19; (with_reducible refine (c2 _).mono ?_); rintro e w4 ⟨rfl, hb⟩; replace HB := Bl.trans HB hb; clear hb)
      | (go_at_call 24; (with_reducible refine (c3 _).mono ?_); rintro e w5 ⟨rfl, hb⟩; replace HB := Bl.trans HB hb; clear hb))
    go_ret
    exact ⟨rfl, HB⟩
end Go.Proofs.Ytcbfognflngbaaa.Num
