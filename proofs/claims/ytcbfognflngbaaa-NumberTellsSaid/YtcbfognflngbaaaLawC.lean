/- Walks of the laws NumberPowers and NumberFar. -/
import Derived.Test.YtcbfognflngbaaaLawA
set_option linter.unusedVariables false
namespace Go.Proofs.Ytcbfognflngbaaa.Num
open Go.RowKit
theorem powS_nat (a : Int) (c : Nat) : powS a (c : Int) = chk (a ^ c) := by
  unfold powS
  rw [if_neg (by omega), Int.toNat_natCast]

theorem law_powers (a b : Int) (wa : (Lit.int .i64 a).wf = true) (wb : (Lit.int .i64 b).wf = true) (w : World) :
    Calls Try.prog 10 #[.int .i64 a, .int .i64 b] w fun e w' => e = .returned (.bool true) ∧ Below w.heap.size w w' := by
  have ha := fits_wf wa; have hb := fits_wf wb
  have HB := Bl.refl w
  by_cases hneg : b < 0
  · have c1 := fun w => do_pow a b w ha hb
    rw [show powS a b = (0, eValue) by unfold powS; rw [if_pos hneg]] at c1
    go_enter Try.func10, Try.ntmps10
    go_wp2_with (first
      | (go_at_call 14; (with_reducible refine (shown_any _).mono ?_); rintro e w' ⟨rfl, hb⟩; replace HB := HB.trans hb; clear hb)
      | (go_at_call 15; first | (with_reducible refine (c1 _).mono ?_)
         rintro e w' ⟨rfl, hb⟩; replace HB := HB.trans hb; clear hb))
    go_ret
    exact ⟨rfl, HB⟩
  · obtain ⟨B, rfl⟩ := Int.eq_ofNat_of_zero_le (show 0 ≤ b by omega)
    have hc : (B : Int) % 71 = ((B % 71 : Nat) : Int) := by omega
    have hlt : B % 71 < 71 := Nat.mod_lt _ (by decide)
    generalize B % 71 = C at *
    have c1 := fun w => do_pow a (C : Int) w ha (by unfold Fits; omega)
    have c2 := fun w => do_pow a ((C : Int) + 1) w ha (by unfold Fits; omega)
    rw [powS_nat] at c1
    rw [show ((C : Int) + 1) = ((C + 1 : Nat) : Int) from by omega, powS_nat, show ((C + 1 : Nat) : Int) = (C : Int) + 1 from by omega, Int.pow_succ] at c2
    by_cases hz : C = 0
    · subst hz
      rw [Int.pow_zero, chk_ok (by decide)] at c1
      rw [Int.pow_zero, Int.one_mul, chk_ok ha] at c2
      have c3 := fun w => do_mul 1 a w (by decide) ha
      rw [Int.one_mul, chk_ok ha] at c3
      have h0 : ((0 : Nat) : Int) = 0 := rfl
      rw [h0] at c1 c2 hc
      have h1 : (0 : Int) + 1 = 1 := rfl
      rw [h1] at c2
      clear h0 h1
      go_enter Try.func10, Try.ntmps10
      go_wp2_with (first
        | (go_at_call 14; (with_reducible refine (shown_any _).mono ?_); rintro e w' ⟨rfl, hb⟩; replace HB := HB.trans hb; clear hb)
        | (go_at_call 15; first | (with_reducible refine (c1 _).mono ?_) | (with_reducible refine (c2 _).mono ?_) | (with_reducible refine (c3 _).mono ?_)
           rintro e w' ⟨rfl, hb⟩; replace HB := HB.trans hb; clear hb))
      go_ret
      exact ⟨rfl, HB⟩
    · have z1 : ((C : Int) == 0) = false := eq_f (by omega)
      by_cases hf : Fits (a ^ C)
      · rw [chk_ok hf] at c1
        have c3 := fun w => do_mul (a ^ C) a w hf ha
        by_cases hg : Fits (a ^ C * a)
        · rw [chk_ok hg] at c2 c3
          generalize a ^ C * a = y at *
          generalize a ^ C = x at *
          clear hf hg hz hlt
          go_enter Try.func10, Try.ntmps10
          go_wp2_with (first
            | (go_at_call 14; (with_reducible refine (shown_any _).mono ?_); rintro e w' ⟨rfl, hb⟩; replace HB := HB.trans hb; clear hb)
            | (go_at_call 15; first | (with_reducible refine (c1 _).mono ?_) | (with_reducible refine (c2 _).mono ?_) | (with_reducible refine (c3 _).mono ?_)
               rintro e w' ⟨rfl, hb⟩; replace HB := HB.trans hb; clear hb))
          go_ret
          exact ⟨rfl, HB⟩
        · rw [chk_no hg] at c2 c3
          generalize a ^ C = x at *
          clear hf hg hz hlt
          go_enter Try.func10, Try.ntmps10
          go_wp2_with (first
            | (go_at_call 14; (with_reducible refine (shown_any _).mono ?_); rintro e w' ⟨rfl, hb⟩; replace HB := HB.trans hb; clear hb)
            | (go_at_call 15; first | (with_reducible refine (c1 _).mono ?_) | (with_reducible refine (c2 _).mono ?_) | (with_reducible refine (c3 _).mono ?_)
               rintro e w' ⟨rfl, hb⟩; replace HB := HB.trans hb; clear hb))
          go_ret
          exact ⟨rfl, HB⟩
      · have hg : ¬ Fits (a ^ C * a) := by rw [← Int.pow_succ]; exact pow_no hf (by omega)
        have hbig : a > 1 ∨ a < -1 := by
          apply Classical.byContradiction
          intro h
          have := pow_small_fits a (by omega) C
          apply hf; unfold Fits; omega
        rw [chk_no hf] at c1
        rw [chk_no hg] at c2
        clear hf hg hz hlt
        rcases hbig with g | g
        · have k1 : decide (1 < a) = true := decide_eq_true g
          go_enter Try.func10, Try.ntmps10
          go_wp2_with (first
            | (go_at_call 14; (with_reducible refine (shown_any _).mono ?_); rintro e w' ⟨rfl, hb⟩; replace HB := HB.trans hb; clear hb)
            | (go_at_call 15; first | (with_reducible refine (c1 _).mono ?_) | (with_reducible refine (c2 _).mono ?_)
               rintro e w' ⟨rfl, hb⟩; replace HB := HB.trans hb; clear hb))
          go_ret
          exact ⟨rfl, HB⟩
        · have k1 : decide (1 < a) = false := decide_eq_false (by omega)
          have k2 : decide (a < -1) = true := decide_eq_true g
          go_enter Try.func10, Try.ntmps10
          go_wp2_with (first
            | (go_at_call 14; (with_reducible refine (shown_any _).mono ?_); rintro e w' ⟨rfl, hb⟩; replace HB := HB.trans hb; clear hb)
            | (go_at_call 15; first | (with_reducible refine (c1 _).mono ?_) | (with_reducible refine (c2 _).mono ?_)
               rintro e w' ⟨rfl, hb⟩; replace HB := HB.trans hb; clear hb))
          go_ret
          exact ⟨rfl, HB⟩

theorem pow_m1 (n : Nat) : (-1 : Int) ^ n = if n % 2 = 0 then 1 else -1 := by
  induction n with
  | zero => rfl
  | succ n ih => rw [Int.pow_succ, ih]; by_cases h : n % 2 = 0 <;> simp [h] <;> omega

theorem far_core (a b : Int) (B : Nat) (w : World) (ha : Fits a) (h64 : 64 ≤ B) (hB : B ≤ 9223372036854775807)
    (hb : (b < 64 ∧ ∃ v, bits BinOp.and IntKind.i64 b 65535 = v ∧ 0 ≤ v ∧ v ≤ 65535 ∧ (B : Int) = 64 + v) ∨ (¬ b < 64 ∧ b = B)) :
    Calls Try.prog 11 #[.int .i64 a, .int .i64 b] w fun e w' => e = .returned (.bool true) ∧ Below w.heap.size w w' := by
  have HB := Bl.refl w
  have c1 := fun w => do_pow a (B : Int) w ha (by unfold Fits; omega)
  rw [powS_nat] at c1
  have hx : (∃ v : Int, 0 ≤ v ∧ v ≤ 65535 ∧ bits BinOp.and IntKind.i64 b 65535 = v ∧ b < 64 ∧ (B : Int) = 64 + v) ∨ (64 ≤ b ∧ (B : Int) = b) := by
    rcases hb with ⟨h1, v, h2, h3, h4, h5⟩ | ⟨h1, h2⟩
    · exact .inl ⟨v, h3, h4, h2, h1, h5⟩
    · exact .inr ⟨by omega, h2.symm⟩
  clear hb
  rcases hx with ⟨v, hv0, hv1, hv, hb64, hBv⟩ | ⟨hb64, hBv⟩
  · rw [hBv] at c1
    by_cases h0 : a = 0
    · have p : a ^ B = 0 := by subst h0; obtain ⟨n, rfl⟩ := Nat.exists_eq_add_of_lt (show 0 < B by omega); rw [Nat.zero_add, Int.pow_succ]; simp
      rw [p, chk_ok (by decide)] at c1
      subst h0
      clear ha p
      go_enter Try.func11, Try.ntmps11
      go_wp2_with (first
        | (go_at_call 14; (with_reducible refine (shown_any _).mono ?_); rintro e w' ⟨rfl, hb⟩; replace HB := HB.trans hb; clear hb)
        | (go_at_call 15; first | (with_reducible refine (c1 _).mono ?_)
           rintro e w' ⟨rfl, hb⟩; replace HB := HB.trans hb; clear hb))
      go_ret
      exact ⟨rfl, HB⟩
    · have z0 := eq_f h0
      by_cases h1 : a = 1
      · have p : a ^ B = 1 := by subst h1; exact Int.one_pow
        rw [p, chk_ok (by decide)] at c1
        subst h1
        clear ha p z0 h0
        go_enter Try.func11, Try.ntmps11
        go_wp2_with (first
          | (go_at_call 14; (with_reducible refine (shown_any _).mono ?_); rintro e w' ⟨rfl, hb⟩; replace HB := HB.trans hb; clear hb)
          | (go_at_call 15; first | (with_reducible refine (c1 _).mono ?_)
             rintro e w' ⟨rfl, hb⟩; replace HB := HB.trans hb; clear hb))
        go_ret
        exact ⟨rfl, HB⟩
      · have z1 := eq_f h1
        by_cases h2 : a = -1
        · have p := pow_m1 B
          subst h2
          rw [p] at c1
          clear ha p z0 z1 h0 h1
          by_cases hp : B % 2 = 0
          · rw [if_pos hp, chk_ok (by decide)] at c1
            have hq : ((64 + v) % 2 == 0) = true := eq_t (by omega)
            clear hBv hp
            go_enter Try.func11, Try.ntmps11
            go_wp2_with (first
              | (go_at_call 14; (with_reducible refine (shown_any _).mono ?_); rintro e w' ⟨rfl, hb⟩; replace HB := HB.trans hb; clear hb)
              | (go_at_call 15; first | (with_reducible refine (c1 _).mono ?_)
                 rintro e w' ⟨rfl, hb⟩; replace HB := HB.trans hb; clear hb))
            go_ret
            exact ⟨rfl, HB⟩
          · rw [if_neg hp, chk_ok (by decide)] at c1
            have hq : ((64 + v) % 2 == 0) = false := eq_f (by omega)
            clear hBv hp
            go_enter Try.func11, Try.ntmps11
            go_wp2_with (first
              | (go_at_call 14; (with_reducible refine (shown_any _).mono ?_); rintro e w' ⟨rfl, hb⟩; replace HB := HB.trans hb; clear hb)
              | (go_at_call 15; first | (with_reducible refine (c1 _).mono ?_)
                 rintro e w' ⟨rfl, hb⟩; replace HB := HB.trans hb; clear hb))
            go_ret
            exact ⟨rfl, HB⟩
        · have z2 := eq_f h2
          rw [chk_no (pow_far (by omega) h64)] at c1
          clear hBv h0 h1 h2 ha
          go_enter Try.func11, Try.ntmps11
          go_wp2_with (first
            | (go_at_call 14; (with_reducible refine (shown_any _).mono ?_); rintro e w' ⟨rfl, hb⟩; replace HB := HB.trans hb; clear hb)
            | (go_at_call 15; first | (with_reducible refine (c1 _).mono ?_)
               rintro e w' ⟨rfl, hb⟩; replace HB := HB.trans hb; clear hb))
          go_ret
          exact ⟨rfl, HB⟩
  · rw [hBv] at c1
    by_cases h0 : a = 0
    · have p : a ^ B = 0 := by subst h0; obtain ⟨n, rfl⟩ := Nat.exists_eq_add_of_lt (show 0 < B by omega); rw [Nat.zero_add, Int.pow_succ]; simp
      rw [p, chk_ok (by decide)] at c1
      subst h0
      clear ha p
      go_enter Try.func11, Try.ntmps11
      go_wp2_with (first
        | (go_at_call 14; (with_reducible refine (shown_any _).mono ?_); rintro e w' ⟨rfl, hb⟩; replace HB := HB.trans hb; clear hb)
        | (go_at_call 15; first | (with_reducible refine (c1 _).mono ?_)
           rintro e w' ⟨rfl, hb⟩; replace HB := HB.trans hb; clear hb))
      go_ret
      exact ⟨rfl, HB⟩
    · have z0 := eq_f h0
      by_cases h1 : a = 1
      · have p : a ^ B = 1 := by subst h1; exact Int.one_pow
        rw [p, chk_ok (by decide)] at c1
        subst h1
        clear ha p z0 h0
        go_enter Try.func11, Try.ntmps11
        go_wp2_with (first
          | (go_at_call 14; (with_reducible refine (shown_any _).mono ?_); rintro e w' ⟨rfl, hb⟩; replace HB := HB.trans hb; clear hb)
          | (go_at_call 15; first | (with_reducible refine (c1 _).mono ?_)
             rintro e w' ⟨rfl, hb⟩; replace HB := HB.trans hb; clear hb))
        go_ret
        exact ⟨rfl, HB⟩
      · have z1 := eq_f h1
        by_cases h2 : a = -1
        · have p := pow_m1 B
          subst h2
          rw [p] at c1
          clear ha p z0 z1 h0 h1
          by_cases hp : B % 2 = 0
          · rw [if_pos hp, chk_ok (by decide)] at c1
            have hq : (b % 2 == 0) = true := eq_t (by omega)
            clear hBv hp
            go_enter Try.func11, Try.ntmps11
            go_wp2_with (first
              | (go_at_call 14; (with_reducible refine (shown_any _).mono ?_); rintro e w' ⟨rfl, hb⟩; replace HB := HB.trans hb; clear hb)
              | (go_at_call 15; first | (with_reducible refine (c1 _).mono ?_)
                 rintro e w' ⟨rfl, hb⟩; replace HB := HB.trans hb; clear hb))
            go_ret
            exact ⟨rfl, HB⟩
          · rw [if_neg hp, chk_ok (by decide)] at c1
            have hq : (b % 2 == 0) = false := eq_f (by omega)
            clear hBv hp
            go_enter Try.func11, Try.ntmps11
            go_wp2_with (first
              | (go_at_call 14; (with_reducible refine (shown_any _).mono ?_); rintro e w' ⟨rfl, hb⟩; replace HB := HB.trans hb; clear hb)
              | (go_at_call 15; first | (with_reducible refine (c1 _).mono ?_)
                 rintro e w' ⟨rfl, hb⟩; replace HB := HB.trans hb; clear hb))
            go_ret
            exact ⟨rfl, HB⟩
        · have z2 := eq_f h2
          rw [chk_no (pow_far (by omega) h64)] at c1
          clear hBv h0 h1 h2 ha
          go_enter Try.func11, Try.ntmps11
          go_wp2_with (first
            | (go_at_call 14; (with_reducible refine (shown_any _).mono ?_); rintro e w' ⟨rfl, hb⟩; replace HB := HB.trans hb; clear hb)
            | (go_at_call 15; first | (with_reducible refine (c1 _).mono ?_)
               rintro e w' ⟨rfl, hb⟩; replace HB := HB.trans hb; clear hb))
          go_ret
          exact ⟨rfl, HB⟩

theorem and_mask (b : Int) : ∃ v, bits BinOp.and IntKind.i64 b 65535 = v ∧ 0 ≤ v ∧ v ≤ 65535 := by
  refine ⟨_, rfl, ?_⟩
  show 0 ≤ IntKind.i64.wrap ((BitVec.ofInt 64 b &&& BitVec.ofInt 64 (65535 : Int)).toNat : Int) ∧ IntKind.i64.wrap ((BitVec.ofInt 64 b &&& BitVec.ofInt 64 (65535 : Int)).toNat : Int) ≤ 65535
  have h2 : (BitVec.ofInt 64 (65535 : Int)).toNat = 65535 := by decide
  have h3 : (BitVec.ofInt 64 b &&& BitVec.ofInt 64 (65535 : Int)).toNat ≤ 65535 := by
    rw [BitVec.toNat_and, h2]; exact Nat.and_le_right
  rw [IntKind.wrap_i64]
  omega

theorem law_far (a b : Int) (wa : (Lit.int .i64 a).wf = true) (wb : (Lit.int .i64 b).wf = true) (w : World) :
    Calls Try.prog 11 #[.int .i64 a, .int .i64 b] w fun e w' => e = .returned (.bool true) ∧ Below w.heap.size w w' := by
  have ha := fits_wf wa; have hb := fits_wf wb
  by_cases h : b < 64
  · obtain ⟨v, hv, h0, h1⟩ := and_mask b
    exact far_core a b (64 + v).toNat w ha (by omega) (by omega) (.inl ⟨h, v, hv, h0, h1, by omega⟩)
  · unfold Fits at hb
    exact far_core a b b.toNat w ha (by omega) (by omega) (.inr ⟨h, by omega⟩)
end Go.Proofs.Ytcbfognflngbaaa.Num
