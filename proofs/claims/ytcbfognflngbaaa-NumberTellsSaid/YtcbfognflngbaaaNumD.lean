/- Contract of number.pow. -/
import Derived.Test.YtcbfognflngbaaaNumB
import Derived.Test.YtcbfognflngbaaaNumC
set_option linter.unusedVariables false
namespace Go.Proofs.Ytcbfognflngbaaa.Num
open Go.RowKit
def powS (a b : Int) : Int × ByteArray := if b < 0 then (0, eValue) else chk (a ^ b.toNat)

theorem pow_below (a b : Int) (w : World) (h : b < 0) :
    Calls Try.prog 30 #[.int .i64 a, .int .i64 b] w fun e w' => e = two 0 eValue ∧ w = w' := by
  go_enter Try.func30, Try.ntmps30
  go_wp2
  go_ret2
  exact ⟨rfl, rfl⟩

theorem pow_great (a : Int) (B : Nat) (w : World) (ha : Fits a) (hB : B ≤ 9223372036854775807) (h0 : (a == 0) = false) (h1 : (a == 1) = false) (h2 : (a == -1) = false) :
    Calls Try.prog 30 #[.int .i64 a, .int .i64 (B : Nat)] w fun e w' => e = two (chk (a ^ B)).1 (chk (a ^ B)).2 ∧ w = w' := by
  go_enter Try.func30, Try.ntmps30
  go_wp2
  go_loop [1, 6] (fun bb o => ∃ (k : Nat) (x : Int), k ≤ B ∧ bb = .int .i64 ((B : Int) - k) ∧ x = a ^ k ∧ Fits x ∧ o = .int .i64 x) (fun bb _ => (intOf bb).toNat)
  case atStart => exact ⟨0, 1, by omega, by simp, by simp, by decide, rfl⟩
  case round =>
    obtain ⟨k, x, hk, rfl, hx, hfx, rfl⟩ := hrel
    have X := Lib.hid hx; clear hx
    by_cases hlt : k < B
    · have C := fun w => mul_any x a w hfx ha
      have hpos : (0 : Int) < (B : Int) - k := by omega
      have e1 : x * a = a ^ (k + 1) := by rw [X.out, Int.pow_succ]
      by_cases hf : Fits (x * a)
      · rw [chk_ok hf] at C
        have E1 := Lib.hid e1; clear e1
        generalize hy : x * a = y at *
        clear hy
        go_wp2_with (go_at_call 27; (with_reducible refine (C _).mono ?_); rintro e w' ⟨rfl, rfl⟩)
        go_round
        case rel => exact ⟨k + 1, y, by omega, by congr 1; omega, E1.out, hf, rfl⟩
        case measure => simp [intOf]; omega
      · rw [chk_no hf] at C
        have F := Lib.hid (chk_no (pow_no (by rw [← e1]; exact hf) (show k + 1 ≤ B by omega)))
        clear e1
        go_wp2_with (go_at_call 27; (with_reducible refine (C _).mono ?_); rintro e w' ⟨rfl, rfl⟩)
        go_ret2
        exact ⟨by rw [F.out]; rfl, rfl⟩
    · have : k = B := by omega
      subst this
      have F := Lib.hid (show chk (a ^ k) = (x, eNone) by rw [← X.out, chk_ok hfx])
      have hz : (k : Int) - k = 0 := by omega
      go_wp2
      go_ret2
      exact ⟨by rw [F.out]; rfl, rfl⟩

theorem and_one_i64 (B : Nat) (hB : B ≤ 9223372036854775807) : bits BinOp.and IntKind.i64 (B : Int) 1 = ((B % 2 : Nat) : Int) := by
  have h1 : (BitVec.ofInt 64 (B : Int)).toNat = B := by
    rw [BitVec.ofInt_natCast, BitVec.toNat_ofNat]; exact Nat.mod_eq_of_lt (by omega)
  show IntKind.i64.wrap ((BitVec.ofInt 64 (B : Int) &&& BitVec.ofInt 64 (1 : Int)).toNat : Int) = _
  have h2 : (BitVec.ofInt 64 (1 : Int)).toNat = 1 := by decide
  rw [BitVec.toNat_and, h1, h2, Nat.and_one_is_mod, IntKind.wrap_i64]
  omega

set_option maxHeartbeats 1000000 in
theorem pow_small_any (a : Int) (B C : Nat) (r : Int) (w : World) (ha : Fits a) (hB : B ≤ 9223372036854775807) (hs : a = 0 ∨ a = 1 ∨ a = -1)
    (hr : bits BinOp.and IntKind.i64 (B : Int) 1 = r) (h0 : 0 ≤ r) (h1 : r ≤ 1) (hC1 : (B : Int) ≤ 2 - r → C = B) (hC2 : ¬ ((B : Int) ≤ 2 - r) → (C : Int) = 2 - r) :
    Calls Try.prog 30 #[.int .i64 a, .int .i64 (B : Nat)] w fun e w' => e = two (chk (a ^ C)).1 (chk (a ^ C)).2 ∧ w = w' := by
  have hsm : ∀ n, Fits (a ^ n) := by intro n; have := pow_small_fits a hs n; unfold Fits; omega
  have H := Lib.hid hsm; clear hsm
  have hCb : C ≤ 9223372036854775807 := by
    by_cases h : (B : Int) ≤ 2 - r
    · rw [hC1 h]; exact hB
    · have := hC2 h; omega
  have H1 := Lib.hid hC1; clear hC1
  have H2 := Lib.hid hC2; clear hC2
  have hb : ((a == 0) = true) ∨ ((a == 0) = false ∧ (a == 1) = true) ∨ ((a == 0) = false ∧ (a == 1) = false ∧ (a == -1) = true) := by
    rcases hs with rfl | rfl | rfl
    · exact .inl (by decide)
    · exact .inr (.inl (by decide))
    · exact .inr (.inr (by decide))
  clear hs
  rcases hb with hb1 | ⟨hb1, hb2⟩ | ⟨hb1, hb2, hb3⟩
  all_goals
    go_enter Try.func30, Try.ntmps30
    go_wp2
  all_goals
    go_loop [1, 6] (fun bb o => ∃ (k : Nat) (x : Int), k ≤ C ∧ bb = .int .i64 ((C : Int) - k) ∧ x = a ^ k ∧ o = .int .i64 x) (fun bb _ => (intOf bb).toNat)
    case atStart => exact ⟨0, 1, by omega, by congr 1; first | (have := H1.out (by omega); omega) | (have := H2.out (by omega); omega), by simp, rfl⟩
    case round =>
      obtain ⟨k, x, hk, rfl, hx, rfl⟩ := hrel
      have hfx := H.out k
      rw [← hx] at hfx
      have X := Lib.hid hx; clear hx
      by_cases hlt : k < C
      · have D := fun w => mul_any x a w hfx ha
        have e1 : x * a = a ^ (k + 1) := by rw [X.out, Int.pow_succ]
        have hf : Fits (x * a) := by rw [e1]; exact H.out _
        have hpos : (0 : Int) < (C : Int) - k := by omega
        rw [chk_ok hf] at D
        have E1 := Lib.hid e1; clear e1
        generalize hy : x * a = y at *
        clear hy
        go_wp2_with (go_at_call 27; (with_reducible refine (D _).mono ?_); rintro e w' ⟨rfl, rfl⟩)
        go_round
        case rel => exact ⟨k + 1, y, by omega, by congr 1; omega, E1.out, rfl⟩
        case measure => simp [intOf]; omega
      · have : k = C := by omega
        subst this
        have F := Lib.hid (show chk (a ^ k) = (x, eNone) by rw [← X.out, chk_ok hfx])
        have hz : (k : Int) - k = 0 := by omega
        go_wp2
        go_ret2
        exact ⟨by rw [F.out]; rfl, rfl⟩

theorem pow_any (a b : Int) (w : World) (ha : Fits a) (hb : Fits b) :
    Calls Try.prog 30 #[.int .i64 a, .int .i64 b] w fun e w' => e = two (powS a b).1 (powS a b).2 ∧ w = w' := by
  unfold powS
  by_cases h : b < 0
  · rw [if_pos h]; exact pow_below a b w h
  · rw [if_neg h]
    obtain ⟨B, rfl⟩ := Int.eq_ofNat_of_zero_le (show 0 ≤ b by omega)
    rw [Int.toNat_natCast]
    have hB : B ≤ 9223372036854775807 := by unfold Fits at hb; omega
    by_cases hs : a = 0 ∨ a = 1 ∨ a = -1
    · have hr := and_one_i64 B hB
      have key : ∀ C : Nat, (B = 0 ↔ C = 0) → B % 2 = C % 2 → ((B : Int) ≤ 2 - ((B % 2 : Nat) : Int) → C = B) → (¬ ((B : Int) ≤ 2 - ((B % 2 : Nat) : Int)) → (C : Int) = 2 - ((B % 2 : Nat) : Int)) →
          Calls Try.prog 30 #[.int .i64 a, .int .i64 (B : Nat)] w fun e w' => e = two (chk (a ^ B)).1 (chk (a ^ B)).2 ∧ w = w' := by
        intro C h1 h2 h3 h4
        rw [pow_small a hs B C h1 h2]
        exact pow_small_any a B C _ w ha hB hs hr (by omega) (by omega) h3 h4
      by_cases hle : (B : Int) ≤ 2 - ((B % 2 : Nat) : Int)
      · exact key B Iff.rfl rfl (fun _ => rfl) (fun h => absurd hle h)
      · exact key (2 - B % 2) (by omega) (by omega) (fun h => absurd h hle) (fun _ => by omega)
    · exact pow_great a B w ha hB (by simpa using fun h => hs (.inl h)) (by simpa using fun h => hs (.inr (.inl h))) (by simpa using fun h => hs (.inr (.inr h)))
end Go.Proofs.Ytcbfognflngbaaa.Num
