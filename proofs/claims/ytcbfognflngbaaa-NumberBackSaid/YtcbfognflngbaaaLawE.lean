/- Walk of the law NumberBack. -/
import Derived.Test.YtcbfognflngbaaaLawC
import Derived.Test.YtcbfognflngbaaaNumQ
import Derived.Lib.Strings
set_option linter.unusedVariables false
namespace Go.Proofs.Ytcbfognflngbaaa.Num
open Go.RowKit
def zs : Nat → ByteArray
  | 0 => ⟨#[]⟩
  | k + 1 => zs k ++ ⟨#[48]⟩
theorem app_data (x y : ByteArray) : (x ++ y).data.toList = x.data.toList ++ y.data.toList := by simp
theorem zs_data (k : Nat) : (zs k).data.toList = List.replicate k 48 := by
  induction k with
  | zero => rfl
  | succ k ih => rw [zs, app_data, ih, List.replicate_succ']
theorem zs_size (k : Nat) : (zs k).size = k := by rw [← len_toList, zs_data]; simp

theorem D_len : ∀ (k n : Nat), n < 10 ^ (k + 1) → (D n).length ≤ k + 1 := by
  intro k
  induction k with
  | zero => intro n h; rw [D_small (by simpa using h)]; simp
  | succ k ih =>
    intro n h
    rcases Nat.lt_or_ge n 10 with h1 | h1
    · rw [D_small h1]; simp
    · rw [D_step h1]
      have := ih (n / 10) (by rw [Nat.pow_succ] at h; omega)
      simp; omega
theorem text_len {n : Int} (hn : Fits n) : (textL n).length ≤ 100 := by
  have h := D_len 19 n.natAbs (by unfold Fits at hn; omega)
  by_cases h0 : n < 0
  · rw [textL_neg h0, List.length_cons]; omega
  · rw [textL_pos (by omega)]; omega

theorem law_back (a b n : Int) (wa : (Lit.int .i64 a).wf = true) (wb : (Lit.int .i64 b).wf = true) (wn : (Lit.int .i64 n).wf = true) (w : World) :
    Calls Try.prog 5 #[.int .i64 a, .int .i64 b, .int .i64 n] w fun e w' => e = .returned (.bool true) ∧ Below w.heap.size w w' := by
  have ha := fits_wf wa; have hb := fits_wf wb
  have HB := Bl.refl w
  obtain ⟨v, hv, v0, v1⟩ := and_mask n
  have hK : ∃ K : Nat, v % 31 = K ∧ K < 31 := ⟨(v % 31).toNat, by omega, by omega⟩
  obtain ⟨K, hK, hK31⟩ := hK
  have c4 := fun w => text_any a w ha
  have c5 := fun w => text_any b w hb
  have s20 : (textL a).length ≤ 100 := text_len ha
  have sd : (str (textL a)).data.toList = textL a := str_data _
  have ss : (str (textL a)).size = (textL a).length := str_size _
  have s0 : 0 < (str (textL a)).size := by rw [ss]; exact text_pos_len a
  have s1 : (str (textL a)).size ≤ 100 := by rw [ss]; exact s20
  have s2 : (((str (textL a)).size : Int) == 0) = false := eq_f (by omega)
  have c6 := fun w => parse_any (str (textL a)) w (by unfold maxLen; omega)
  rw [sd, parse_text ha] at c6
  have t1 : ((str (textL b)).toList == (str (textL a)).toList) = (a == b) := by
    rw [str_toList, str_toList]
    by_cases h : a = b
    · subst h; simp
    · rw [eq_f h]
      have : textL b ≠ textL a := fun e => h (text_inj hb ha e).symm
      simpa using this
  have hx : 0 < (str (textL a)).size := s0
  clear wb wn hx
  by_cases hneg : a < 0
  · have p1 : (⟨#[45]⟩ ++ zs K ++ (str (textL a)).extract 1 (str (textL a)).size : ByteArray).data.toList = 45 :: (List.replicate K 48 ++ (textL a).tail) := by
      rw [app_data, app_data, zs_data]
      rw [Go.Lib.extract_data, str_data, str_size, List.drop_one, List.take_of_length_le (by simp)]
      rfl
    have p2 : (⟨#[45]⟩ ++ zs K ++ (str (textL a)).extract 1 (str (textL a)).size : ByteArray).size ≤ maxLen := by
      rw [← len_toList, p1]; simp; unfold maxLen; omega
    have c7 := fun w => parse_any _ w p2
    rw [p1, parse_neg ha hneg K] at c7
    have C7 := Lib.hid c7; clear c7 p1 p2
    clear sd ss
    generalize str (textL a) = S at *
    generalize str (textL b) = T at *
    have hab : (a == b) = true ∨ (a == b) = false := by cases (a == b) <;> simp
    go_enter Try.func5, Try.ntmps5
    go_wp2_with (first
      | (go_at_call 14; (with_reducible refine (shown_any _).mono ?_); rintro e w' ⟨rfl, hb⟩; replace HB := HB.trans hb; clear hb)
      | (go_at_call 19; first | (with_reducible refine (c4 _).mono ?_) | (with_reducible refine (c5 _).mono ?_)
         rintro e w' ⟨rfl, hb⟩; replace HB := HB.trans hb; clear hb)
      | (go_at_call 17; (with_reducible refine (c6 _).mono ?_); rintro e w' ⟨rfl, rfl⟩))
    go_loop [11, 12] (fun z i => ∃ k : Nat, k ≤ K ∧ i = .int .i64 k ∧ z = .string (zs k)) (fun _ i => K - (intOf i).toNat)
    case atStart => exact ⟨0, by omega, rfl, rfl⟩
    case round =>
      obtain ⟨k, hk, rfl, rfl⟩ := hrel
      by_cases hlt : k < K
      · have hz := zs_size k
        have Z := Lib.hid (show zs (k + 1) = zs k ++ ⟨#[48]⟩ from rfl)
        generalize zs k = z at *
        go_wp2
        go_round
        case rel => exact ⟨k + 1, by omega, by go_num, by rw [Z.out]⟩
        case measure => simp [intOf]; omega
      · obtain rfl : k = K := by omega
        have hz := zs_size k
        generalize zs k = z at *
        go_wp2_with (go_at_call 17; (with_reducible refine (C7.out _).mono ?_); rintro e w' ⟨rfl, rfl⟩)
        go_ret
        exact ⟨rfl, HB⟩
  · have p1 : (zs K ++ str (textL a) : ByteArray).data.toList = List.replicate K 48 ++ textL a := by
      rw [app_data, zs_data, str_data]
    have p2 : (zs K ++ str (textL a) : ByteArray).size ≤ maxLen := by
      rw [← len_toList, p1]; simp; unfold maxLen; omega
    have c7 := fun w => parse_any _ w p2
    rw [p1, parse_pos ha (by omega) K] at c7
    have C7 := Lib.hid c7; clear c7 p1 p2
    clear sd ss
    generalize str (textL a) = S at *
    generalize str (textL b) = T at *
    have hab : (a == b) = true ∨ (a == b) = false := by cases (a == b) <;> simp
    go_enter Try.func5, Try.ntmps5
    go_wp2_with (first
      | (go_at_call 14; (with_reducible refine (shown_any _).mono ?_); rintro e w' ⟨rfl, hb⟩; replace HB := HB.trans hb; clear hb)
      | (go_at_call 19; first | (with_reducible refine (c4 _).mono ?_) | (with_reducible refine (c5 _).mono ?_)
         rintro e w' ⟨rfl, hb⟩; replace HB := HB.trans hb; clear hb)
      | (go_at_call 17; (with_reducible refine (c6 _).mono ?_); rintro e w' ⟨rfl, rfl⟩))
    go_loop [11, 12] (fun z i => ∃ k : Nat, k ≤ K ∧ i = .int .i64 k ∧ z = .string (zs k)) (fun _ i => K - (intOf i).toNat)
    case atStart => exact ⟨0, by omega, rfl, rfl⟩
    case round =>
      obtain ⟨k, hk, rfl, rfl⟩ := hrel
      by_cases hlt : k < K
      · have hz := zs_size k
        have Z := Lib.hid (show zs (k + 1) = zs k ++ ⟨#[48]⟩ from rfl)
        generalize zs k = z at *
        go_wp2
        go_round
        case rel => exact ⟨k + 1, by omega, by go_num, by rw [Z.out]⟩
        case measure => simp [intOf]; omega
      · obtain rfl : k = K := by omega
        have hz := zs_size k
        generalize zs k = z at *
        go_wp2_with (go_at_call 17; (with_reducible refine (C7.out _).mono ?_); rintro e w' ⟨rfl, rfl⟩)
        go_ret
        exact ⟨rfl, HB⟩
end Go.Proofs.Ytcbfognflngbaaa.Num
