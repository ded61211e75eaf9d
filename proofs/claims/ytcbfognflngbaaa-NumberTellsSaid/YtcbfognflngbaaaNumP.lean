/- Plain laws on ints for the package number: no program in sight. -/
namespace Go.Proofs.Ytcbfognflngbaaa.Num
abbrev eNone : ByteArray := ⟨#[]⟩
abbrev eOver : ByteArray := ⟨#[79, 118, 101, 114, 102, 108, 111, 119, 69, 114, 114, 111, 114]⟩
abbrev eZero : ByteArray := ⟨#[90, 101, 114, 111, 68, 105, 118, 105, 115, 105, 111, 110, 69, 114, 114, 111, 114]⟩
abbrev eValue : ByteArray := ⟨#[86, 97, 108, 117, 101, 69, 114, 114, 111, 114]⟩
abbrev eType : ByteArray := ⟨#[84, 121, 112, 101, 69, 114, 114, 111, 114]⟩

def Fits (n : Int) : Prop := -9223372036854775808 ≤ n ∧ n ≤ 9223372036854775807
instance (n : Int) : Decidable (Fits n) := by unfold Fits; exact inferInstance
def chk (n : Int) : Int × ByteArray := if Fits n then (n, eNone) else (0, eOver)
theorem chk_ok {n : Int} (h : Fits n) : chk n = (n, eNone) := if_pos h
theorem chk_no {n : Int} (h : ¬ Fits n) : chk n = (0, eOver) := if_neg h
theorem fits_of {n : Int} (h1 : -9223372036854775808 ≤ n) (h2 : n ≤ 9223372036854775807) : Fits n := ⟨h1, h2⟩
theorem not_fits {n : Int} (h : ¬ Fits n) : n < -9223372036854775808 ∨ 9223372036854775807 < n := by unfold Fits at h; omega

/-! quotient and what is left, rounded down -/
theorem floor_pos {a b q r : Int} (hb : 0 < b) (h : r + b * q = a) (h0 : 0 ≤ r) (h1 : r < b) : a.fdiv b = q ∧ a.fmod b = r :=
  (Int.fdiv_fmod_unique hb).2 ⟨h, h0, h1⟩
theorem floor_neg {a b q r : Int} (hb : b < 0) (h : r + b * q = a) (h0 : r ≤ 0) (h1 : b < r) : a.fdiv b = q ∧ a.fmod b = r := by
  have h' : -r + -b * q = -a := by rw [Int.neg_mul]; omega
  have := floor_pos (a := -a) (b := -b) (q := q) (r := -r) (by omega) h' (by omega) (by omega)
  rw [Int.neg_fdiv_neg, Int.neg_fmod_neg] at this
  exact ⟨this.1, by omega⟩
theorem fmod_lt (a : Int) {b : Int} (hb : 0 < b) : 0 ≤ a.fmod b ∧ a.fmod b < b := ⟨Int.fmod_nonneg_of_pos a hb, Int.fmod_lt_of_pos a hb⟩
theorem fmod_gt (a : Int) {b : Int} (hb : b < 0) : b < a.fmod b ∧ a.fmod b ≤ 0 := by
  have := fmod_lt (-a) (b := -b) (by omega)
  rw [Int.neg_fmod_neg] at this
  omega
theorem parts_back (a b : Int) : a.fdiv b * b + a.fmod b = a := by
  have := Int.mul_fdiv_add_fmod a b
  rw [Int.mul_comm] at this
  exact this

theorem tmod_bd (a b : Int) (hb : b ≠ 0) : (0 ≤ a → 0 ≤ a.tmod b) ∧ (a ≤ 0 → a.tmod b ≤ 0) ∧ (a.tmod b).natAbs < b.natAbs := by
  refine ⟨fun h => Int.tmod_nonneg b h, fun h => ?_, ?_⟩
  · have := Int.tmod_nonneg b (a := -a) (by omega)
    rw [Int.neg_tmod] at this
    omega
  · rw [Int.natAbs_tmod]
    exact Nat.mod_lt _ (by omega)
theorem tdiv_bd (a b : Int) : (a.tdiv b).natAbs ≤ a.natAbs := Int.natAbs_tdiv_le_natAbs a b
/-- The code's two ways: nothing is left, or what is left has the second one's sign; else one less. -/
theorem parts_same {a b : Int} (hb : b ≠ 0) (h : a.tmod b = 0 ∨ (a.tmod b < 0 ↔ b < 0)) : a.fdiv b = a.tdiv b ∧ a.fmod b = a.tmod b := by
  have hm := tmod_bd a b hb
  have he := Int.mul_tdiv_add_tmod a b
  rcases Int.lt_or_gt_of_ne hb with h1 | h1
  · exact floor_neg h1 (by omega) (by omega) (by omega)
  · exact floor_pos h1 (by omega) (by omega) (by omega)
theorem parts_less {a b : Int} (hb : b ≠ 0) (h0 : a.tmod b ≠ 0) (h : ¬ (a.tmod b < 0 ↔ b < 0)) : a.fdiv b = a.tdiv b - 1 ∧ a.fmod b = a.tmod b + b := by
  have hm := tmod_bd a b hb
  have he := Int.mul_tdiv_add_tmod a b
  have hx : b * (a.tdiv b - 1) = b * a.tdiv b - b := by rw [Int.mul_sub, Int.mul_one]
  rcases Int.lt_or_gt_of_ne hb with h1 | h1
  · exact floor_neg h1 (by omega) (by omega) (by omega)
  · exact floor_pos h1 (by omega) (by omega) (by omega)
theorem fdiv_m1 (a : Int) : a.fdiv (-1) = -a ∧ a.fmod (-1) = 0 := floor_neg (by omega) (by omega) (by omega) (by omega)
/-- The quotient fits, but of the least int by -1. -/
theorem fdiv_fits {a b : Int} (ha : Fits a) (hb : b ≠ 0) (h : ¬ (a = -9223372036854775808 ∧ b = -1)) : Fits (a.fdiv b) := by
  unfold Fits at *
  by_cases h1 : b = -1
  · subst h1; rw [(fdiv_m1 a).1]; omega
  · have hd := tdiv_bd a b
    by_cases hs : a.tmod b = 0 ∨ (a.tmod b < 0 ↔ b < 0)
    · rw [(parts_same hb hs).1]
      by_cases hz : a = -9223372036854775808 ∧ 0 < a.tdiv b
      · have he := Int.mul_tdiv_add_tmod a b
        have hm := tmod_bd a b hb
        have : a.tdiv b ≤ 9223372036854775807 := by
          rcases Int.lt_or_le 9223372036854775807 (a.tdiv b) with h9 | h9
          · exfalso
            have h10 : a.tdiv b = 9223372036854775808 := by omega
            rw [h10] at he
            omega
          · exact h9
        omega
      · omega
    · have h2 : a.tmod b ≠ 0 := by omega
      have h3 : ¬ (a.tmod b < 0 ↔ b < 0) := by omega
      rw [(parts_less hb h2 h3).1]
      have he := Int.mul_tdiv_add_tmod a b
      have hm := tmod_bd a b hb
      rcases Int.lt_or_le (a.tdiv b) (-9223372036854775807) with h9 | h9
      · exfalso
        have h10 : a.tdiv b = -9223372036854775808 := by omega
        rw [h10] at he
        omega
      · omega

/-! products -/
theorem prod_abs (a b : Int) : (a * b).natAbs = a.natAbs * b.natAbs := Int.natAbs_mul a b
theorem prod_below (a b : Int) : (a * b < 0) ↔ ((a < 0) ≠ (b < 0) ∧ a * b ≠ 0) := by
  rcases Int.lt_trichotomy a 0 with h | h | h <;> rcases Int.lt_trichotomy b 0 with g | g | g
  · have := Int.mul_pos_of_neg_of_neg h g; simp [h, g]; omega
  · subst g; simp
  · have := Int.mul_neg_of_neg_of_pos h g; have hg : ¬ b < 0 := by omega
    simp [h, hg]; omega
  · subst h; simp
  · subst h; simp
  · subst h; simp
  · have := Int.mul_neg_of_pos_of_neg h g; have hg : ¬ a < 0 := by omega
    simp [hg, g]; omega
  · subst g; simp
  · have := Int.mul_pos h g
    have hg : ¬ a < 0 := by omega
    have hh : ¬ b < 0 := by omega
    simp [hg, hh]; omega

/-! powers -/
theorem pow_small (a : Int) (h : a = 0 ∨ a = 1 ∨ a = -1) (b c : Nat) (hz : b = 0 ↔ c = 0) (hp : b % 2 = c % 2) : a ^ b = a ^ c := by
  rcases h with rfl | rfl | rfl
  · cases b with
    | zero => rw [hz.1 rfl]
    | succ b => cases c with
      | zero => exact absurd (hz.2 rfl) (by omega)
      | succ c => rw [Int.pow_succ, Int.pow_succ]; simp
  · rw [Int.one_pow, Int.one_pow]
  · have key : ∀ n : Nat, (-1 : Int) ^ n = if n % 2 = 0 then 1 else -1 := by
      intro n
      induction n with
      | zero => rfl
      | succ n ih => rw [Int.pow_succ, ih]; by_cases h : n % 2 = 0 <;> simp [h] <;> omega
    rw [key, key, hp]
theorem pow_small_fits (a : Int) (h : a = 0 ∨ a = 1 ∨ a = -1) (b : Nat) : a ^ b = 0 ∨ a ^ b = 1 ∨ a ^ b = -1 := by
  induction b with
  | zero => exact .inr (.inl (Int.pow_zero a))
  | succ b ih =>
    rw [Int.pow_succ]
    rcases h with rfl | rfl | rfl
    · simp
    · simpa using ih
    · rcases ih with h | h | h <;> rw [h] <;> simp
theorem pow_grows (a : Int) (ha : 2 ≤ a.natAbs) (b c : Nat) (h : b ≤ c) : (a ^ b).natAbs ≤ (a ^ c).natAbs := by
  rw [Int.natAbs_pow, Int.natAbs_pow]
  exact Nat.pow_le_pow_right (by omega) h
/-- Beyond a power that does not fit none fits. -/
theorem pow_no {a : Int} {b c : Nat} (h : ¬ Fits (a ^ b)) (hle : b ≤ c) : ¬ Fits (a ^ c) := by
  have ha : 2 ≤ a.natAbs := by
    rcases Nat.lt_or_ge a.natAbs 2 with h2 | h2
    · exfalso
      have := pow_small_fits a (by omega) b
      unfold Fits at h
      omega
    · exact h2
  rcases Nat.lt_or_ge b c with hlt | hge
  · have h1 := pow_grows a ha (b + 1) c (by omega)
    have h2 : (a ^ (b + 1)).natAbs = (a ^ b).natAbs * a.natAbs := by rw [Int.pow_succ, Int.natAbs_mul]
    have h3 : (a ^ b).natAbs * 2 ≤ (a ^ b).natAbs * a.natAbs := Nat.mul_le_mul_left _ ha
    unfold Fits at *
    omega
  · have : b = c := by omega
    subst this; exact h
theorem pow_far {a : Int} (ha : 2 ≤ a.natAbs) {b : Nat} (hb : 64 ≤ b) : ¬ Fits (a ^ b) := by
  have h1 := pow_grows a ha 64 b hb
  have h2 : (a ^ 64).natAbs = a.natAbs ^ 64 := Int.natAbs_pow a 64
  have h3 : 2 ^ 64 ≤ a.natAbs ^ 64 := Nat.pow_le_pow_left ha 64
  have h4 : (2 : Nat) ^ 64 = 18446744073709551616 := by decide
  unfold Fits
  omega
end Go.Proofs.Ytcbfognflngbaaa.Num
