/- Plain laws on texts of ints: no walk. -/
import Derived.Test.YtcbfognflngbaaaNumF
import Derived.Test.YtcbfognflngbaaaNumG
set_option linter.unusedVariables false
namespace Go.Proofs.Ytcbfognflngbaaa.Num
open Go.RowKit
/-- The digits of a number. -/
def D (n : Nat) : List UInt8 := dg (n / 10) [dch n]
theorem dg_app (M : Nat) : ∀ l r : List UInt8, dg M (l ++ r) = dg M l ++ r := by
  induction M using Nat.strongRecOn with
  | _ M ih =>
    intro l r
    rcases Nat.eq_zero_or_pos M with h | h
    · subst h; rw [dg_zero, dg_zero]
    · rw [dg_pos h, dg_pos h, ← ih (M / 10) (by omega), List.cons_append]
theorem D_small {n : Nat} (h : n < 10) : D n = [dch n] := by
  unfold D
  rw [show n / 10 = 0 by omega, dg_zero]
theorem D_step {n : Nat} (h : 10 ≤ n) : D n = D (n / 10) ++ [dch n] := by
  unfold D
  have e := dg_app (n / 10) [] [dch n]
  rw [List.nil_append] at e
  rw [e, dg_pos (by omega)]
theorem D_len_pos (n : Nat) : 0 < (D n).length := by
  rcases Nat.lt_or_ge n 10 with h | h
  · rw [D_small h]; simp
  · rw [D_step h]; simp
theorem D_len_mono : ∀ b a : Nat, a ≤ b → (D a).length ≤ (D b).length := by
  intro b
  induction b using Nat.strongRecOn with
  | _ b ih =>
    intro a h
    rcases Nat.lt_or_ge a 10 with h1 | h1
    · rw [D_small h1]; have := D_len_pos b; simp; omega
    · rw [D_step h1, D_step (show 10 ≤ b by omega)]
      have := ih (b / 10) (by omega) (a / 10) (by omega)
      simp; omega
theorem dch_nat (m : Nat) : (dch m).toNat = 48 + m % 10 := by
  have := dch_int m; omega
theorem less_app : ∀ (p q : List UInt8) (x y : UInt8), p.length = q.length → (Op.bytesLess p q = true ∨ (p = q ∧ x < y)) → Op.bytesLess (p ++ [x]) (q ++ [y]) = true
  | [], [], x, y, _, h => by
    rcases h with h | ⟨_, h⟩
    · simp [Op.bytesLess] at h
    · simp [Op.bytesLess, h]
  | [], _ :: _, _, _, hl, _ => by simp at hl
  | _ :: _, [], _, _, hl, _ => by simp at hl
  | a :: p, b :: q, x, y, hl, h => by
    have ih := less_app p q x y (by simpa using hl)
    rcases h with h | ⟨h, hxy⟩
    · simp only [Op.bytesLess, Bool.or_eq_true, Bool.and_eq_true] at h
      rcases h with h | ⟨h1, h2⟩
      · simp only [List.cons_append, Op.bytesLess, Bool.or_eq_true]; exact .inl h
      · simp only [List.cons_append, Op.bytesLess, Bool.or_eq_true, Bool.and_eq_true]
        exact .inr ⟨h1, ih (.inl h2)⟩
    · injection h with h1 h2
      simp only [List.cons_append, Op.bytesLess, Bool.or_eq_true, Bool.and_eq_true]
      exact .inr ⟨by simp [h1], ih (.inr ⟨h2, hxy⟩)⟩
theorem D_less : ∀ b a : Nat, a < b → (D a).length = (D b).length → Op.bytesLess (D a) (D b) = true := by
  intro b
  induction b using Nat.strongRecOn with
  | _ b ih =>
    intro a h hl
    rcases Nat.lt_or_ge a 10 with h1 | h1
    · rcases Nat.lt_or_ge b 10 with h2 | h2
      · rw [D_small h1, D_small h2]
        have h3 : dch a < dch b := by rw [UInt8.lt_iff_toNat_lt, dch_nat, dch_nat]; omega
        simp [Op.bytesLess, h3]
      · rw [D_small h1, D_step h2] at hl
        have := D_len_pos (b / 10)
        rw [List.length_append] at hl; simp only [List.length_cons, List.length_nil] at hl; omega
    · have h2 : 10 ≤ b := by omega
      rw [D_step h1, D_step h2] at hl ⊢
      have hl' : (D (a / 10)).length = (D (b / 10)).length := by simpa using hl
      refine less_app _ _ _ _ hl' ?_
      rcases Nat.lt_or_ge (a / 10) (b / 10) with h3 | h3
      · exact .inl (ih (b / 10) (by omega) (a / 10) h3 hl')
      · have h4 : a / 10 = b / 10 := by omega
        refine .inr ⟨by rw [h4], ?_⟩
        rw [UInt8.lt_iff_toNat_lt, dch_nat, dch_nat]; omega

/-! reading -/
theorem pgo_app : ∀ (l r : List UInt8) (m : Nat), pgo (l ++ r) m = (pgo l m).bind (pgo r)
  | [], r, m => rfl
  | c :: l, r, m => by
    by_cases h : c.toNat < 48 ∨ 57 < c.toNat ∨ 922337203685477580 < m
    · rw [List.cons_append, pgo_stop h, pgo_stop h]; rfl
    · rw [List.cons_append, pgo_step h, pgo_step h, pgo_app]
theorem pgo_D : ∀ n : Nat, n ≤ 9223372036854775808 → pgo (D n) 0 = some n := by
  intro n
  induction n using Nat.strongRecOn with
  | _ n ih =>
    intro hn
    have hd := dch_nat n
    rcases Nat.lt_or_ge n 10 with h | h
    · rw [D_small h, pgo_step (by omega), pgo, hd]; congr 1; omega
    · rw [D_step h, pgo_app, ih (n / 10) (by omega) (by omega), Option.bind_some, pgo_step (by omega), pgo, hd]; congr 1; omega
theorem pgo_noughts (k : Nat) (l : List UInt8) : pgo (List.replicate k 48 ++ l) 0 = pgo l 0 := by
  induction k with
  | zero => rfl
  | succ k ih => rw [List.replicate_succ, List.cons_append, pgo_step (by decide)]; exact ih
theorem textL_pos {n : Int} (h : 0 ≤ n) : textL n = D n.natAbs := by unfold textL D; rw [if_neg (by omega)]
theorem textL_neg {n : Int} (h : n < 0) : textL n = 45 :: D n.natAbs := by unfold textL D; rw [if_pos h]
theorem pend_pos {n : Int} (hn : Fits n) (h : 0 ≤ n) (k : Nat) : pend (List.replicate k 48 ++ D n.natAbs) false = (n, true) := by
  have h1 := pgo_D n.natAbs (by unfold Fits at hn; omega)
  rw [← pgo_noughts k] at h1
  have h2 : sgn n.natAbs false = n := by unfold sgn; simp; omega
  have h3 := D_len_pos n.natAbs
  have h4 : 0 < (List.replicate k 48 ++ D n.natAbs).length := by simp; omega
  rw [pend_some h1, h2, chk_ok hn, decide_eq_true h4]
  rfl
theorem pend_neg {n : Int} (hn : Fits n) (h : n < 0) (k : Nat) : pend (List.replicate k 48 ++ D n.natAbs) true = (n, true) := by
  have h1 := pgo_D n.natAbs (by unfold Fits at hn; omega)
  rw [← pgo_noughts k] at h1
  have h2 : sgn n.natAbs true = n := by unfold sgn; simp; omega
  have h3 := D_len_pos n.natAbs
  have h4 : 0 < (List.replicate k 48 ++ D n.natAbs).length := by simp; omega
  rw [pend_some h1, h2, chk_ok hn, decide_eq_true h4]
  rfl
theorem D_head (n : Nat) : ∃ c l, D n = c :: l ∧ c ≠ 45 := by
  induction n using Nat.strongRecOn with
  | _ n ih =>
    rcases Nat.lt_or_ge n 10 with h | h
    · refine ⟨dch n, [], D_small h, fun e => ?_⟩
      have := dch_nat n; rw [e] at this; have e2 : (45 : UInt8).toNat = 45 := rfl; omega
    · obtain ⟨c, l, e, hc⟩ := ih (n / 10) (by omega)
      exact ⟨c, l ++ [dch n], by rw [D_step h, e, List.cons_append], hc⟩
theorem parse_pos {n : Int} (hn : Fits n) (h : 0 ≤ n) (k : Nat) : parseS (List.replicate k 48 ++ textL n) = (n, true) := by
  rw [textL_pos h]
  have hp := pend_pos hn h k
  cases k with
  | zero =>
    obtain ⟨c, l, e, hc⟩ := D_head n.natAbs
    rw [List.replicate_zero, List.nil_append] at hp ⊢
    rw [e] at hp ⊢
    rw [parseS_plain hc]; exact hp
  | succ k =>
    rw [List.replicate_succ, List.cons_append] at hp ⊢
    rw [parseS_plain (by decide)]; exact hp
theorem parse_neg {n : Int} (hn : Fits n) (h : n < 0) (k : Nat) : parseS (45 :: (List.replicate k 48 ++ (textL n).tail)) = (n, true) := by
  rw [textL_neg h, List.tail_cons, parseS_below]
  exact pend_neg hn h k
theorem parse_text {n : Int} (hn : Fits n) : parseS (textL n) = (n, true) := by
  by_cases h : n < 0
  · have := parse_neg hn h 0
    rw [textL_neg h] at this ⊢
    exact this
  · exact parse_pos hn (by omega) 0
theorem text_inj {a b : Int} (ha : Fits a) (hb : Fits b) (h : textL a = textL b) : a = b := by
  have h1 := parse_text ha
  rw [h, parse_text hb] at h1
  exact (congrArg Prod.fst h1).symm
theorem text_pos_len (n : Int) : 0 < (textL n).length := by
  by_cases h : n < 0
  · rw [textL_neg h]; simp
  · rw [textL_pos (by omega)]; exact D_len_pos _

/-! as byte arrays -/
theorem str_size (l : List UInt8) : (str l).size = l.length := by simp [str, ByteArray.size]
theorem str_data (l : List UInt8) : (str l).data.toList = l := by simp [str]
theorem toList_data (s : ByteArray) : s.toList = s.data.toList := ByteArray.toList_eq s
theorem str_toList (l : List UInt8) : (str l).toList = l := by rw [toList_data, str_data]
theorem text_mono {a b : Int} (h0 : 0 ≤ a) (h : a ≤ b) : (textL a).length ≤ (textL b).length := by
  rw [textL_pos h0, textL_pos (by omega)]
  exact D_len_mono _ _ (by omega)
theorem text_le {a b : Int} (h0 : 0 ≤ a) (h : a ≤ b) (hl : ¬ (textL a).length < (textL b).length) : (Op.bytesLess (textL a) (textL b) || textL a == textL b) = true := by
  have hm := text_mono h0 h
  rcases Int.lt_or_le a b with h1 | h1
  · rw [textL_pos h0, textL_pos (by omega)] at *
    rw [D_less _ _ (by omega) (by omega)]; rfl
  · have : a = b := by omega
    subst this
    simp
end Go.Proofs.Ytcbfognflngbaaa.Num
