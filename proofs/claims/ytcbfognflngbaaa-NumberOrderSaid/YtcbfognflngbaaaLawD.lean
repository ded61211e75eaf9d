/- Walk of the law NumberOrder. -/
import Derived.Test.YtcbfognflngbaaaLawA
import Derived.Test.YtcbfognflngbaaaNumQ
set_option linter.unusedVariables false
namespace Go.Proofs.Ytcbfognflngbaaa.Num
open Go.RowKit
/-- The first test: sums of a greater int are greater. -/
def Sums (a b c : Int) (n m : Int) (e f : ByteArray) : Prop := (n, e) = chk (a + c) ∧ (m, f) = chk (b + c)

set_option maxHeartbeats 8000000 in
theorem law_order (a b c : Int) (wa : (Lit.int .i64 a).wf = true) (wb : (Lit.int .i64 b).wf = true) (wc : (Lit.int .i64 c).wf = true) (w : World) :
    Calls Try.prog 12 #[.int .i64 a, .int .i64 b, .int .i64 c] w fun e w' => e = .returned (.bool true) ∧ Below w.heap.size w w' := by
  have ha := fits_wf wa; have hb := fits_wf wb; have hc := fits_wf wc
  have HB := Bl.refl w
  have c1 := fun w => do_add a c w ha hc
  have c2 := fun w => do_add b c w hb hc
  have c3 := fun w => do_sub a b w ha hb
  have c4 := fun w => text_any a w ha
  have c5 := fun w => text_any b w hb
  have t1 : 0 ≤ a → a ≤ b → (str (textL a)).size ≤ (str (textL b)).size := fun h1 h2 => by rw [str_size, str_size]; exact text_mono h1 h2
  have t2 : 0 ≤ a → a ≤ b → ¬ (str (textL a)).size < (str (textL b)).size → (Op.bytesLess (str (textL a)).toList (str (textL b)).toList || (str (textL a)).toList == (str (textL b)).toList) = true :=
    fun h1 h2 h3 => by rw [str_size, str_size] at h3; rw [str_toList, str_toList]; exact text_le h1 h2 h3
  generalize str (textL a) = S at *
  generalize str (textL b) = T at *
  have hlt : decide (a < b) = true ∨ decide (a < b) = false := by cases decide (a < b) <;> simp
  obtain ⟨x1, x2⟩ := ha
  obtain ⟨y1, y2⟩ := hb
  clear wa wb wc hc
  -- what the two sums come to
  obtain ⟨n1, e1, h1, k1⟩ : ∃ n e, chk (a + c) = (n, e) ∧ (e = eNone ∧ n = a + c ∨ e = eOver) := by
    by_cases h : Fits (a + c)
    · exact ⟨_, _, chk_ok h, .inl ⟨rfl, rfl⟩⟩
    · exact ⟨_, _, chk_no h, .inr rfl⟩
  obtain ⟨n2, e2, h2, k2⟩ : ∃ n e, chk (b + c) = (n, e) ∧ (e = eNone ∧ n = b + c ∨ e = eOver) := by
    by_cases h : Fits (b + c)
    · exact ⟨_, _, chk_ok h, .inl ⟨rfl, rfl⟩⟩
    · exact ⟨_, _, chk_no h, .inr rfl⟩
  obtain ⟨n3, e3, h3, k3⟩ : ∃ n e, chk (a - b) = (n, e) ∧ (e = eNone ∧ n = a - b ∨ e = eOver) := by
    by_cases h : Fits (a - b)
    · exact ⟨_, _, chk_ok h, .inl ⟨rfl, rfl⟩⟩
    · exact ⟨_, _, chk_no h, .inr rfl⟩
  rw [h1] at c1; rw [h2] at c2; rw [h3] at c3
  clear h1 h2 h3 hlt
  -- the tests in the walk's own spelling
  have q1 : e1 = eNone → e2 = eNone → (decide (n1 < n2) == decide (a < b)) = true := by
    intro g1 g2
    have : n1 = a + c := by rcases k1 with ⟨_, h⟩ | h; exact h; rw [h] at g1; exact absurd g1 (by decide)
    have : n2 = b + c := by rcases k2 with ⟨_, h⟩ | h; exact h; rw [h] at g2; exact absurd g2 (by decide)
    by_cases h : a < b
    · have h' : n1 < n2 := by omega
      simp [h, h']
    · have h' : ¬ n1 < n2 := by omega
      simp [h, h']
  have q2 : e3 = eNone → (decide (n3 < 0) == decide (a < b)) = true ∧ ((n3 == 0) == (a == b)) = true := by
    intro g
    have hn : n3 = a - b := by rcases k3 with ⟨_, h⟩ | h; exact h; rw [h] at g; exact absurd g (by decide)
    constructor
    · by_cases h : a < b
      · have h' : n3 < 0 := by omega
        simp [h, h']
      · have h' : ¬ n3 < 0 := by omega
        simp [h, h']
    · by_cases h : a = b
      · rw [eq_t h, eq_t (show n3 = 0 by omega)]; rfl
      · rw [eq_f h, eq_f (show n3 ≠ 0 by omega)]; rfl
  have k1' : e1 = eNone ∨ e1 = eOver := k1.imp (·.1) id
  have k2' : e2 = eNone ∨ e2 = eOver := k2.imp (·.1) id
  have k3' : e3 = eNone ∨ e3 = eOver := k3.imp (·.1) id
  clear k1 k2 k3
  rcases k1' with rfl | rfl <;> rcases k2' with rfl | rfl <;> rcases k3' with rfl | rfl
  all_goals (try (have q1a := q1 rfl rfl))
  all_goals (try (obtain ⟨q2a, q2b⟩ := q2 rfl))
  all_goals clear q1 q2
  all_goals by_cases g1 : a < 0
  all_goals (first | have g1' : decide (a < 0) = true := decide_eq_true g1 | have g1' : decide (a < 0) = false := decide_eq_false g1)
  all_goals by_cases g2 : b < a
  all_goals (first | have g2' : decide (b < a) = true := decide_eq_true g2 | have g2' : decide (b < a) = false := decide_eq_false g2)
  all_goals (first | have u1 := t1 (by omega) (by omega) | skip)
  all_goals by_cases g3 : S.size < T.size
  all_goals (first | have u2 := t2 (by omega) (by omega) g3 | skip)
  all_goals
    clear t1 t2
    go_enter Try.func12, Try.ntmps12
    go_wp2_with (first
      | (go_at_call 14; (with_reducible refine (shown_any _).mono ?_); rintro e w' ⟨rfl, hb⟩; replace HB := HB.trans hb; clear hb)
      | (go_at_call 15; first | (with_reducible refine (c1 _).mono ?_) | (with_reducible refine (c2 _).mono ?_) | (with_reducible refine (c3 _).mono ?_)
         rintro e w' ⟨rfl, hb⟩; replace HB := HB.trans hb; clear hb)
      | (go_at_call 19; first | (with_reducible refine (c4 _).mono ?_) | (with_reducible refine (c5 _).mono ?_)
         rintro e w' ⟨rfl, hb⟩; replace HB := HB.trans hb; clear hb))
    go_ret
    exact ⟨rfl, HB⟩
end Go.Proofs.Ytcbfognflngbaaa.Num
