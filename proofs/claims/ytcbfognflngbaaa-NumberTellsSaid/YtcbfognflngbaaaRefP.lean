/- Plain laws on rows of digits to base 65536, the lowest one first: no program in sight. -/
set_option linter.unusedVariables false
namespace Go.Proofs.Ytcbfognflngbaaa.Num
def val : List Nat → Nat
  | [] => 0
  | d :: r => d + 65536 * val r
def Dig (l : List Nat) : Prop := ∀ d ∈ l, d < 65536
def Norm (l : List Nat) : Prop := ∀ d r, l = r ++ [d] → d ≠ 0
theorem Dig.nil : Dig [] := by intro d h; cases h
theorem Dig.cons {d : Nat} {l : List Nat} (h : d < 65536) (hl : Dig l) : Dig (d :: l) := by
  intro x hx
  rcases List.mem_cons.1 hx with rfl | hx
  · exact h
  · exact hl x hx
theorem Dig.app {l r : List Nat} (hl : Dig l) (hr : Dig r) : Dig (l ++ r) := by
  intro x hx
  rcases List.mem_append.1 hx with h | h
  · exact hl x h
  · exact hr x h
theorem Dig.snoc {l : List Nat} {d : Nat} (hl : Dig l) (h : d < 65536) : Dig (l ++ [d]) := hl.app (Dig.cons h Dig.nil)
theorem Dig.take {l : List Nat} (hl : Dig l) (k : Nat) : Dig (l.take k) := fun x hx => hl x (List.mem_of_mem_take hx)
theorem Dig.getD {l : List Nat} (hl : Dig l) (k : Nat) : l.getD k 0 < 65536 := by
  rcases Nat.lt_or_ge k l.length with h | h
  · rw [List.getD_eq_getElem?_getD, List.getElem?_eq_getElem h]; exact hl _ (List.getElem_mem h)
  · rw [List.getD_eq_getElem?_getD, List.getElem?_eq_none h]; decide
theorem val_app (l r : List Nat) : val (l ++ r) = val l + 65536 ^ l.length * val r := by
  induction l with
  | nil => simp [val]
  | cons d l ih =>
    rw [List.cons_append, val, val, ih, List.length_cons, Nat.pow_succ, Nat.mul_add, ← Nat.mul_assoc, Nat.mul_comm 65536 (65536 ^ l.length)]
    omega
theorem val_snoc (l : List Nat) (d : Nat) : val (l ++ [d]) = val l + 65536 ^ l.length * d := by rw [val_app]; simp [val]
theorem val_lt {l : List Nat} (h : Dig l) : val l < 65536 ^ l.length := by
  induction l with
  | nil => simp [val]
  | cons d l ih =>
    have h1 := h d (List.mem_cons_self ..)
    have h2 := ih (fun x hx => h x (List.mem_cons_of_mem _ hx))
    rw [val, List.length_cons, Nat.pow_succ]
    omega
theorem val_take_zero {l : List Nat} {k : Nat} (h : k < l.length) (h0 : l.getD k 0 = 0) (hv : val (l.take (k + 1)) = val l) : val (l.take k) = val l := by
  rw [← hv, List.take_succ_eq_append_getElem h, val_snoc]
  have : l[k] = 0 := by rw [← h0, List.getD_eq_getElem?_getD, List.getElem?_eq_getElem h]; rfl
  rw [this]; omega
theorem norm_take {l : List Nat} {k : Nat} (h : k < l.length) (h0 : l.getD k 0 ≠ 0) : Norm (l.take (k + 1)) := by
  intro d r e
  rw [List.take_succ_eq_append_getElem h] at e
  have := List.append_inj_right' e rfl
  injection this with h1 _
  rw [← h1]
  rw [List.getD_eq_getElem?_getD, List.getElem?_eq_getElem h] at h0
  exact h0
theorem norm_nil : Norm [] := by intro d r e; cases r <;> cases e
theorem norm_big {l : List Nat} (hn : Norm l) {k : Nat} (hk : l.length = k + 1) : 65536 ^ k ≤ val l := by
  have hne : l ≠ [] := by intro e; rw [e] at hk; cases hk
  obtain ⟨r, d, e⟩ : ∃ r d, l = r ++ [d] := ⟨l.dropLast, l.getLast hne, (List.dropLast_concat_getLast hne).symm⟩
  have hd := hn d r e
  subst e
  rw [val_snoc]
  have hr : r.length = k := by simpa using hk
  rw [hr]
  have : 65536 ^ k * 1 ≤ 65536 ^ k * d := Nat.mul_le_mul_left _ (by omega)
  omega
/-- How many digits a number has. -/
theorem norm_len {l : List Nat} (hn : Norm l) {k : Nat} (hv : val l < 65536 ^ k) : l.length ≤ k := by
  rcases Nat.lt_or_ge k l.length with h | h
  · exfalso
    obtain ⟨m, hm⟩ : ∃ m, l.length = m + 1 := ⟨l.length - 1, by omega⟩
    have h1 := norm_big hn hm
    have h2 : 65536 ^ k ≤ 65536 ^ m := Nat.pow_le_pow_right (by decide) (by omega)
    omega
  · exact h
theorem norm_zero {l : List Nat} (hn : Norm l) : l = [] ↔ val l = 0 := by
  constructor
  · intro h; rw [h]; rfl
  · intro h
    have := norm_len hn (k := 0) (by rw [h]; decide)
    exact List.length_eq_zero_iff.1 (by omega)

/-! place by place -/
theorem val_take_succ (l : List Nat) (k : Nat) : val (l.take (k + 1)) = val (l.take k) + 65536 ^ k * l.getD k 0 := by
  rcases Nat.lt_or_ge k l.length with h | h
  · rw [List.take_succ_eq_append_getElem h, val_snoc, List.length_take, List.getD_eq_getElem?_getD, List.getElem?_eq_getElem h, Nat.min_eq_left (by omega)]; rfl
  · rw [List.take_of_length_le (by omega), List.take_of_length_le h, List.getD_eq_getElem?_getD, List.getElem?_eq_none h]; simp
theorem val_drop (l : List Nat) (k : Nat) : val (l.drop k) = l.getD k 0 + 65536 * val (l.drop (k + 1)) := by
  rcases Nat.lt_or_ge k l.length with h | h
  · rw [List.drop_eq_getElem_cons h, val, List.getD_eq_getElem?_getD, List.getElem?_eq_getElem h]; rfl
  · rw [List.drop_eq_nil_of_le h, List.drop_eq_nil_of_le (by omega), List.getD_eq_getElem?_getD, List.getElem?_eq_none h]; rfl
theorem val_parts (l : List Nat) (k : Nat) : val l = val (l.take k) + 65536 ^ k * val (l.drop k) := by
  rcases Nat.lt_or_ge k l.length with h | h
  · conv => lhs; rw [← List.take_append_drop k l]
    rw [val_app, List.length_take, Nat.min_eq_left (by omega)]
  · rw [List.take_of_length_le h, List.drop_eq_nil_of_le h]; simp [val]
/-- compare: the highest place at which they part decides. -/
theorem cmp_lt {a b : List Nat} (ha : Dig a) (hb : Dig b) {k : Nat} (hd : val (a.drop (k + 1)) = val (b.drop (k + 1))) (h : a.getD k 0 < b.getD k 0) : val a < val b := by
  rw [val_parts a k, val_parts b k, val_drop a k, val_drop b k, hd]
  have h1 : val (a.take k) < 65536 ^ k := Nat.lt_of_lt_of_le (val_lt (ha.take k)) (Nat.pow_le_pow_right (by decide) (by simp; omega))
  have h2 : 65536 ^ k * (a.getD k 0 + 65536 * val (b.drop (k + 1))) + 65536 ^ k ≤ 65536 ^ k * (b.getD k 0 + 65536 * val (b.drop (k + 1))) := by
    rw [← Nat.mul_succ]; exact Nat.mul_le_mul_left _ (by omega)
  omega
theorem cmp_step {a b : List Nat} {k : Nat} (hd : val (a.drop (k + 1)) = val (b.drop (k + 1))) (h : a.getD k 0 = b.getD k 0) : val (a.drop k) = val (b.drop k) := by
  rw [val_drop a k, val_drop b k, hd, h]
theorem cmp_start (a b : List Nat) (n : Nat) (h1 : a.length ≤ n) (h2 : b.length ≤ n) : val (a.drop n) = val (b.drop n) := by
  rw [List.drop_eq_nil_of_le h1, List.drop_eq_nil_of_le h2]
/-- plus, a place more. -/
theorem plus_step {a b o : List Nat} {k c : Nat} (hk : o.length = k) (h : val o + 65536 ^ k * c = val (a.take k) + val (b.take k)) :
    val (o ++ [(a.getD k 0 + b.getD k 0 + c) % 65536]) + 65536 ^ (k + 1) * ((a.getD k 0 + b.getD k 0 + c) / 65536) = val (a.take (k + 1)) + val (b.take (k + 1)) := by
  rw [val_snoc, val_take_succ, val_take_succ, hk, Nat.pow_succ, Nat.mul_assoc]
  have e := Nat.div_add_mod (a.getD k 0 + b.getD k 0 + c) 65536
  have e2 : 65536 ^ k * ((a.getD k 0 + b.getD k 0 + c) % 65536) + 65536 ^ k * (65536 * ((a.getD k 0 + b.getD k 0 + c) / 65536)) = 65536 ^ k * (a.getD k 0 + b.getD k 0 + c) := by
    rw [← Nat.mul_add]; congr 1; omega
  rw [Nat.mul_add, Nat.mul_add] at e2
  omega
/-- less, a place more: t is what was lent. -/
theorem less_step0 {a b o : List Nat} {k t : Nat} (hk : o.length = k) (h : val o + val (b.take k) = val (a.take k) + 65536 ^ k * t) (hx : b.getD k 0 + t ≤ a.getD k 0) :
    val (o ++ [a.getD k 0 - (b.getD k 0 + t)]) + val (b.take (k + 1)) = val (a.take (k + 1)) + 65536 ^ (k + 1) * 0 := by
  rw [val_snoc, val_take_succ, val_take_succ, hk]
  have e : 65536 ^ k * (a.getD k 0 - (b.getD k 0 + t)) + 65536 ^ k * (b.getD k 0) + 65536 ^ k * t = 65536 ^ k * a.getD k 0 := by
    rw [← Nat.mul_add, ← Nat.mul_add]; congr 1; omega
  omega
theorem less_step1 {a b o : List Nat} {k t : Nat} (hk : o.length = k) (h : val o + val (b.take k) = val (a.take k) + 65536 ^ k * t) (hx : a.getD k 0 < b.getD k 0 + t) (hb : b.getD k 0 + t ≤ 65536) :
    val (o ++ [a.getD k 0 + 65536 - (b.getD k 0 + t)]) + val (b.take (k + 1)) = val (a.take (k + 1)) + 65536 ^ (k + 1) * 1 := by
  rw [val_snoc, val_take_succ, val_take_succ, hk, Nat.pow_succ]
  have e : 65536 ^ k * (a.getD k 0 + 65536 - (b.getD k 0 + t)) + 65536 ^ k * (b.getD k 0) + 65536 ^ k * t = 65536 ^ k * a.getD k 0 + 65536 ^ k * 65536 := by
    rw [← Nat.mul_add, ← Nat.mul_add, ← Nat.mul_add]; congr 1; omega
  omega
end Go.Proofs.Ytcbfognflngbaaa.Num
