/- Contracts of the reference's whole and compare. -/
import Derived.Test.YtcbfognflngbaaaRefA
import Derived.Test.YtcbfognflngbaaaNumG
set_option linter.unusedVariables false
namespace Go.Proofs.Ytcbfognflngbaaa.Num
open Go.RowKit
def sg (b : Bool) (n : Nat) : Int := if b then -(n : Int) else n
/-- A number: its sign, and its digits, none beyond the highest one that is not 0. -/
def NumIs (w : World) (v : Value) (z : Int) : Prop :=
  ∃ (b : Bool) (s : Value) (l : List Nat), v = .agg #[.bool b, s] ∧ Row w s l ∧ Dig l ∧ Norm l ∧ z = sg b (val l) ∧ (b = true → l ≠ [])
theorem NumIs.bl {w w' : World} {v : Value} {z : Int} (h : NumIs w v z) (hb : Bl w w') : NumIs w' v z := by
  obtain ⟨b, s, l, h1, h2, h3⟩ := h
  exact ⟨b, s, l, h1, h2.bl hb, h3⟩
def SomeNum (w : World) (z : Int) (e : Ending) (w' : World) : Prop := ∃ v, e = .returned v ∧ NumIs w' v z ∧ Bl w w'

/-- The zero of a number's variable. -/
abbrev zNum : Obj := .cells #[.bool false, .slice none 0 0] 37
theorem size_al (w : World) (o : Obj) : (w.alloc o).heap.size = w.heap.size + 1 := by simp
/-- What the block of a result holds while what lies behind it is made. -/
theorem res_block {w w' : World} {o : Obj} (hb : Bl (w.alloc o) w') : w'.heap[w.heap.size]? = some o := by
  have h : w.heap.size < (w.alloc o).heap.size := by rw [size_al]; omega
  exact (Below.block hb _ h).trans (heap_alloc_new w o)
theorem res_cells {w w' : World} (hb : Bl (w.alloc zNum) w') :
    w'.cell? ⟨w.heap.size, 0, none⟩ = some (.bool false) ∧ w'.cell? ⟨w.heap.size, 1, none⟩ = some (.slice none 0 0) ∧ w'.frozen? ⟨w.heap.size, 0, none⟩ = false ∧ w'.frozen? ⟨w.heap.size, 1, none⟩ = false ∧ w.heap.size < w'.heap.size := by
  have h := res_block hb
  refine ⟨?_, ?_, ?_, ?_, lt_of_block h⟩ <;> simp [World.cell?, World.frozen?, h]
/-- A number laid into the result's block. -/
abbrev putNum (w' : World) (p : Nat) (t : Bool) (v : Value) : World := (w'.setCell ⟨p, 0, none⟩ (.bool t)).setCell ⟨p, 1, none⟩ v
theorem bl_put {w w' : World} (hb : Bl (w.alloc zNum) w') (t : Bool) (v : Value) : Bl w (putNum w' w.heap.size t v) :=
  ((((Below.refl _ _).alloc (Nat.le_refl _) _).trans (hb.mono (by simp))).setCell (by simp) _).setCell (by simp) _
theorem own_put {w w' : World} {v : Value} {k : Nat} {l : List Nat} (ho : w'.ownsRow (w.heap.size + 1) 3 1 v k (I64 l)) (t : Bool) : Row (putNum w' w.heap.size t v) v l :=
  Row.own (ownsRow_setCell_below (ownsRow_setCell_below ho (by simp) _) (by simp) _)
theorem own_form {w : World} {B : Nat} {e : TypeId} {sz : Nat} {v : Value} {n : Nat} {xs : List Value} (h : w.ownsRow B e sz v n xs) : ∃ a c, v = .slice a n c := by
  rcases h.2 with ⟨rfl, h0⟩ | ⟨g, cap, cur, rfl, _⟩
  · exact ⟨none, 0, by rw [h0]⟩
  · exact ⟨_, _, rfl⟩

theorem sg_and {b : Bool} {l r : List Nat} (hv : val r = val l) (hn : Norm r) (t : Bool) (ht : t = (b && decide (0 < r.length))) : sg b (val l) = sg t (val r) ∧ (t = true → r ≠ []) := by
  subst ht
  rcases List.eq_nil_or_concat r with h | ⟨r', d, h⟩
  · subst h
    have : val l = 0 := by rw [← hv]; rfl
    rw [this]
    cases b <;> simp [sg, val]
  · have h0 : 0 < r.length := by rw [h]; simp
    rw [decide_eq_true h0, Bool.and_true, hv]
    exact ⟨rfl, fun _ e => by rw [e] at h0; cases h0⟩

theorem whole_any (w : World) (b : Bool) (s : Value) (l : List Nat) (h : Row w s l) (hd : Dig l) (hl : l.length ≤ 1000) :
    Calls Try.prog 38 #[.bool b, s] w (SomeNum w (sg b (val l))) := by
  obtain ⟨A, c, rfl, h1, h2, h3⟩ := h
  unfold maxLen at h2
  have H3 := Lib.hid h3; clear h3
  have HD := Lib.hid hd; clear hd
  obtain ⟨n, hn⟩ : ∃ n, n = l.length := ⟨_, rfl⟩
  rw [← hn] at h1 hl ⊢
  have HN := Lib.hid hn; clear hn
  go_enter Try.func38, Try.ntmps38
  go_wp2
  go_loop [5] (fun v => ∃ k : Nat, k ≤ n ∧ v = .int .i64 k ∧ val (l.take k) = val l) (fun v => (intOf v).toNat)
  case atStart => exact ⟨n, Nat.le_refl _, rfl, by rw [List.take_of_length_le (by rw [HN.out]; exact Nat.le_refl _)]⟩
  case round =>
    obtain ⟨k, hk, rfl, hv⟩ := hrel
    have HV := Lib.hid hv; clear hv
    have fin : ∀ t : Bool, t = (b && decide (0 < k)) → Norm (l.take k) → Hid (∀ w' v', w'.ownsRow (w.heap.size + 1) 3 1 v' k (I64 (l.take k)) → Bl (w.alloc zNum) w' →
        NumIs (putNum w' w.heap.size t v') (.agg #[.bool t, v']) (sg b (val l)) ∧ Bl w (putNum w' w.heap.size t v')) := by
      intro t ht hnorm w' v' ho hbl
      have hlk : (l.take k).length = k := by have := HN.out; rw [List.length_take]; omega
      obtain ⟨e1, e2⟩ := sg_and (b := b) HV.out hnorm t (by rw [hlk]; exact ht)
      exact ⟨⟨t, v', l.take k, rfl, own_put ho t, HD.out.take k, hnorm, e1, e2⟩, bl_put hbl t v'⟩
    have run : Hid (∀ A', A = A' → ∃ a n' c' w', (Builtin.append_ #[35, 35] 35 #[.slice (some ⟨w.heap.size + 1, 0, none⟩) 0 0, .slice A' k c]).run Try.prog ((w.alloc zNum).alloc (.cells #[] 3)) = .ok (.slice a n' c') w' ∧
        w'.ownsRow (w.heap.size + 1) 3 1 (.slice a n' c') k (I64 (l.take k)) ∧ Bl (w.alloc zNum) w') := by
      rintro A' rfl
      obtain ⟨v', w', hrun, hown, hbl⟩ := run_copy (w.alloc zNum) A l c k 35 (by have := HN.out; omega) (by have := HN.out; omega) (by
          rcases H3.out with h | ⟨b, o, h, hb, hc⟩
          · exact .inl h
          · exact .inr ⟨b, o, h, by rw [size_al]; omega, fun j hj => (World.cell?_alloc_lt w _ _ hb).trans (hc j (by have := HN.out; omega))⟩)
      rw [size_al] at hrun hown
      obtain ⟨a, c', rfl⟩ := own_form hown
      exact ⟨a, k, c', w', hrun, hown, hbl⟩
    by_cases hz : 0 < k
    · obtain ⟨bb, o, hA, hb, hc⟩ : ∃ b o, A = some ⟨b, o, none⟩ ∧ b < w.heap.size ∧ w.cell? ⟨b, o + (k - 1), none⟩ = some (.int .i64 (l.getD (k - 1) 0 : Nat)) := by
        rcases H3.out with h | ⟨b, o, h, hb, hc⟩
        · have := HN.out; rw [h] at this; simp at this; omega
        · exact ⟨b, o, h, hb, hc (k - 1) (by have := HN.out; omega)⟩
      subst hA
      by_cases h0 : l.getD (k - 1) 0 = 0
      · have F := Lib.hid (show val (l.take (k - 1)) = val l from val_take_zero (by have := HN.out; omega) h0 (by rw [Nat.sub_add_cancel hz]; exact HV.out))
        rw [h0] at hc
        have e0 : ((0 : Nat) : Int) = 0 := rfl
        rw [e0] at hc
        clear h0 e0 fin run
        go_wp2
        go_round
        case rel => exact ⟨k - 1, by omega, by congr 1; omega, F.out⟩
        case measure => simp [intOf]; omega
      · have hnorm := norm_take (l := l) (k := k - 1) (by have := HN.out; omega) h0
        rw [Nat.sub_add_cancel hz] at hnorm
        have h9 : (((l.getD (k - 1) 0 : Nat) : Int) == 0) = false := by
          have : ((l.getD (k - 1) 0 : Nat) : Int) ≠ 0 := by omega
          simpa using this
        generalize ((l.getD (k - 1) 0 : Nat) : Int) = d at *
        clear h0
        have F := fin b (by rw [decide_eq_true hz, Bool.and_true]) hnorm
        obtain ⟨a', n', c', w', hrun, hown, hbl⟩ := run.out _ rfl
        obtain ⟨q0, q1, q2, q3, q4⟩ := res_cells hbl
        have F2 := Lib.hid (F.out _ _ hown hbl)
        have R := Lib.hid hrun
        clear fin run hown hbl hnorm F hrun
        cases b
        all_goals
          go_wp2_with (at_builtin; refine wpList_append_run rfl (.tmp 25) (.tmp 28) 35 rfl rfl rfl R.out ?_)
          refine bodyPost_ret (v := .agg #[.bool _, .slice a' n' c']) (by simp [results, Try.results38, go_sem, q0, q1]) rfl ⟨_, rfl, F2.out.1, F2.out.2⟩
    · obtain rfl : k = 0 := by omega
      have F := fin false (by simp) (by rw [List.take_zero]; exact norm_nil)
      obtain ⟨a', n', c', w', hrun, hown, hbl⟩ := run.out _ rfl
      obtain ⟨q0, q1, q2, q3, q4⟩ := res_cells hbl
      have F2 := Lib.hid (F.out _ _ hown hbl)
      have R := Lib.hid hrun
      clear fin run hown hbl F hrun
      cases b
      all_goals rcases A with _ | ⟨A1, A2, A3⟩
      all_goals
        go_wp2_with (at_builtin; refine wpList_append_run rfl (.tmp 25) (.tmp 28) 35 rfl rfl rfl R.out ?_)
        refine bodyPost_ret (v := .agg #[.bool _, .slice a' n' c']) (by simp [results, Try.results38, go_sem, q0, q1]) rfl ⟨_, rfl, F2.out.1, F2.out.2⟩
end Go.Proofs.Ytcbfognflngbaaa.Num
