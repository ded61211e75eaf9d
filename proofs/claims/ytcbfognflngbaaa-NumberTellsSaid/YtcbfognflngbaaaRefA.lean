/- Rows of digits in memory; contracts of the reference's digit and whole. -/
import Derived.Test.YtcbfognflngbaaaNumE
import Derived.Test.YtcbfognflngbaaaRefP
import Derived.Maps.AppendAt
set_option linter.unusedVariables false
namespace Go.Proofs.Ytcbfognflngbaaa.Num
open Go.RowKit
def I64 (l : List Nat) : List Value := l.map fun (d : Nat) => Value.int .i64 (d : Int)
theorem I64_one (l : List Nat) : ∀ u ∈ I64 l, u.oneCell' = true := by
  intro u hu
  obtain ⟨c, _, rfl⟩ := List.mem_map.1 hu
  rfl
theorem I64_len (l : List Nat) : (I64 l).length = l.length := by simp [I64]
theorem I64_app (l r : List Nat) : I64 (l ++ r) = I64 l ++ I64 r := by simp [I64]
/-- A slice that reads as a row of digits, below the world's end. -/
def Row (w : World) (s : Value) (l : List Nat) : Prop :=
  ∃ A c, s = .slice A l.length c ∧ l.length ≤ c ∧ c ≤ maxLen ∧ (l = [] ∨ ∃ b o, A = some ⟨b, o, none⟩ ∧ b < w.heap.size ∧ ∀ j, j < l.length → w.cell? ⟨b, o + j, none⟩ = some (.int .i64 (l.getD j 0 : Nat)))
theorem Row.bl {w w' : World} {s : Value} {l : List Nat} (h : Row w s l) (hb : Bl w w') : Row w' s l := by
  obtain ⟨A, c, hs, h1, h2, h3⟩ := h
  refine ⟨A, c, hs, h1, h2, ?_⟩
  rcases h3 with h3 | ⟨b, o, hA, hlt, hc⟩
  · exact .inl h3
  · have hsz : w.heap.size ≤ w'.heap.size := Below.size hb
    exact .inr ⟨b, o, hA, by omega, fun j hj => (Below.cell hb hlt).trans (hc j hj)⟩
theorem Row.own {w : World} {B : Nat} {v : Value} {l : List Nat} {n : Nat} (h : w.ownsRow B 3 1 v n (I64 l)) : Row w v l := by
  have hl : n = l.length := by have := h.1; rw [I64_len] at this; omega
  subst hl
  rcases h.2 with ⟨rfl, hn⟩ | ⟨g, cap, cur, rfl, hg, hh, hnc, hcm, hcs, htk⟩
  · refine ⟨none, 0, by rw [hn], by omega, by omega, .inl (List.length_eq_zero_iff.1 hn)⟩
  · refine ⟨_, cap, rfl, hnc, hcm, ?_⟩
    rcases List.eq_nil_or_concat l with h0 | _
    · exact .inl h0
    · refine .inr ⟨g, 0, rfl, lt_of_block hh, fun j hj => ?_⟩
      have := h.cells rfl j (.int .i64 (l.getD j 0 : Nat)) (by unfold I64; rw [List.getElem?_map, List.getElem?_eq_getElem hj, List.getD_eq_getElem?_getD, List.getElem?_eq_getElem hj]; rfl)
      have e : (⟨g, 0, none⟩ : Addr).add j = ⟨g, 0 + j, none⟩ := by unfold Addr.add; split <;> simp_all
      rw [e] at this
      exact this

theorem digit_any (w : World) (s : Value) (l : List Nat) (k : Nat) (h : Row w s l) (hk : k ≤ 1000000) :
    Calls Try.prog 39 #[s, .int .i64 k] w fun e w' => e = .returned (.int .i64 (l.getD k 0 : Nat)) ∧ w = w' := by
  obtain ⟨A, c, rfl, h1, h2, h3⟩ := h
  unfold maxLen at h2
  by_cases hlt : k < l.length
  · rcases h3 with h3 | ⟨b, o, rfl, hb, hc⟩
    · rw [h3] at hlt; cases hlt
    · have hcell := hc k hlt
      clear hc
      generalize ((l.getD k 0 : Nat) : Int) = d at *
      generalize l.length = n at *
      go_enter Try.func39, Try.ntmps39
      go_wp2
      go_ret
      exact ⟨rfl, rfl⟩
  · have e : ((l.getD k 0 : Nat) : Int) = 0 := by rw [List.getD_eq_getElem?_getD, List.getElem?_eq_none (by omega)]; rfl
    rw [e]; clear e h3
    generalize l.length = n at *
    go_enter Try.func39, Try.ntmps39
    go_wp2
    go_ret
    exact ⟨rfl, rfl⟩

theorem info3 : (Try.prog.info? 3).map (fun i => (i.zero, i.size, i.bytes)) = some (some (.int .i64 0), 1, 8) := by kernel_rfl
/-- append of the first k of a row to a new, empty slice. -/
theorem run_copy (w : World) (A : Option Addr) (l : List Nat) (c k : Nat) (ty : TypeId) (hk : k ≤ l.length) (hl : l.length ≤ 1000)
    (h3 : l = [] ∨ ∃ b o, A = some ⟨b, o, none⟩ ∧ b < w.heap.size ∧ ∀ j, j < l.length → w.cell? ⟨b, o + j, none⟩ = some (.int .i64 (l.getD j 0 : Nat))) :
    ∃ v' w', (Builtin.append_ #[35, 35] ty #[.slice (some ⟨w.heap.size, 0, none⟩) 0 0, .slice A k c]).run Try.prog (w.alloc (.cells #[] 3)) = .ok v' w' ∧ w'.ownsRow w.heap.size 3 1 v' k (I64 (l.take k)) ∧ Bl w w' := by
  obtain ⟨i0, hi0, hz0, hz1, hz2⟩ := info_parts info3
  have hown : (w.alloc (.cells #[] 3)).ownsRow w.heap.size 3 1 (.slice (some ⟨w.heap.size, 0, none⟩) 0 0) 0 [] := World.ownsRow_made w #[] 0 (Nat.le_refl _) (by decide) rfl
  have hnew : Below w.heap.size w (w.alloc (.cells #[] 3)) := (Below.refl _ _).alloc (Nat.le_refl _) _
  have hlen : (I64 (l.take k)).length = k := by rw [I64_len, List.length_take]; omega
  rcases A with _ | ad
  · have h0 : l = [] := by
      rcases h3 with h | ⟨b, o, h, _⟩
      · exact h
      · cases h
    subst h0
    obtain rfl : k = 0 := by simpa using hk
    refine ⟨_, _, ?_, hown, hnew⟩
    simp [Builtin.append_, run_underlying Try.underlying35, sizeOf, typeInfo, hi0, Builtin.lenOf, Builtin.firstCells, storeCells]
  · have hcells : ∀ j u, (I64 (l.take k))[j]? = some u → (w.alloc (.cells #[] 3)).cell? (ad.add j) = some u := by
      intro j u hu
      rcases h3 with h | ⟨b, o, h, hb, hc⟩
      · subst h; simp [I64] at hu
      · injection h with h; subst h
        have hj : j < k := by
          rcases Nat.lt_or_ge j k with h | h
          · exact h
          · rw [List.getElem?_eq_none (by rw [hlen]; exact h)] at hu; cases hu
        have e : (⟨b, o, none⟩ : Addr).add j = ⟨b, o + j, none⟩ := by unfold Addr.add; split <;> simp_all
        rw [e, World.cell?_alloc_lt w _ _ hb, hc j (by omega)]
        unfold I64 at hu
        rw [List.getElem?_map, List.getElem?_take, if_pos hj, List.getElem?_eq_getElem (by omega)] at hu
        rw [← hu, List.getD_eq_getElem?_getD, List.getElem?_eq_getElem (by omega)]; rfl
    obtain ⟨v', w', hrun, h2, hg, _, _⟩ := run_append_own_at (P := Try.prog) (w.alloc (.cells #[] 3)) w.heap.size 35 ty 3 i0 _ 1 8 Try.underlying35 hi0 hz0 hz1 hz2 rfl (by decide) _ 0 _ hown ad k c (I64 (l.take k)) (by rw [hlen]; omega) hcells (I64_one _) (by unfold maxLen; omega) (by omega) (by simp)
    rw [Nat.zero_add, List.nil_append] at h2
    exact ⟨v', w', hrun, h2, hnew.grown hg (by simp) (fun j hj => by simp [Value.ownBlock] at hj; omega)⟩
end Go.Proofs.Ytcbfognflngbaaa.Num
