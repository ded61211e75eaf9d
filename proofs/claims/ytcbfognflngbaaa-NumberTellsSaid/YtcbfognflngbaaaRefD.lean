/- Contracts of the reference's plus and less. -/
import Derived.Test.YtcbfognflngbaaaRefC
set_option linter.unusedVariables false
namespace Go.Proofs.Ytcbfognflngbaaa.Num
open Go.RowKit
/-- append of one digit to a row of the call's own. -/
theorem run_app1 (w : World) (B : Nat) (v : Value) (o : List Nat) (d : Nat) (ty : TypeId) (n : Nat) (ho : w.ownsRow B 3 1 v n (I64 o)) (hB : B ≤ w.heap.size) (hl : n ≤ 10000) :
    ∃ a n' c' w', (Builtin.append_ #[35, 35] ty #[v, .slice (some ⟨w.heap.size, 0, none⟩) 1 1]).run Try.prog (w.alloc (.cells #[.int .i64 (d : Nat)] 3)) = .ok (.slice a n' c') w' ∧ w'.ownsRow B 3 1 (.slice a n' c') (n + 1) (I64 (o ++ [d])) ∧ Below B w w' := by
  obtain ⟨i0, hi0, hz0, hz1, hz2⟩ := info_parts info3
  have hnew : (w.alloc (.cells #[.int .i64 (d : Nat)] 3)).heap[w.heap.size]? = some (.cells #[.int .i64 (d : Nat)] 3) := heap_alloc_new w _
  have hcells : ∀ j u, (I64 [d])[j]? = some u → (w.alloc (.cells #[.int .i64 (d : Nat)] 3)).cell? ((⟨w.heap.size, 0, none⟩ : Addr).add j) = some u := by
    intro j u hu
    cases j with
    | zero => simp [I64] at hu; subst hu; exact cell_of_one hnew
    | succ j => simp [I64] at hu
  obtain ⟨v', w', hrun, h2, hg, _, _⟩ := run_append_own_at (P := Try.prog) (w.alloc (.cells #[.int .i64 (d : Nat)] 3)) B 35 ty 3 i0 _ 1 8 Try.underlying35 hi0 hz0 hz1 hz2 rfl (by decide) v n _ (ho.alloc _) ⟨w.heap.size, 0, none⟩ 1 1 (I64 [d]) rfl hcells (I64_one _) (by unfold maxLen; omega) (by omega) (by simp; omega)
  rw [← I64_app] at h2
  obtain ⟨a, c', rfl⟩ := own_form h2
  refine ⟨a, _, c', w', hrun, h2, (((Below.refl _ _).alloc hB _).grown hg (by simp; omega) (fun j hj => ?_))⟩
  have := ho.lt j hj
  omega

def PlusIs (w : World) (la lb : List Nat) (wr : World) (k : Nat) (out : Value) (cc : Nat) : Prop :=
  ∃ o, wr.ownsRow w.heap.size 3 1 out k (I64 o) ∧ o.length = k ∧ Dig o ∧ cc ≤ 1 ∧ val o + 65536 ^ k * cc = val (la.take k) + val (lb.take k) ∧ Bl w wr
theorem PlusIs.start (w : World) (la lb : List Nat) : PlusIs w la lb (w.alloc (.cells #[] 3)) 0 (.slice (some ⟨w.heap.size, 0, none⟩) 0 0) 0 :=
  ⟨[], World.ownsRow_made w #[] 0 (Nat.le_refl _) (by decide) rfl, rfl, Dig.nil, by omega, by simp [val], (Below.refl _ _).alloc (Nat.le_refl _) _⟩
theorem PlusIs.step {w : World} {la lb : List Nat} {wr : World} {k : Nat} {out : Value} {cc : Nat} (h : PlusIs w la lb wr k out cc) (hk : k ≤ 5000) (ty : TypeId) (da : Dig la) (db : Dig lb) :
    ∃ a n' c' w', (Builtin.append_ #[35, 35] ty #[out, .slice (some ⟨wr.heap.size, 0, none⟩) 1 1]).run Try.prog (wr.alloc (.cells #[.int .i64 ((la.getD k 0 + lb.getD k 0 + cc) % 65536 : Nat)] 3)) = .ok (.slice a n' c') w' ∧
      PlusIs w la lb w' (k + 1) (.slice a n' c') ((la.getD k 0 + lb.getD k 0 + cc) / 65536) := by
  obtain ⟨o, h1, h2, h3, h4, h5, h6⟩ := h
  obtain ⟨a, n', c', w', r1, r2, r3⟩ := run_app1 wr w.heap.size out o ((la.getD k 0 + lb.getD k 0 + cc) % 65536) ty k h1 (Below.size h6) (by omega)
  have ga := da.getD k; have gb := db.getD k
  exact ⟨a, n', c', w', r1, o ++ [_], r2, by simp [h2], h3.snoc (Nat.mod_lt _ (by decide)), by omega, plus_step h2 h5, Below.trans h6 r3⟩

def SomeRow (w : World) (n v : Nat) (e : Ending) (w' : World) : Prop := ∃ s l, e = .returned s ∧ Row w' s l ∧ Dig l ∧ l.length = n ∧ val l = v ∧ Bl w w'

theorem plus_at (w : World) (sa sb : Value) (la lb : List Nat) (ha : Row w sa la) (hb : Row w sb lb) (da : Dig la) (db : Dig lb) (M : Nat) (hM : M ≤ 1000)
    (hm : (la.length ≤ lb.length ∧ M = lb.length) ∨ (lb.length < la.length ∧ M = la.length)) :
    Calls Try.prog 42 #[sa, sb] w (SomeRow w (M + 1) (val la + val lb)) := by
  have CA := fun k w' (e : Bl w w') hk => digit_any w' sa la k (ha.bl e) hk
  have CB := fun k w' (e : Bl w w') hk => digit_any w' sb lb k (hb.bl e) hk
  have GA := Lib.hid (fun k => da.getD k)
  have GB := Lib.hid (fun k => db.getD k)
  have CA := Lib.hid CA; have CB := Lib.hid CB; rename_i CA0 CB0; clear CA0 CB0
  have FI := Lib.hid (show ∀ o : List Nat, ∀ cc, o.length = M + 1 → Dig o → val o + 65536 ^ (M + 1) * cc = val (la.take (M + 1)) + val (lb.take (M + 1)) → val o = val la + val lb by
    intro o cc h1 h2 h3
    rw [List.take_of_length_le (by omega), List.take_of_length_le (by omega)] at h3
    have a1 : val la < 65536 ^ M := Nat.lt_of_lt_of_le (val_lt da) (Nat.pow_le_pow_right (by decide) (by omega))
    have a2 : val lb < 65536 ^ M := Nat.lt_of_lt_of_le (val_lt db) (Nat.pow_le_pow_right (by decide) (by omega))
    have a3 : 65536 ^ (M + 1) = 65536 ^ M * 65536 := Nat.pow_succ ..
    cases cc with
    | zero => omega
    | succ c =>
      have a4 : 65536 ^ (M + 1) * 1 ≤ 65536 ^ (M + 1) * (c + 1) := Nat.mul_le_mul_left _ (by omega)
      omega)
  have P0 := Lib.hid (PlusIs.start w la lb)
  have PS := Lib.hid (show ∀ wr k out cc, PlusIs w la lb wr k out cc → k ≤ 5000 → _ from fun wr k out cc h hk => h.step hk 35 da db)
  obtain ⟨A, c, rfl, h1, h2, -⟩ := ha
  obtain ⟨A', c', rfl, h1', h2', -⟩ := hb
  unfold maxLen at h2 h2'
  generalize la.length = na at *
  generalize lb.length = nb at *
  rcases hm with ⟨hle, rfl⟩ | ⟨hle, rfl⟩
  all_goals
    go_enter Try.func42, Try.ntmps42
    go_wp2
    go_loopw [5, 6, 7] (fun out c i wr => ∃ (k cc : Nat) (a0 : Option Addr) (n0 c0 : Nat), k ≤ M + 1 ∧ i = .int .i64 k ∧ c = .int .i64 cc ∧ out = .slice a0 n0 c0 ∧ PlusIs w la lb wr k (.slice a0 n0 c0) cc) (fun _ _ i _ => M + 1 - (intOf i).toNat)
    case atStart => exact ⟨0, 0, _, _, _, by omega, rfl, rfl, rfl, P0.out⟩
    case round =>
      obtain ⟨k, cc, a0, n0, c0, hk, rfl, rfl, rfl, hp⟩ := hrel
      by_cases hlt : k ≤ M
      · have hbl : Bl w wr := by obtain ⟨_, _, _, _, _, _, h⟩ := hp; exact h
        have hc1 : cc ≤ 1 := by obtain ⟨_, _, _, _, h, _⟩ := hp; exact h
        obtain ⟨a, n', c9, w9, hrun, hnext⟩ := PS.out wr k _ cc hp (by omega)
        have ca := CA.out k wr hbl (by omega)
        have cb := CB.out k wr hbl (by omega)
        have ga := GA.out k; have gb := GB.out k
        generalize la.getD k 0 = x at *
        generalize lb.getD k 0 = y at *
        have e1 : (((x + y + cc) % 65536 : Nat) : Int) = ((x : Int) + y + cc) % 65536 := by omega
        have e2 : ((x : Int) + y + cc) / 65536 = (((x + y + cc) / 65536 : Nat) : Int) := by omega
        rw [e1] at hrun
        have R := Lib.hid hrun; have NX := Lib.hid hnext; have E2 := Lib.hid e2
        clear e1 e2 hrun hnext hp hbl
        go_wp2_with (first
          | (go_at_call 39; first | (with_reducible refine ca.mono ?_) | (with_reducible refine cb.mono ?_)
             rintro e w' ⟨rfl, rfl⟩)
          | (at_builtin; refine wpList_append_run rfl (.tmp 28) (.tmp 31) 35 rfl rfl rfl R.out ?_))
        all_goals
          go_roundw
          case rel => exact ⟨k + 1, _, _, _, _, by omega, by go_num, by rw [E2.out], rfl, NX.out⟩
          case measure => simp [intOf] <;> omega
      · obtain rfl : k = M + 1 := by omega
        have F : SomeRow w (M + 1) (val la + val lb) (.returned (.slice a0 n0 c0)) wr := by
          obtain ⟨o, h1, h2, h3, h4, h5, h6⟩ := hp
          exact ⟨_, o, rfl, Row.own h1, h3, h2, FI.out o cc h2 h3 h5, h6⟩
        have FF := Lib.hid F
        clear F hp
        go_wp2
        all_goals
          go_ret
          exact FF.out
end Go.Proofs.Ytcbfognflngbaaa.Num
