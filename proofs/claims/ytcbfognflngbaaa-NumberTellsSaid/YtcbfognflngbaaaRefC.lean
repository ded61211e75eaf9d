/- Contracts of the reference's compare, plus, less. -/
import Derived.Test.YtcbfognflngbaaaRefB
set_option linter.unusedVariables false
namespace Go.Proofs.Ytcbfognflngbaaa.Num
open Go.RowKit
def SomeCmp (w : World) (a b : Nat) (e : Ending) (w' : World) : Prop := ∃ c : Int, e = .returned (.int .i64 c) ∧ (0 ≤ c ↔ b ≤ a) ∧ w = w'
def CmpAt (la lb : List Nat) (k : Nat) : Prop := val (la.drop k) = val (lb.drop k)

theorem compare_at (w : World) (sa sb : Value) (la lb : List Nat) (ha : Row w sa la) (hb : Row w sb lb) (da : Dig la) (db : Dig lb) (M : Nat) (hM : M ≤ 1000)
    (hm : (la.length ≤ lb.length ∧ M = lb.length) ∨ (lb.length < la.length ∧ M = la.length)) :
    Calls Try.prog 43 #[sa, sb] w (SomeCmp w (val la) (val lb)) := by
  have CA := fun k w' (e : w = w') hk => digit_any w' sa la k (e ▸ ha) hk
  have CB := fun k w' (e : w = w') hk => digit_any w' sb lb k (e ▸ hb) hk
  have GA := fun k => da.getD k
  have GB := fun k => db.getD k
  have LT := Lib.hid (fun k => cmp_lt (k := k) da db)
  have GT := Lib.hid (fun k => cmp_lt (k := k) db da)
  have S0 : CmpAt la lb M := cmp_start la lb M (by omega) (by omega)
  have fin : val (la.drop 0) = val (lb.drop 0) → val la = val lb := by rw [List.drop_zero, List.drop_zero]; exact id
  obtain ⟨A, c, rfl, h1, h2, -⟩ := ha
  obtain ⟨A', c', rfl, h1', h2', -⟩ := hb
  unfold maxLen at h2 h2'
  generalize la.length = na at *
  generalize lb.length = nb at *
  have CA := Lib.hid CA; have CB := Lib.hid CB; have GA := Lib.hid GA; have GB := Lib.hid GB; have FI := Lib.hid fin; clear fin
  rename_i CA0 CB0 GA0 GB0
  clear CA0 CB0 GA0 GB0
  rcases hm with ⟨hle, rfl⟩ | ⟨hle, rfl⟩
  all_goals
    go_enter Try.func43, Try.ntmps43
    go_wp2
  all_goals
    go_loop [5] (fun v => ∃ k : Nat, k ≤ M ∧ v = .int .i64 ((k : Int) - 1) ∧ CmpAt la lb k) (fun v => (intOf v + 1).toNat)
    case atStart => exact ⟨M, Nat.le_refl _, by congr 1 <;> omega, S0⟩
    case round =>
      obtain ⟨k, hk, rfl, hv⟩ := hrel
      cases k with
      | zero =>
        have F := Lib.hid (FI.out hv)
        have e : ((0 : Nat) : Int) - 1 = -1 := rfl
        rw [e]
        clear hv S0
        go_wp2
        go_ret
        exact ⟨0, rfl, by have := F.out; omega, rfl⟩
      | succ j =>
        have e : ((j + 1 : Nat) : Int) - 1 = (j : Int) := by omega
        rw [e]
        have ca := fun w' e => CA.out j w' e (by omega)
        have cb := fun w' e => CB.out j w' e (by omega)
        have ga := GA.out j; have gb := GB.out j
        have lt := LT.out j hv; have gt := GT.out j hv.symm
        have st : la.getD j 0 = lb.getD j 0 → CmpAt la lb j := cmp_step hv
        generalize la.getD j 0 = x at *
        generalize lb.getD j 0 = y at *
        clear e hv S0
        by_cases hxy : x = y
        · subst hxy
          have ST := Lib.hid (st rfl)
          clear st lt gt
          go_wp2_with (go_at_call 39; first | (with_reducible refine (ca _ rfl).mono ?_) | (with_reducible refine (cb _ rfl).mono ?_)
                       rintro e w' ⟨rfl, rfl⟩)
          go_round
          case rel => exact ⟨j, by omega, rfl, ST.out⟩
          case measure => simp [intOf] <;> omega
        · have F := Lib.hid (show (0 : Int) ≤ (x : Int) - y ↔ val lb ≤ val la by
            rcases Nat.lt_or_gt_of_ne hxy with h | h
            · have := lt h; omega
            · have := gt h; omega)
          have hn : (((x : Int)) == (y : Int)) = false := by
            have : (x : Int) ≠ y := by omega
            simpa using this
          clear st lt gt hxy
          go_wp2_with (go_at_call 39; first | (with_reducible refine (ca _ rfl).mono ?_) | (with_reducible refine (cb _ rfl).mono ?_)
                       rintro e w' ⟨rfl, rfl⟩)
          go_ret
          exact ⟨_, rfl, F.out, rfl⟩
end Go.Proofs.Ytcbfognflngbaaa.Num
