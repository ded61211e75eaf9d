/- Contract of the reference's Int. -/
import Derived.Test.YtcbfognflngbaaaRefG
set_option linter.unusedVariables false
namespace Go.Proofs.Ytcbfognflngbaaa.Num
open Go.RowKit
def SomeInt (w : World) (z : Int) (e : Ending) (w' : World) : Prop := ∃ n : Int, e = .returned (.tuple #[.int .i64 n, .bool (decide (Fits z))]) ∧ (Fits z → n = z) ∧ Bl w w'
theorem norm_gt {l : List Nat} (hn : Norm l) {k : Nat} (h : k < l.length) : 65536 ^ k ≤ val l := by
  obtain ⟨m, hm⟩ : ∃ m, l.length = m + 1 := ⟨l.length - 1, by omega⟩
  have h1 := norm_big hn hm
  have h2 : 65536 ^ k ≤ 65536 ^ m := Nat.pow_le_pow_right (by decide) (by omega)
  omega
theorem drop_lt {l : List Nat} (hd : Dig l) (h4 : l.length ≤ 4) (k : Nat) : val (l.drop k) < 18446744073709551616 := by
  have h1 : Dig (l.drop k) := fun x hx => hd x (List.mem_of_mem_drop hx)
  have h2 := val_lt h1
  have h3 : 65536 ^ (l.drop k).length ≤ 65536 ^ 4 := Nat.pow_le_pow_right (by decide) (by rw [List.length_drop]; omega)
  have h5 : (65536 : Nat) ^ 4 = 18446744073709551616 := by decide
  omega

theorem int_num (w : World) (v : Value) (z : Int) (hn : NumIs w v z) (hs : Sm 900 z) : Calls Try.prog 21 #[v] w (SomeInt w z) := by
  obtain ⟨b, s, l, rfl, hr, hd, hnorm, hz, hb⟩ := hn
  have hl := sm_len hs hz hnorm
  clear hs
  have NV0 := (NV.new w b hr.sl)
  obtain ⟨q0, q1, q2, q3, q4⟩ := NV0.cells
  have HB := Lib.hid (show Bl w (w.alloc (.cells #[.bool b, s] 37)) from (Below.refl _ _).alloc (Nat.le_refl _) _)
  obtain ⟨A, c, rfl, h1, h2, h3⟩ := hr
  unfold maxLen at h2
  clear NV0 q0 q1 q2 q3 q4
  by_cases hlong : 4 < l.length
  · have F := Lib.hid (show ¬ Fits z by
      have h9 := norm_gt hnorm hlong
      have h8 : (65536 : Nat) ^ 4 = 18446744073709551616 := by decide
      unfold Fits; rw [hz]; unfold sg; split <;> omega)
    have FF := Lib.hid (show decide (Fits z) = false from decide_eq_false F.out)
    clear hd hnorm hz hb h3
    generalize l.length = n at *
    go_enter Try.func21, Try.ntmps21
    go_wp2
    go_ret2
    exact ⟨0, by rw [FF.out]; rfl, fun h => absurd h F.out, HB.out⟩
  · have hv : val l < 18446744073709551616 := by have := drop_lt hd (by omega) 0; rw [List.drop_zero] at this; exact this
    have DR := Lib.hid (fun k => drop_lt hd (by omega) k)
    have D0 := Lib.hid (show val (l.drop l.length) = 0 by rw [List.drop_length]; rfl)
    have VD := Lib.hid (fun k => val_drop l k)
    have GD := Lib.hid (fun k => hd.getD k)
    have H3 := Lib.hid h3
    have ZV := Lib.hid hz
    clear hd hnorm hb h3 hz
    obtain ⟨n, hn⟩ : ∃ n, n = l.length := ⟨_, rfl⟩
    have HN := Lib.hid hn
    rw [← hn] at h1 hl hlong D0 HB ⊢
    clear hn
    go_enter Try.func21, Try.ntmps21
    go_wp2
    go_loop [4, 5] (fun m i => ∃ k : Nat, k ≤ n ∧ i = .int .i64 ((k : Int) - 1) ∧ m = .int .u64 (val (l.drop k) : Nat)) (fun _ i => (intOf i + 1).toNat)
    case atStart => exact ⟨n, Nat.le_refl _, rfl, by rw [D0.out]; rfl⟩
    case round =>
      obtain ⟨k, hk, rfl, rfl⟩ := hrel
      cases k with
      | zero =>
        have e : ((0 : Nat) : Int) - 1 = -1 := rfl
        rw [e, List.drop_zero]
        have hzv := ZV.out
        generalize val l = m at *
        cases b
        · have hz2 : z = m := by rw [hzv]; rfl
          have K := Lib.hid (show decide (Fits z) = decide ((m : Int) ≤ 9223372036854775807) by
            rw [hz2]; exact decide_eq_decide.2 (by unfold Fits; omega))
          have V := Lib.hid (show Fits z → wrap64 (m : Int) = z by intro h; rw [hz2] at h ⊢; unfold Fits at h; unfold wrap64; omega)
          clear hzv hz2 e
          go_wp2
          go_ret2
          exact ⟨_, by rw [K.out]; rfl, V.out, HB.out⟩
        · have hz2 : z = -(m : Int) := by rw [hzv]; rfl
          have K := Lib.hid (show decide (Fits z) = decide ((m : Int) ≤ 9223372036854775808) by
            rw [hz2]; exact decide_eq_decide.2 (by unfold Fits; omega))
          have V := Lib.hid (show Fits z → wrap64 (IntKind.u64.wrap (-(m : Int))) = z by intro h; rw [hz2] at h ⊢; rw [IntKind.wrap_u64]; unfold Fits at h; unfold wrap64; omega)
          clear hzv hz2 e
          go_wp2
          go_ret2
          exact ⟨_, by rw [K.out]; rfl, V.out, HB.out⟩
      | succ j =>
        have e : ((j + 1 : Nat) : Int) - 1 = (j : Int) := by omega
        rw [e]
        obtain ⟨bb, o, hA, hbb, hc⟩ : ∃ b o, A = some ⟨b, o, none⟩ ∧ b < w.heap.size ∧ w.cell? ⟨b, o + j, none⟩ = some (.int .i64 (l.getD j 0 : Nat)) := by
          rcases H3.out with h | ⟨b, o, h, hb, hc⟩
          · have := HN.out; rw [h] at this; simp at this; omega
          · exact ⟨b, o, h, hb, hc j (by have := HN.out; omega)⟩
        subst hA
        have vd := VD.out j
        have g1 := DR.out (j + 1); have g2 := DR.out j; have g3 := GD.out j
        generalize l.getD j 0 = d at *
        generalize val (l.drop (j + 1)) = m at *
        generalize hm' : val (l.drop j) = m' at *
        have HM := Lib.hid hm'; clear hm'
        have E := Lib.hid (show ((m : Int) * 65536 + (d : Int)) = (m' : Int) by omega)
        have b1 : (m : Int) * 65536 + d < 18446744073709551616 := by omega
        clear e vd
        go_wp2
        go_round
        case rel => exact ⟨j, by omega, rfl, by rw [HM.out, E.out]⟩
        case measure => simp [intOf] <;> omega
end Go.Proofs.Ytcbfognflngbaaa.Num
