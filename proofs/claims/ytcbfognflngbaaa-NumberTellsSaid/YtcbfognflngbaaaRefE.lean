/- Contract of the reference's less. -/
import Derived.Test.YtcbfognflngbaaaRefD
set_option linter.unusedVariables false
namespace Go.Proofs.Ytcbfognflngbaaa.Num
open Go.RowKit
def LessIs (w : World) (la lb : List Nat) (wr : World) (k : Nat) (out : Value) (t : Nat) : Prop :=
  ∃ o, wr.ownsRow w.heap.size 3 1 out k (I64 o) ∧ o.length = k ∧ Dig o ∧ t ≤ 1 ∧ val o + val (lb.take k) = val (la.take k) + 65536 ^ k * t ∧ Bl w wr
theorem LessIs.start (w : World) (la lb : List Nat) : LessIs w la lb (w.alloc (.cells #[] 3)) 0 (.slice (some ⟨w.heap.size, 0, none⟩) 0 0) 0 :=
  ⟨[], World.ownsRow_made w #[] 0 (Nat.le_refl _) (by decide) rfl, rfl, Dig.nil, by omega, by simp [val], (Below.refl _ _).alloc (Nat.le_refl _) _⟩
theorem LessIs.step {w : World} {la lb : List Nat} {wr : World} {k : Nat} {out : Value} {t : Nat} (h : LessIs w la lb wr k out t) (hk : k ≤ 5000) (ty : TypeId) (da : Dig la) (db : Dig lb) (d t' : Nat)
    (hd : (lb.getD k 0 + t ≤ la.getD k 0 ∧ d = la.getD k 0 - (lb.getD k 0 + t) ∧ t' = 0) ∨ (la.getD k 0 < lb.getD k 0 + t ∧ d = la.getD k 0 + 65536 - (lb.getD k 0 + t) ∧ t' = 1)) :
    ∃ a n' c' w', (Builtin.append_ #[35, 35] ty #[out, .slice (some ⟨wr.heap.size, 0, none⟩) 1 1]).run Try.prog (wr.alloc (.cells #[.int .i64 (d : Nat)] 3)) = .ok (.slice a n' c') w' ∧
      LessIs w la lb w' (k + 1) (.slice a n' c') t' := by
  obtain ⟨o, h1, h2, h3, h4, h5, h6⟩ := h
  obtain ⟨a, n', c', w', r1, r2, r3⟩ := run_app1 wr w.heap.size out o d ty k h1 (Below.size h6) (by omega)
  have ga := da.getD k; have gb := db.getD k
  refine ⟨a, n', c', w', r1, o ++ [d], r2, by simp [h2], h3.snoc (by omega), by omega, ?_, Below.trans h6 r3⟩
  rcases hd with ⟨g1, rfl, rfl⟩ | ⟨g1, rfl, rfl⟩
  · exact less_step0 h2 h5 g1
  · exact less_step1 h2 h5 g1 (by omega)
theorem less_end {la lb o : List Nat} {t : Nat} (da : Dig la) (ho : Dig o) (hl : o.length = la.length) (hle : val lb ≤ val la) (h : val o + val (lb.take la.length) = val (la.take la.length) + 65536 ^ la.length * t) : val o = val la - val lb := by
  have h1 := val_lt da
  have h2 := val_lt ho
  rw [hl] at h2
  have h3 := val_parts lb la.length
  have h4 : val (lb.drop la.length) = 0 := by
    rcases Nat.eq_zero_or_pos (val (lb.drop la.length)) with h | h
    · exact h
    · have : 65536 ^ la.length * 1 ≤ 65536 ^ la.length * val (lb.drop la.length) := Nat.mul_le_mul_left _ h
      omega
  rw [h4] at h3
  rw [List.take_of_length_le (Nat.le_refl la.length)] at h
  cases t with
  | zero => omega
  | succ t =>
    have : 65536 ^ la.length * 1 ≤ 65536 ^ la.length * (t + 1) := Nat.mul_le_mul_left _ (by omega)
    omega

theorem less_any (w : World) (sa sb : Value) (la lb : List Nat) (ha : Row w sa la) (hb : Row w sb lb) (da : Dig la) (db : Dig lb) (hM : la.length ≤ 1000) (hle : val lb ≤ val la) :
    Calls Try.prog 44 #[sa, sb] w (SomeRow w la.length (val la - val lb)) := by
  have CA := fun k w' (e : Bl w w') hk => digit_any w' sa la k (ha.bl e) hk
  have CB := fun k w' (e : Bl w w') hk => digit_any w' sb lb k (hb.bl e) hk
  have GA := Lib.hid (fun k => da.getD k)
  have GB := Lib.hid (fun k => db.getD k)
  have CA := Lib.hid CA; have CB := Lib.hid CB; rename_i CA0 CB0; clear CA0 CB0
  have FI := Lib.hid (show ∀ o : List Nat, ∀ t, Dig o → o.length = la.length → val o + val (lb.take la.length) = val (la.take la.length) + 65536 ^ la.length * t → val o = val la - val lb from
    fun o t h1 h2 h3 => less_end da h1 h2 hle h3)
  have P0 := Lib.hid (LessIs.start w la lb)
  have PS := Lib.hid (show ∀ wr k out t, LessIs w la lb wr k out t → k ≤ 5000 → ∀ d t', _ from fun wr k out t h hk d t' => h.step hk 35 da db d t')
  obtain ⟨A, c, rfl, h1, h2, -⟩ := ha
  obtain ⟨A', c', rfl, h1', h2', -⟩ := hb
  unfold maxLen at h2 h2'
  clear hle
  generalize la.length = na at *
  generalize lb.length = nb at *
  go_enter Try.func44, Try.ntmps44
  go_wp2
  go_loopw [5, 6, 7] (fun out c i wr => ∃ (k t : Nat) (a0 : Option Addr) (n0 c0 : Nat), k ≤ na ∧ i = .int .i64 k ∧ c = .int .i64 t ∧ out = .slice a0 n0 c0 ∧ LessIs w la lb wr k (.slice a0 n0 c0) t) (fun _ _ i _ => na - (intOf i).toNat)
  case atStart => exact ⟨0, 0, _, _, _, by omega, rfl, rfl, rfl, P0.out⟩
  case round =>
    obtain ⟨k, t, a0, n0, c0, hk, rfl, rfl, rfl, hp⟩ := hrel
    by_cases hlt : k < na
    · have hbl : Bl w wr := by obtain ⟨_, _, _, _, _, _, h⟩ := hp; exact h
      have hc1 : t ≤ 1 := by obtain ⟨_, _, _, _, h, _⟩ := hp; exact h
      have hst := PS.out wr k _ t hp (by omega)
      have ca := CA.out k wr hbl (by omega)
      have cb := CB.out k wr hbl (by omega)
      have ga := GA.out k; have gb := GB.out k
      generalize la.getD k 0 = x at *
      generalize lb.getD k 0 = y at *
      clear hp hbl
      by_cases hx : y + t ≤ x
      · obtain ⟨a, n', c9, w9, hrun, hnext⟩ := hst (x - (y + t)) 0 (.inl ⟨hx, rfl, rfl⟩)
        have e1 : ((x - (y + t) : Nat) : Int) = (x : Int) - y - t := by omega
        have hx2 : 0 ≤ (x : Int) - y - t := by omega
        rw [e1] at hrun
        have R := Lib.hid hrun; have NX := Lib.hid hnext
        clear e1 hrun hnext hst
        go_wp2_with (first
          | (go_at_call 39; first | (with_reducible refine ca.mono ?_) | (with_reducible refine cb.mono ?_)
             rintro e w' ⟨rfl, rfl⟩)
          | (at_builtin; refine wpList_append_run rfl (.tmp 29) (.tmp 31) 35 rfl rfl rfl R.out ?_))
        go_roundw
        case rel => exact ⟨k + 1, _, _, _, _, by omega, by go_num, rfl, rfl, NX.out⟩
        case measure => simp [intOf] <;> omega
      · obtain ⟨a, n', c9, w9, hrun, hnext⟩ := hst (x + 65536 - (y + t)) 1 (.inr ⟨by omega, rfl, rfl⟩)
        have e1 : ((x + 65536 - (y + t) : Nat) : Int) = (x : Int) - y - t + 65536 := by omega
        have hx2 : (x : Int) - y - t < 0 := by omega
        rw [e1] at hrun
        have R := Lib.hid hrun; have NX := Lib.hid hnext
        clear e1 hrun hnext hst
        go_wp2_with (first
          | (go_at_call 39; first | (with_reducible refine ca.mono ?_) | (with_reducible refine cb.mono ?_)
             rintro e w' ⟨rfl, rfl⟩)
          | (at_builtin; refine wpList_append_run rfl (.tmp 29) (.tmp 31) 35 rfl rfl rfl R.out ?_))
        go_roundw
        case rel => exact ⟨k + 1, _, _, _, _, by omega, by go_num, rfl, rfl, NX.out⟩
        case measure => simp [intOf] <;> omega
    · obtain rfl : k = na := by omega
      have F : SomeRow w k (val la - val lb) (.returned (.slice a0 n0 c0)) wr := by
        obtain ⟨o, h1, h2, h3, h4, h5, h6⟩ := hp
        exact ⟨_, o, rfl, Row.own h1, h3, h2, FI.out o t h3 h2 h5, h6⟩
      have FF := Lib.hid F
      clear F hp
      go_wp2
      go_ret
      exact FF.out
end Go.Proofs.Ytcbfognflngbaaa.Num
