/- Contract of number.Parse. -/
import Derived.Test.YtcbfognflngbaaaNumA
set_option linter.unusedVariables false
namespace Go.Proofs.Ytcbfognflngbaaa.Num
open Go.RowKit
def pgo : List UInt8 → Nat → Option Nat
  | [], m => some m
  | c :: cs, m => if c.toNat < 48 ∨ 57 < c.toNat ∨ 922337203685477580 < m then none else pgo cs (m * 10 + (c.toNat - 48))
def pend (d : List UInt8) (below : Bool) : Int × Bool :=
  match pgo d 0 with
  | none => (0, false)
  | some m => ((chk (sgn m below)).1, (chk (sgn m below)).2 == eNone && decide (0 < d.length))
def parseS (l : List UInt8) : Int × Bool :=
  match l with
  | 45 :: d => pend d true
  | d => pend d false
abbrev intB (n : Int) (b : Bool) : Ending := .returned (.tuple #[.int .i64 n, .bool b])
theorem pgo_stop {c : UInt8} {cs : List UInt8} {m : Nat} (h : c.toNat < 48 ∨ 57 < c.toNat ∨ 922337203685477580 < m) : pgo (c :: cs) m = none := by rw [pgo, if_pos h]
theorem pgo_step {c : UInt8} {cs : List UInt8} {m : Nat} (h : ¬ (c.toNat < 48 ∨ 57 < c.toNat ∨ 922337203685477580 < m)) : pgo (c :: cs) m = pgo cs (m * 10 + (c.toNat - 48)) := by rw [pgo, if_neg h]
theorem drop_at (d : ByteArray) (k : Nat) (h : k < d.size) : d.data.toList.drop k = d[k] :: d.data.toList.drop (k + 1) := by
  rw [List.drop_eq_getElem_cons (by simpa using h)]; rfl
theorem pend_none {d : List UInt8} {b : Bool} (h : pgo d 0 = none) : pend d b = (0, false) := by unfold pend; rw [h]
theorem pend_some {d : List UInt8} {b : Bool} {m : Nat} (h : pgo d 0 = some m) : pend d b = ((chk (sgn m b)).1, (chk (sgn m b)).2 == eNone && decide (0 < d.length)) := by unfold pend; rw [h]
theorem len_toList (d : ByteArray) : d.data.toList.length = d.size := by simp

theorem parse_empty (s : ByteArray) (w : World) (h1 : s.size = 0) :
    Calls Try.prog 17 #[.string s] w fun e w' => e = intB 0 false ∧ w = w' := by
  go_enter Try.func17, Try.ntmps17
  go_wp2
  refine wp_loop_once ?_
  have C := fun w => signed_any 0 false w (by omega)
  rw [chk_ok (by decide), show ((0 : Nat) : Int) = 0 from rfl, show sgn 0 false = 0 from rfl] at C
  go_wp2_with (go_at_call 35; ((with_reducible refine (C _).mono ?_)); rintro e w' ⟨rfl, rfl⟩)
  go_ret2
  exact ⟨rfl, rfl⟩

theorem parse_plain (s : ByteArray) (w : World) (hs : s.size ≤ maxLen) (h1 : 0 < s.size) (h2 : ((s[0].toNat : Int) == 45) = false) :
    Calls Try.prog 17 #[.string s] w fun e w' => e = intB (pend s.data.toList false).1 (pend s.data.toList false).2 ∧ w = w' := by
  unfold maxLen at hs
  all_goals
    go_enter Try.func17, Try.ntmps17
    go_wp2
  all_goals
    go_loop [6, 25] (fun mm i => ∃ k m : Nat, k ≤ s.size ∧ i = .int .i64 k ∧ mm = .int .u64 m ∧ pgo s.data.toList 0 = pgo (s.data.toList.drop k) m ∧ m ≤ 9223372036854775809) (fun _ i => s.size - (intOf i).toNat)
    case atStart => exact ⟨0, 0, by omega, rfl, rfl, by simp, by omega⟩
    case round =>
      obtain ⟨k, m, hk, rfl, rfl, hp, hm⟩ := hrel
      by_cases hlt : k < s.size
      · have hd := drop_at s k hlt
        rw [hd] at hp; clear hd
        have hc8 : s[k].toNat < 256 := UInt8.toNat_lt _
        by_cases hc : s[k].toNat < 48 ∨ 57 < s[k].toNat ∨ 922337203685477580 < m
        · have F := Lib.hid (pend_none (b := false) (hp.trans (pgo_stop hc))); clear hp
          by_cases g1 : s[k].toNat < 48
          · clear hc
            go_wp2
            go_ret2
            exact ⟨by rw [F.out]; rfl, rfl⟩
          · have b1 : decide ((s[k].toNat : Int) < 48) = false := decide_eq_false (by omega)
            by_cases g2 : 57 < s[k].toNat
            · clear hc
              go_wp2
              go_ret2
              exact ⟨by rw [F.out]; rfl, rfl⟩
            · have b2 : decide (57 < (s[k].toNat : Int)) = false := decide_eq_false (by omega)
              have g3 : 922337203685477580 < m := by omega
              clear hc
              go_wp2
              go_ret2
              exact ⟨by rw [F.out]; rfl, rfl⟩
        · have P := Lib.hid (hp.trans (pgo_step hc)); clear hp
          have g1 : 48 ≤ s[k].toNat := by omega
          have g2 : s[k].toNat ≤ 57 := by omega
          have g3 : m ≤ 922337203685477580 := by omega
          clear hc
          go_wp2
          go_round
          case rel => exact ⟨k + 1, m * 10 + (s[k].toNat - 48), by omega, by go_num, by congr 1; omega, P.out, by omega⟩
          case measure => simp [intOf]; omega
      · have : k = s.size := by omega
        subst this
        rw [List.drop_of_length_le (by simp)] at hp
        have F := pend_some (b := false) (m := m) hp
        clear hp
        have C := fun w => signed_any m false w (by omega)
        have hl := len_toList s
        have hp0 : decide (0 < s.data.toList.length) = decide (0 < s.size) := by rw [hl]
        clear hl
        rw [hp0] at F; clear hp0
        by_cases hf : Fits (sgn m false)
        · rw [chk_ok hf] at C F
          generalize sgn m false = x at *
          clear hf hm hk
          by_cases hz : 0 < s.size
          · rw [decide_eq_true hz] at F
            have FF := Lib.hid F; clear F
            go_wp2_with (go_at_call 35; ((with_reducible refine (C _).mono ?_)); rintro e w' ⟨rfl, rfl⟩)
            go_ret2
            exact ⟨by rw [FF.out]; rfl, rfl⟩
          · exact absurd h1 hz
        · rw [chk_no hf] at C F
          clear hf hm hk
          have FF := Lib.hid F; clear F
          go_wp2_with (go_at_call 35; ((with_reducible refine (C _).mono ?_)); rintro e w' ⟨rfl, rfl⟩)
          go_ret2
          exact ⟨by rw [FF.out]; rfl, rfl⟩

theorem parse_below (s : ByteArray) (w : World) (hs : s.size ≤ maxLen) (h1 : 0 < s.size) (h2 : (s[0].toNat : Int) = 45) :
    Calls Try.prog 17 #[.string s] w fun e w' => e = intB (pend s.data.toList.tail true).1 (pend s.data.toList.tail true).2 ∧ w = w' := by
  unfold maxLen at hs
  have h3 : ((s[0].toNat : Int) == 45) = true := by simpa using h2
  clear h2
  obtain ⟨d, hd⟩ : ∃ d, d = s.extract 1 s.size := ⟨_, rfl⟩
  have e1 : s.data.toList.tail = d.data.toList := by rw [hd]; simp [List.drop_one, List.take_of_length_le]
  have e2 : s.size - 1 = d.size := by rw [hd]; simp
  rw [e1]; clear e1
  have hds : d.size ≤ 9223372036854775807 := by omega
  have E := Lib.hid hd; have E2 := Lib.hid e2; clear hd e2
  go_enter Try.func17, Try.ntmps17
  go_wp2
  rw [← E.out, E2.out]
  clear E E2
  all_goals
    go_loop [6, 25] (fun mm i => ∃ k m : Nat, k ≤ d.size ∧ i = .int .i64 k ∧ mm = .int .u64 m ∧ pgo d.data.toList 0 = pgo (d.data.toList.drop k) m ∧ m ≤ 9223372036854775809) (fun _ i => d.size - (intOf i).toNat)
    case atStart => exact ⟨0, 0, by omega, rfl, rfl, by simp, by omega⟩
    case round =>
      obtain ⟨k, m, hk, rfl, rfl, hp, hm⟩ := hrel
      by_cases hlt : k < d.size
      · have hd := drop_at d k hlt
        rw [hd] at hp; clear hd
        have hc8 : d[k].toNat < 256 := UInt8.toNat_lt _
        by_cases hc : d[k].toNat < 48 ∨ 57 < d[k].toNat ∨ 922337203685477580 < m
        · have F := Lib.hid (pend_none (b := true) (hp.trans (pgo_stop hc))); clear hp
          by_cases g1 : d[k].toNat < 48
          · clear hc
            go_wp2
            go_ret2
            exact ⟨by rw [F.out]; rfl, rfl⟩
          · have b1 : decide ((d[k].toNat : Int) < 48) = false := decide_eq_false (by omega)
            by_cases g2 : 57 < d[k].toNat
            · clear hc
              go_wp2
              go_ret2
              exact ⟨by rw [F.out]; rfl, rfl⟩
            · have b2 : decide (57 < (d[k].toNat : Int)) = false := decide_eq_false (by omega)
              have g3 : 922337203685477580 < m := by omega
              clear hc
              go_wp2
              go_ret2
              exact ⟨by rw [F.out]; rfl, rfl⟩
        · have P := Lib.hid (hp.trans (pgo_step hc)); clear hp
          have g1 : 48 ≤ d[k].toNat := by omega
          have g2 : d[k].toNat ≤ 57 := by omega
          have g3 : m ≤ 922337203685477580 := by omega
          clear hc
          go_wp2
          go_round
          case rel => exact ⟨k + 1, m * 10 + (d[k].toNat - 48), by omega, by go_num, by congr 1; omega, P.out, by omega⟩
          case measure => simp [intOf]; omega
      · have : k = d.size := by omega
        subst this
        rw [List.drop_of_length_le (by simp)] at hp
        have F := pend_some (b := true) (m := m) hp
        clear hp
        have C := fun w => signed_any m true w (by omega)
        have hl := len_toList d
        have hp0 : decide (0 < d.data.toList.length) = decide (0 < d.size) := by rw [hl]
        clear hl
        rw [hp0] at F; clear hp0
        by_cases hf : Fits (sgn m true)
        · rw [chk_ok hf] at C F
          generalize sgn m true = x at *
          clear hf hm hk
          by_cases hz : 0 < d.size
          · rw [decide_eq_true hz] at F
            have FF := Lib.hid F; clear F
            go_wp2_with (go_at_call 35; ((with_reducible refine (C _).mono ?_)); rintro e w' ⟨rfl, rfl⟩)
            go_ret2
            exact ⟨by rw [FF.out]; rfl, rfl⟩
          · rw [decide_eq_false hz] at F
            have FF := Lib.hid F; clear F
            go_wp2_with (go_at_call 35; ((with_reducible refine (C _).mono ?_)); rintro e w' ⟨rfl, rfl⟩)
            go_ret2
            exact ⟨by rw [FF.out]; rfl, rfl⟩
        · rw [chk_no hf] at C F
          clear hf hm hk
          have FF := Lib.hid F; clear F
          go_wp2_with (go_at_call 35; ((with_reducible refine (C _).mono ?_)); rintro e w' ⟨rfl, rfl⟩)
          go_ret2
          exact ⟨by rw [FF.out]; rfl, rfl⟩

theorem parseS_below {d : List UInt8} : parseS (45 :: d) = pend d true := rfl
theorem parseS_plain {c : UInt8} {d : List UInt8} (h : c ≠ 45) : parseS (c :: d) = pend (c :: d) false := by
  unfold parseS
  split
  · rename_i h'; injection h' with h1 _; exact absurd h1 h
  · rfl

theorem parse_any (s : ByteArray) (w : World) (hs : s.size ≤ maxLen) :
    Calls Try.prog 17 #[.string s] w fun e w' => e = intB (parseS s.data.toList).1 (parseS s.data.toList).2 ∧ w = w' := by
  by_cases h0 : s.size = 0
  · have e : s.data.toList = [] := by
      have := len_toList s
      rw [h0] at this
      exact List.length_eq_zero_iff.1 this
    rw [e]
    exact parse_empty s w h0
  · have h1 : 0 < s.size := by omega
    have e := drop_at s 0 h1
    rw [List.drop_zero] at e
    by_cases h2 : s[0] = 45
    · have := parse_below s w hs h1 (by rw [h2]; rfl)
      rw [e, h2, parseS_below]
      rw [e] at this
      exact this
    · have := parse_plain s w hs h1 (by
        have : (s[0].toNat : Int) ≠ 45 := fun h => h2 (UInt8.toNat_inj.1 (by have : s[0].toNat = 45 := by omega
                                                                             exact this))
        simpa using this)
      rw [e, parseS_plain h2, ← e]
      exact this
end Go.Proofs.Ytcbfognflngbaaa.Num
