/- Contracts of number's functions over ints: add, sub, magnitude, signed, mul, parts, div, mod. -/
import Derived.Test.YtcbfognflngbaaaRows
import Derived.Test.YtcbfognflngbaaaShelf
import Derived.Test.YtcbfognflngbaaaNumP
import Derived.WalkKit
import Derived.WalkLawsBesides
import Derived.Handy
import Derived.Deep.QuietTactic
import Derived.BigQuiet
import Derived.Lib.Hide
set_option linter.unusedVariables false
namespace Go.Proofs.Ytcbfognflngbaaa.Num
open Go.RowKit
theorem ret_int {k : IntKind} {a b : Int} (h : a = b) : Ending.returned (.int k a) = .returned (.int k b) := by rw [h]
abbrev two (n : Int) (s : ByteArray) : Ending := .returned (.tuple #[.int .i64 n, .string s])

theorem two_eq {a b : Int} (s : ByteArray) (h : a = b) : two a s = two b s := by rw [h]

theorem add_any (a b : Int) (w : World) (ha : Fits a) (hb : Fits b) :
    Calls Try.prog 25 #[.int .i64 a, .int .i64 b] w fun e w' => e = two (chk (a + b)).1 (chk (a + b)).2 ∧ w = w' := by
  by_cases hf : Fits (a + b)
  · rw [chk_ok hf]
    obtain ⟨h1, h2⟩ := hf; obtain ⟨h3, h4⟩ := ha; obtain ⟨h5, h6⟩ := hb
    by_cases hb0 : 0 ≤ b
    · go_enter Try.func25, Try.ntmps25
      go_wp2
      go_ret2
      exact ⟨rfl, rfl⟩
    · go_enter Try.func25, Try.ntmps25
      go_wp2
      go_ret2
      exact ⟨rfl, rfl⟩
  · rw [chk_no hf]
    have hn := not_fits hf
    obtain ⟨h3, h4⟩ := ha; obtain ⟨h5, h6⟩ := hb
    by_cases hb0 : 0 ≤ b
    · have hw : wrap64 (a + b) < a := by unfold wrap64; omega
      clear hf hn
      go_enter Try.func25, Try.ntmps25
      go_wp2
      go_ret2
      exact ⟨rfl, rfl⟩
    · have hw : a < wrap64 (a + b) := by unfold wrap64; omega
      clear hf hn
      go_enter Try.func25, Try.ntmps25
      go_wp2
      go_ret2
      exact ⟨rfl, rfl⟩

theorem sub_any (a b : Int) (w : World) (ha : Fits a) (hb : Fits b) :
    Calls Try.prog 26 #[.int .i64 a, .int .i64 b] w fun e w' => e = two (chk (a - b)).1 (chk (a - b)).2 ∧ w = w' := by
  by_cases hf : Fits (a - b)
  · rw [chk_ok hf]
    obtain ⟨h1, h2⟩ := hf; obtain ⟨h3, h4⟩ := ha; obtain ⟨h5, h6⟩ := hb
    by_cases hb0 : 0 ≤ b
    · go_enter Try.func26, Try.ntmps26
      go_wp2
      go_ret2
      exact ⟨rfl, rfl⟩
    · go_enter Try.func26, Try.ntmps26
      go_wp2
      go_ret2
      exact ⟨rfl, rfl⟩
  · rw [chk_no hf]
    have hn := not_fits hf
    obtain ⟨h3, h4⟩ := ha; obtain ⟨h5, h6⟩ := hb
    by_cases hb0 : 0 ≤ b
    · have hw : a < wrap64 (a - b) := by unfold wrap64; omega
      clear hf hn
      go_enter Try.func26, Try.ntmps26
      go_wp2
      go_ret2
      exact ⟨rfl, rfl⟩
    · have hw : wrap64 (a - b) < a := by unfold wrap64; omega
      clear hf hn
      go_enter Try.func26, Try.ntmps26
      go_wp2
      go_ret2
      exact ⟨rfl, rfl⟩

theorem magnitude_any (a : Int) (w : World) (ha : Fits a) :
    Calls Try.prog 37 #[.int .i64 a] w fun e w' => e = .returned (.int .u64 (a.natAbs : Nat)) ∧ w = w' := by
  obtain ⟨h3, h4⟩ := ha
  by_cases h0 : a < 0
  · have e1 : IntKind.u64.wrap a = a + 18446744073709551616 := by rw [IntKind.wrap_u64]; omega
    have e2 : ((a.natAbs : Nat) : Int) = IntKind.u64.wrap (-(IntKind.u64.wrap a)) := by rw [e1, IntKind.wrap_u64]; omega
    clear e1
    have E := Lib.hid e2; clear e2
    go_enter Try.func37, Try.ntmps37
    go_wp2
    go_ret
    exact ⟨ret_int E.out.symm, rfl⟩
  · have E := Lib.hid (show ((a.natAbs : Nat) : Int) = a by omega)
    go_enter Try.func37, Try.ntmps37
    go_wp2
    go_ret
    exact ⟨ret_int E.out.symm, rfl⟩

def sgn (m : Nat) (below : Bool) : Int := if below then -(m : Int) else m
theorem signed_any (m : Nat) (below : Bool) (w : World) (hm : m < 18446744073709551616) :
    Calls Try.prog 35 #[.int .u64 (m : Nat), .bool below] w fun e w' => e = two (chk (sgn m below)).1 (chk (sgn m below)).2 ∧ w = w' := by
  cases below
  · by_cases h : m ≤ 9223372036854775807
    · rw [chk_ok (by unfold Fits sgn; simp; omega)]
      go_enter Try.func35, Try.ntmps35
      go_wp2
      go_ret2
      exact ⟨rfl, rfl⟩
    · rw [chk_no (by unfold Fits sgn; simp; omega)]
      go_enter Try.func35, Try.ntmps35
      go_wp2
      go_ret2
      exact ⟨rfl, rfl⟩
  · by_cases h : m ≤ 9223372036854775808
    · rw [chk_ok (by unfold Fits sgn; simp; omega)]
      have E := Lib.hid (show wrap64 (IntKind.u64.wrap (-(m : Int))) = sgn m true by rw [IntKind.wrap_u64]; unfold sgn wrap64; simp; omega)
      go_enter Try.func35, Try.ntmps35
      go_wp2
      go_ret2
      exact ⟨two_eq _ E.out, rfl⟩
    · rw [chk_no (by unfold Fits sgn; simp; omega)]
      go_enter Try.func35, Try.ntmps35
      go_wp2
      go_ret2
      exact ⟨rfl, rfl⟩
end Go.Proofs.Ytcbfognflngbaaa.Num
