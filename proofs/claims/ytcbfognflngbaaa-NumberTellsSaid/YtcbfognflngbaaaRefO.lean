/- Contract of the reference's Parse. -/
import Derived.Test.YtcbfognflngbaaaRefN
set_option linter.unusedVariables false
namespace Go.Proofs.Ytcbfognflngbaaa.Num
open Go.RowKit
def DI (L : List UInt8) (s : ByteArray) (k X : Nat) : Prop := dgo L 0 = dgo (s.data.toList.drop k) X
theorem DI.start {L : List UInt8} {s : ByteArray} {k : Nat} (h : L = s.data.toList.drop k) : DI L s k 0 := by unfold DI; rw [h]
theorem DI.step {L : List UInt8} {s : ByteArray} {k X : Nat} (h : DI L s k X) (hk : k < s.size) : DI L s (k + 1) (X * 10 + (s[k].toNat - 48)) := by
  unfold DI at *
  rw [h, drop_at s k hk, dgo]
theorem DI.ge {L : List UInt8} {s : ByteArray} {k X : Nat} (h : DI L s k X) : X ≤ dgo L 0 := by
  unfold DI at h; rw [h]; exact dgo_ge _ _
theorem DI.done {L : List UInt8} {s : ByteArray} {X : Nat} (h : DI L s s.size X) : dgo L 0 = X := by
  unfold DI at h
  rw [h, List.drop_of_length_le (by have : s.data.toList.length = s.size := len_toList s; omega)]
  rfl
theorem sm_up {z : Int} {j k : Nat} (h : Sm j z) (hjk : j ≤ k) : Sm k z := Nat.lt_of_lt_of_le h (Nat.pow_le_pow_right (by decide) hjk)
theorem sm_upneg {z : Int} {j k : Nat} (h : Sm j z) (hjk : j ≤ k) : Sm k (-z) := by
  have h2 := sm_up h hjk
  unfold Sm at *
  rwa [Int.natAbs_neg]
theorem int_good {w : World} {v : Value} {z : Int} (h : Calls Try.prog 21 #[v] w (SomeInt w z)) (hf : Fits z) : Calls Try.prog 21 #[v] w fun e w' => e = .returned (.tuple #[.int .i64 z, .bool true]) ∧ Bl w w' :=
  h.mono (by rintro e w' ⟨n, rfl, h1, h2⟩; rw [decide_eq_true hf, h1 hf]; exact ⟨rfl, h2⟩)
def BadInt (w : World) (e : Ending) (w' : World) : Prop := ∃ n : Int, e = .returned (.tuple #[.int .i64 n, .bool false]) ∧ Bl w w'
theorem int_bad {w : World} {v : Value} {z : Int} (h : Calls Try.prog 21 #[v] w (SomeInt w z)) (hf : ¬ Fits z) : Calls Try.prog 21 #[v] w (BadInt w) :=
  h.mono (by rintro e w' ⟨n, rfl, h1, h2⟩; rw [decide_eq_false hf]; exact ⟨n, rfl, h2⟩)
theorem sm_of10 {X : Nat} (h : X < K5) : Sm 100 ((X : Int) * 10) := by
  have e : (X : Int) * 10 = ((X * 10 : Nat) : Int) := by omega
  unfold Sm
  rw [e, Int.natAbs_natCast]
  have h1 : 10 * K5 ≤ 65536 ^ 6 := by decide
  have h2 : (65536 : Nat) ^ 6 ≤ 65536 ^ 100 := Nat.pow_le_pow_right (by decide) (by decide)
  omega
theorem sm_digit {n : Nat} (h : n < 256) : Sm 100 ((n : Int) - 48) := by
  have h1 : 256 ≤ 4 * K5 := by decide
  apply sm_of_neg
  omega
theorem pend_huge {d : List UInt8} {b : Bool} {X : Nat} (h : X ≤ dgo d 0) (hX : K5 ≤ X) : pend d b = (0, false) := by
  apply pend_far
  have h5 : (18446744073709551616 : Nat) < K5 := by decide
  generalize dgo d 0 = m at *
  cases b <;> simp [sg, Fits] <;> omega
end Go.Proofs.Ytcbfognflngbaaa.Num
