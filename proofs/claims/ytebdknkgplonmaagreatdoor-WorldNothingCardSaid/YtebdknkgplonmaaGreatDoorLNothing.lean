/- LNothing -/
import Derived.Test.YtebdknkgplonmaaGreatDoorLNothing0
import Derived.Test.YtebdknkgplonmaaGreatDoorLNothing1
import Derived.Test.YtebdknkgplonmaaGreatDoorLNothing2
import Derived.Test.YtebdknkgplonmaaGreatDoorLNothing3
import Derived.Test.YtebdknkgplonmaaGreatDoorLNothing4
import Derived.IntWalk
set_option linter.unusedVariables false
set_option linter.unusedSimpArgs false
namespace Go.Proofs.YtebdknkgplonmaaGreatDoor.W.E
section
open Go.RowKit
abbrev uNo (x k n : Int) (s : List UInt8) : List Value := [.int .i64 x, .agg #[.int .i64 k, .int .i64 n, .string (bs s)]]
theorem noVR (x k n : Int) (s : List UInt8) : VRs (fun _ => none) (vNo x k n s) (uNo x k n s) := .cons (.int _ _) (.cons (.agg (.cons (.int _ _) (.cons (.int _ _) (.cons (.str _) .nil)))) .nil)
theorem noL {x k n : Int} {s : List UInt8} (h : RNo x k n s) : LawT 6 (uNo x k n s) := Ran.law h tab_nil (noVR x k n s)
theorem noLD {x k n : Int} {s : List UInt8} {m : Nat} (h : RNoD x k n s m) (h1 : 1 ≤ x) (h2 : x ≤ 37) (hm : Int.negSucc m = -x) : LawT 6 (uNo x k n s) :=
 Ran.law h (fun q hq => by
  simp only [List.mem_cons, List.not_mem_nil, or_false] at hq
  rcases hq with rfl | rfl | rfl
  ·show SV.bool _ = SV.bool _; rw [ltI_eq]; simp; omega
  ·show SV.bool _ = SV.bool _; rw [ltI_eq]; simp; omega
  ·exact congrArg (SV.int .i64) ((IntWalk.i64_in (0 - x) ⟨by omega, by omega⟩).trans (by omega))) (noVR x k n s)
theorem opsNo (x : Int) : (∃ m : Nat, x = Int.ofNat (m + 38)) ∨ x = 0 ∨ (∃ m : Nat, x = Int.negSucc m) ∨ (1 ≤ x ∧ x ≤ 37 ∧ ∃ m : Nat, Int.negSucc m = -x) := by
 by_cases h1 : 38 ≤ x
 ·exact .inl ⟨(x - 38).toNat, by simp only [Int.ofNat_eq_natCast]; omega⟩
 ·by_cases h2 : x = 0
  ·exact .inr (.inl h2)
  ·by_cases h3 : x < 0
   ·exact .inr (.inr (.inl ⟨(-x - 1).toNat, by rw [Int.negSucc_eq]; omega⟩))
   ·exact .inr (.inr (.inr ⟨by omega, by omega, (x - 1).toNat, by rw [Int.negSucc_eq]; omega⟩))
theorem nothing_any (x k n : Int) (s : List UInt8) : LawT 6 (uNo x k n s) := by
 by_cases h3 : k = 3
 ·subst h3; exact noL (rNoE3 x n s)
 by_cases h4 : k = 4
 ·subst h4; exact noL (rNoE4 x n s)
 by_cases h5 : k = 5
 ·subst h5; exact noL (rNoE5 x n s)
 have hk : k = 0 ∨ k = 1 ∨ k = 2 ∨ (∃ j : Nat, k = Int.ofNat (j + 6)) ∨ (∃ j : Nat, k = Int.negSucc j) := by
  by_cases h6 : 6 ≤ k
  ·exact .inr (.inr (.inr (.inl ⟨(k - 6).toNat, by simp only [Int.ofNat_eq_natCast]; omega⟩)))
  ·by_cases h7 : k < 0
   ·exact .inr (.inr (.inr (.inr ⟨(-k - 1).toNat, by rw [Int.negSucc_eq]; omega⟩)))
   ·omega
 rcases hk with rfl | rfl | rfl | ⟨j, rfl⟩ | ⟨j, rfl⟩
 ·rcases opsNo x with ⟨m, rfl⟩ | rfl | ⟨m, rfl⟩ | ⟨g1, g2, m, g3⟩
  ·exact noL (rNo0A m n s)
  ·exact noL (rNo0B n s)
  ·exact noL (rNo0C m n s)
  ·exact noLD (rNo0D x m n s) g1 g2 g3
 ·rcases opsNo x with ⟨m, rfl⟩ | rfl | ⟨m, rfl⟩ | ⟨g1, g2, m, g3⟩
  ·exact noL (rNo1A m n s)
  ·exact noL (rNo1B n s)
  ·exact noL (rNo1C m n s)
  ·exact noLD (rNo1D x m n s) g1 g2 g3
 ·rcases opsNo x with ⟨m, rfl⟩ | rfl | ⟨m, rfl⟩ | ⟨g1, g2, m, g3⟩
  ·exact noL (rNo2A m n s)
  ·exact noL (rNo2B n s)
  ·exact noL (rNo2C m n s)
  ·exact noLD (rNo2D x m n s) g1 g2 g3
 ·rcases opsNo x with ⟨m, rfl⟩ | rfl | ⟨m, rfl⟩ | ⟨g1, g2, m, g3⟩
  ·exact noL (rNo3A m j n s)
  ·exact noL (rNo3B j n s)
  ·exact noL (rNo3C m j n s)
  ·exact noLD (rNo3D x m j n s) g1 g2 g3
 ·rcases opsNo x with ⟨m, rfl⟩ | rfl | ⟨m, rfl⟩ | ⟨g1, g2, m, g3⟩
  ·exact noL (rNo4A m j n s)
  ·exact noL (rNo4B j n s)
  ·exact noL (rNo4C m j n s)
  ·exact noLD (rNo4D x m j n s) g1 g2 g3
end
end Go.Proofs.YtebdknkgplonmaaGreatDoor.W.E
