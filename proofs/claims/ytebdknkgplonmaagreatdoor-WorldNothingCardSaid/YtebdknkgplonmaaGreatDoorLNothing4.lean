/- LNothing4 -/
import Derived.Test.YtebdknkgplonmaaGreatDoorLNothingB
set_option linter.unusedVariables false
set_option linter.unusedSimpArgs false
namespace Go.Proofs.YtebdknkgplonmaaGreatDoor.W.E
section
set_option maxRecDepth 100000
open Go.RowKit
theorem rNo4A (m : Nat) (j : Nat) (n : Int) (s : List UInt8) : RNo (Int.ofNat (m + 38)) (Int.negSucc j) n s := by delta RNo Ran; kernel_rfl
theorem rNo4B (j : Nat) (n : Int) (s : List UInt8) : RNo 0 (Int.negSucc j) n s := by delta RNo Ran; kernel_rfl
theorem rNo4C (m : Nat) (j : Nat) (n : Int) (s : List UInt8) : RNo (Int.negSucc m) (Int.negSucc j) n s := by delta RNo Ran; kernel_rfl
theorem rNo4D (x : Int) (m : Nat) (j : Nat) (n : Int) (s : List UInt8) : RNoD x (Int.negSucc j) n s m := by delta RNoD Ran; kernel_rfl
end
end Go.Proofs.YtebdknkgplonmaaGreatDoor.W.E
