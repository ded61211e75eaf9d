/- LNothing2 -/
import Derived.Test.YtebdknkgplonmaaGreatDoorLNothingB
set_option linter.unusedVariables false
set_option linter.unusedSimpArgs false
namespace Go.Proofs.YtebdknkgplonmaaGreatDoor.W.E
section
set_option maxRecDepth 100000
open Go.RowKit
theorem rNo2A (m : Nat) (n : Int) (s : List UInt8) : RNo (Int.ofNat (m + 38)) 2 n s := by delta RNo Ran; kernel_rfl
theorem rNo2B (n : Int) (s : List UInt8) : RNo 0 2 n s := by delta RNo Ran; kernel_rfl
theorem rNo2C (m : Nat) (n : Int) (s : List UInt8) : RNo (Int.negSucc m) 2 n s := by delta RNo Ran; kernel_rfl
theorem rNo2D (x : Int) (m : Nat) (n : Int) (s : List UInt8) : RNoD x 2 n s m := by delta RNoD Ran; kernel_rfl
end
end Go.Proofs.YtebdknkgplonmaaGreatDoor.W.E
