/- LNothing0 -/
import Derived.Test.YtebdknkgplonmaaGreatDoorLNothingB
set_option linter.unusedVariables false
set_option linter.unusedSimpArgs false
namespace Go.Proofs.YtebdknkgplonmaaGreatDoor.W.E
section
set_option maxRecDepth 100000
open Go.RowKit
theorem rNo0A (m : Nat) (n : Int) (s : List UInt8) : RNo (Int.ofNat (m + 38)) 0 n s := by delta RNo Ran; kernel_rfl
theorem rNo0B (n : Int) (s : List UInt8) : RNo 0 0 n s := by delta RNo Ran; kernel_rfl
theorem rNo0C (m : Nat) (n : Int) (s : List UInt8) : RNo (Int.negSucc m) 0 n s := by delta RNo Ran; kernel_rfl
theorem rNo0D (x : Int) (m : Nat) (n : Int) (s : List UInt8) : RNoD x 0 n s m := by delta RNoD Ran; kernel_rfl
theorem rNoE3 (x n : Int) (s : List UInt8) : RNo x 3 n s := by delta RNo Ran; kernel_rfl
theorem rNoE4 (x n : Int) (s : List UInt8) : RNo x 4 n s := by delta RNo Ran; kernel_rfl
theorem rNoE5 (x n : Int) (s : List UInt8) : RNo x 5 n s := by delta RNo Ran; kernel_rfl
end
end Go.Proofs.YtebdknkgplonmaaGreatDoor.W.E
