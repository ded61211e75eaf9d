/- LNothing3 -/
import Derived.Test.YtebdknkgplonmaaGreatDoorLNothingB
set_option linter.unusedVariables false
set_option linter.unusedSimpArgs false
namespace Go.Proofs.YtebdknkgplonmaaGreatDoor.W.E
section
set_option maxRecDepth 100000
open Go.RowKit
theorem rNo3A (m : Nat) (j : Nat) (n : Int) (s : List UInt8) : RNo (Int.ofNat (m + 38)) (Int.ofNat (j + 6)) n s := by delta RNo Ran; kernel_rfl
theorem rNo3B (j : Nat) (n : Int) (s : List UInt8) : RNo 0 (Int.ofNat (j + 6)) n s := by delta RNo Ran; kernel_rfl
theorem rNo3C (m : Nat) (j : Nat) (n : Int) (s : List UInt8) : RNo (Int.negSucc m) (Int.ofNat (j + 6)) n s := by delta RNo Ran; kernel_rfl
theorem rNo3D (x : Int) (m : Nat) (j : Nat) (n : Int) (s : List UInt8) : RNoD x (Int.ofNat (j + 6)) n s m := by delta RNoD Ran; kernel_rfl
end
end Go.Proofs.YtebdknkgplonmaaGreatDoor.W.E
