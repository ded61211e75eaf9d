/- LInits3 -/
import Derived.Test.YtebdknkgplonmaaGreatDoorLInitsB
set_option linter.unusedVariables false
set_option linter.unusedSimpArgs false
namespace Go.Proofs.YtebdknkgplonmaaGreatDoor.W.E
section
set_option maxRecDepth 100000
open Go.RowKit
theorem rInits_45 (x0 : Int) (x1 : Int) (x2 : Int) : RInits x0 x1 x2 1 0 1 3 0 [(25, 3), (29, 4), (36, 0), (301, 1), (801, 2)] := by delta RInits Ran; kernel_rfl
theorem rInits_46 (x0 : Int) (x1 : Int) (x2 : Int) : RInits x0 x1 x2 1 0 1 3 1 [(25, 3), (29, 4), (36, 0), (301, 1), (801, 2)] := by delta RInits Ran; kernel_rfl
theorem rInits_47 (x0 : Int) (x1 : Int) (x2 : Int) : RInits x0 x1 x2 1 0 1 3 2 [(25, 3), (29, 4), (36, 0), (301, 1), (801, 2)] := by delta RInits Ran; kernel_rfl
theorem rInits_48 (x0 : Int) (x1 : Int) (x2 : Int) : RInits x0 x1 x2 1 0 1 3 3 [(25, 3), (29, 4), (36, 0), (301, 1), (755, 2)] := by delta RInits Ran; kernel_rfl
theorem rInits_49 (x0 : Int) (x1 : Int) (x2 : Int) : RInits x0 x1 x2 1 0 1 3 4 [(25, 3), (29, 4), (36, 0), (301, 1), (805, 2)] := by delta RInits Ran; kernel_rfl
theorem rInits_50 (x0 : Int) (x1 : Int) (x2 : Int) : RInits x0 x1 x2 1 0 1 4 0 [(25, 3), (29, 4), (36, 0), (301, 1), (816, 2)] := by delta RInits Ran; kernel_rfl
theorem rInits_51 (x0 : Int) (x1 : Int) (x2 : Int) : RInits x0 x1 x2 1 0 1 4 1 [(25, 3), (29, 4), (36, 0), (301, 1), (816, 2)] := by delta RInits Ran; kernel_rfl
theorem rInits_52 (x0 : Int) (x1 : Int) (x2 : Int) : RInits x0 x1 x2 1 0 1 4 2 [(25, 3), (29, 4), (36, 0), (301, 1), (816, 2)] := by delta RInits Ran; kernel_rfl
theorem rInits_53 (x0 : Int) (x1 : Int) (x2 : Int) : RInits x0 x1 x2 1 0 1 4 3 [(25, 3), (29, 4), (36, 0), (301, 1), (816, 2)] := by delta RInits Ran; kernel_rfl
theorem rInits_54 (x0 : Int) (x1 : Int) (x2 : Int) : RInits x0 x1 x2 1 0 1 4 4 [(25, 3), (29, 4), (36, 0), (301, 1), (770, 2)] := by delta RInits Ran; kernel_rfl
theorem rInits_55 (x0 : Int) (x1 : Int) (x2 : Int) : RInits x0 x1 x2 1 0 1 5 0 [(25, 3), (29, 4), (36, 0), (301, 1), (831, 2)] := by delta RInits Ran; kernel_rfl
theorem rInits_56 (x0 : Int) (x1 : Int) (x2 : Int) : RInits x0 x1 x2 1 0 1 5 1 [(25, 3), (29, 4), (36, 0), (301, 1), (831, 2)] := by delta RInits Ran; kernel_rfl
theorem rInits_57 (x0 : Int) (x1 : Int) (x2 : Int) : RInits x0 x1 x2 1 0 1 5 2 [(25, 3), (29, 4), (36, 0), (301, 1), (831, 2)] := by delta RInits Ran; kernel_rfl
theorem rInits_58 (x0 : Int) (x1 : Int) (x2 : Int) : RInits x0 x1 x2 1 0 1 5 3 [(25, 3), (29, 4), (36, 0), (301, 1), (831, 2)] := by delta RInits Ran; kernel_rfl
theorem rInits_59 (x0 : Int) (x1 : Int) (x2 : Int) : RInits x0 x1 x2 1 0 1 5 4 [(25, 3), (29, 4), (36, 0), (301, 1), (831, 2)] := by delta RInits Ran; kernel_rfl
end
end Go.Proofs.YtebdknkgplonmaaGreatDoor.W.E
