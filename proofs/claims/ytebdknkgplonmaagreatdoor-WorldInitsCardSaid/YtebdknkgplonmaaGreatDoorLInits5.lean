/- LInits5 -/
import Derived.Test.YtebdknkgplonmaaGreatDoorLInitsB
set_option linter.unusedVariables false
set_option linter.unusedSimpArgs false
namespace Go.Proofs.YtebdknkgplonmaaGreatDoor.W.E
section
set_option maxRecDepth 100000
open Go.RowKit
theorem rInits_75 (x0 : Int) (x1 : Int) (x2 : Int) : RInits x0 x1 x2 0 1 2 3 0 [(25, 3), (29, 4), (36, 0), (167, 1), (801, 2)] := by delta RInits Ran; kernel_rfl
theorem rInits_76 (x0 : Int) (x1 : Int) (x2 : Int) : RInits x0 x1 x2 0 1 2 3 1 [(25, 3), (29, 4), (36, 0), (167, 1), (801, 2)] := by delta RInits Ran; kernel_rfl
theorem rInits_77 (x0 : Int) (x1 : Int) (x2 : Int) : RInits x0 x1 x2 0 1 2 3 2 [(25, 3), (29, 4), (36, 0), (167, 1), (801, 2)] := by delta RInits Ran; kernel_rfl
theorem rInits_78 (x0 : Int) (x1 : Int) (x2 : Int) : RInits x0 x1 x2 0 1 2 3 3 [(25, 3), (29, 4), (36, 0), (167, 1), (755, 2)] := by delta RInits Ran; kernel_rfl
theorem rInits_79 (x0 : Int) (x1 : Int) (x2 : Int) : RInits x0 x1 x2 0 1 2 3 4 [(25, 3), (29, 4), (36, 0), (167, 1), (805, 2)] := by delta RInits Ran; kernel_rfl
theorem rInits_80 (x0 : Int) (x1 : Int) (x2 : Int) : RInits x0 x1 x2 0 1 2 4 0 [(25, 3), (29, 4), (36, 0), (167, 1), (816, 2)] := by delta RInits Ran; kernel_rfl
theorem rInits_81 (x0 : Int) (x1 : Int) (x2 : Int) : RInits x0 x1 x2 0 1 2 4 1 [(25, 3), (29, 4), (36, 0), (167, 1), (816, 2)] := by delta RInits Ran; kernel_rfl
theorem rInits_82 (x0 : Int) (x1 : Int) (x2 : Int) : RInits x0 x1 x2 0 1 2 4 2 [(25, 3), (29, 4), (36, 0), (167, 1), (816, 2)] := by delta RInits Ran; kernel_rfl
theorem rInits_83 (x0 : Int) (x1 : Int) (x2 : Int) : RInits x0 x1 x2 0 1 2 4 3 [(25, 3), (29, 4), (36, 0), (167, 1), (816, 2)] := by delta RInits Ran; kernel_rfl
theorem rInits_84 (x0 : Int) (x1 : Int) (x2 : Int) : RInits x0 x1 x2 0 1 2 4 4 [(25, 3), (29, 4), (36, 0), (167, 1), (770, 2)] := by delta RInits Ran; kernel_rfl
theorem rInits_85 (x0 : Int) (x1 : Int) (x2 : Int) : RInits x0 x1 x2 0 1 2 5 0 [(25, 3), (29, 4), (36, 0), (167, 1), (831, 2)] := by delta RInits Ran; kernel_rfl
theorem rInits_86 (x0 : Int) (x1 : Int) (x2 : Int) : RInits x0 x1 x2 0 1 2 5 1 [(25, 3), (29, 4), (36, 0), (167, 1), (831, 2)] := by delta RInits Ran; kernel_rfl
theorem rInits_87 (x0 : Int) (x1 : Int) (x2 : Int) : RInits x0 x1 x2 0 1 2 5 2 [(25, 3), (29, 4), (36, 0), (167, 1), (831, 2)] := by delta RInits Ran; kernel_rfl
theorem rInits_88 (x0 : Int) (x1 : Int) (x2 : Int) : RInits x0 x1 x2 0 1 2 5 3 [(25, 3), (29, 4), (36, 0), (167, 1), (831, 2)] := by delta RInits Ran; kernel_rfl
theorem rInits_89 (x0 : Int) (x1 : Int) (x2 : Int) : RInits x0 x1 x2 0 1 2 5 4 [(25, 3), (29, 4), (36, 0), (167, 1), (831, 2)] := by delta RInits Ran; kernel_rfl
end
end Go.Proofs.YtebdknkgplonmaaGreatDoor.W.E
