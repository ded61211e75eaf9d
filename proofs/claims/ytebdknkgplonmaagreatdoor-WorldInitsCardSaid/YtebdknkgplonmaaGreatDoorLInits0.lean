/- LInits0 -/
import Derived.Test.YtebdknkgplonmaaGreatDoorLInitsB
set_option linter.unusedVariables false
set_option linter.unusedSimpArgs false
namespace Go.Proofs.YtebdknkgplonmaaGreatDoor.W.E
section
set_option maxRecDepth 100000
open Go.RowKit
theorem rInits_0 (x0 : Int) (x1 : Int) (x2 : Int) : RInits x0 x1 x2 0 0 0 0 0 [(25, 3), (29, 4), (36, 0), (167, 1), (463, 2)] := by delta RInits Ran; kernel_rfl
theorem rInits_1 (x0 : Int) (x1 : Int) (x2 : Int) : RInits x0 x1 x2 0 0 0 0 1 [(25, 3), (29, 4), (36, 0), (167, 1), (463, 2)] := by delta RInits Ran; kernel_rfl
theorem rInits_2 (x0 : Int) (x1 : Int) (x2 : Int) : RInits x0 x1 x2 0 0 0 0 2 [(25, 3), (29, 4), (36, 0), (167, 1), (463, 2)] := by delta RInits Ran; kernel_rfl
theorem rInits_3 (x0 : Int) (x1 : Int) (x2 : Int) : RInits x0 x1 x2 0 0 0 0 3 [(25, 3), (29, 4), (36, 0), (167, 1), (463, 2)] := by delta RInits Ran; kernel_rfl
theorem rInits_4 (x0 : Int) (x1 : Int) (x2 : Int) : RInits x0 x1 x2 0 0 0 0 4 [(25, 3), (29, 4), (36, 0), (167, 1), (463, 2)] := by delta RInits Ran; kernel_rfl
theorem rInits_5 (x0 : Int) (x1 : Int) (x2 : Int) : RInits x0 x1 x2 0 0 0 1 0 [(25, 3), (29, 4), (36, 0), (167, 1), (522, 2)] := by delta RInits Ran; kernel_rfl
theorem rInits_6 (x0 : Int) (x1 : Int) (x2 : Int) : RInits x0 x1 x2 0 0 0 1 1 [(25, 3), (29, 4), (36, 0), (167, 1), (522, 2)] := by delta RInits Ran; kernel_rfl
theorem rInits_7 (x0 : Int) (x1 : Int) (x2 : Int) : RInits x0 x1 x2 0 0 0 1 2 [(25, 3), (29, 4), (36, 0), (167, 1), (522, 2)] := by delta RInits Ran; kernel_rfl
theorem rInits_8 (x0 : Int) (x1 : Int) (x2 : Int) : RInits x0 x1 x2 0 0 0 1 3 [(25, 3), (29, 4), (36, 0), (167, 1), (522, 2)] := by delta RInits Ran; kernel_rfl
theorem rInits_9 (x0 : Int) (x1 : Int) (x2 : Int) : RInits x0 x1 x2 0 0 0 1 4 [(25, 3), (29, 4), (36, 0), (167, 1), (522, 2)] := by delta RInits Ran; kernel_rfl
theorem rInits_10 (x0 : Int) (x1 : Int) (x2 : Int) : RInits x0 x1 x2 0 0 0 2 0 [(25, 3), (29, 4), (36, 0), (167, 1), (537, 2)] := by delta RInits Ran; kernel_rfl
theorem rInits_11 (x0 : Int) (x1 : Int) (x2 : Int) : RInits x0 x1 x2 0 0 0 2 1 [(25, 3), (29, 4), (36, 0), (167, 1), (537, 2)] := by delta RInits Ran; kernel_rfl
theorem rInits_12 (x0 : Int) (x1 : Int) (x2 : Int) : RInits x0 x1 x2 0 0 0 2 2 [(25, 3), (29, 4), (36, 0), (167, 1), (537, 2)] := by delta RInits Ran; kernel_rfl
theorem rInits_13 (x0 : Int) (x1 : Int) (x2 : Int) : RInits x0 x1 x2 0 0 0 2 3 [(25, 3), (29, 4), (36, 0), (167, 1), (537, 2)] := by delta RInits Ran; kernel_rfl
theorem rInits_14 (x0 : Int) (x1 : Int) (x2 : Int) : RInits x0 x1 x2 0 0 0 2 4 [(25, 3), (29, 4), (36, 0), (167, 1), (537, 2)] := by delta RInits Ran; kernel_rfl
end
end Go.Proofs.YtebdknkgplonmaaGreatDoor.W.E
