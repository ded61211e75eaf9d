/- LInits1 -/
import Derived.Test.YtebdknkgplonmaaGreatDoorLInitsB
set_option linter.unusedVariables false
set_option linter.unusedSimpArgs false
namespace Go.Proofs.YtebdknkgplonmaaGreatDoor.W.E
section
set_option maxRecDepth 100000
open Go.RowKit
theorem rInits_15 (x0 : Int) (x1 : Int) (x2 : Int) : RInits x0 x1 x2 0 0 0 3 0 [(25, 3), (29, 4), (36, 0), (167, 1), (552, 2)] := by delta RInits Ran; kernel_rfl
theorem rInits_16 (x0 : Int) (x1 : Int) (x2 : Int) : RInits x0 x1 x2 0 0 0 3 1 [(25, 3), (29, 4), (36, 0), (167, 1), (552, 2)] := by delta RInits Ran; kernel_rfl
theorem rInits_17 (x0 : Int) (x1 : Int) (x2 : Int) : RInits x0 x1 x2 0 0 0 3 2 [(25, 3), (29, 4), (36, 0), (167, 1), (552, 2)] := by delta RInits Ran; kernel_rfl
theorem rInits_18 (x0 : Int) (x1 : Int) (x2 : Int) : RInits x0 x1 x2 0 0 0 3 3 [(25, 3), (29, 4), (36, 0), (167, 1), (552, 2)] := by delta RInits Ran; kernel_rfl
theorem rInits_19 (x0 : Int) (x1 : Int) (x2 : Int) : RInits x0 x1 x2 0 0 0 3 4 [(25, 3), (29, 4), (36, 0), (167, 1), (552, 2)] := by delta RInits Ran; kernel_rfl
theorem rInits_20 (x0 : Int) (x1 : Int) (x2 : Int) : RInits x0 x1 x2 0 0 0 4 0 [(25, 3), (29, 4), (36, 0), (167, 1), (567, 2)] := by delta RInits Ran; kernel_rfl
theorem rInits_21 (x0 : Int) (x1 : Int) (x2 : Int) : RInits x0 x1 x2 0 0 0 4 1 [(25, 3), (29, 4), (36, 0), (167, 1), (567, 2)] := by delta RInits Ran; kernel_rfl
theorem rInits_22 (x0 : Int) (x1 : Int) (x2 : Int) : RInits x0 x1 x2 0 0 0 4 2 [(25, 3), (29, 4), (36, 0), (167, 1), (567, 2)] := by delta RInits Ran; kernel_rfl
theorem rInits_23 (x0 : Int) (x1 : Int) (x2 : Int) : RInits x0 x1 x2 0 0 0 4 3 [(25, 3), (29, 4), (36, 0), (167, 1), (567, 2)] := by delta RInits Ran; kernel_rfl
theorem rInits_24 (x0 : Int) (x1 : Int) (x2 : Int) : RInits x0 x1 x2 0 0 0 4 4 [(25, 3), (29, 4), (36, 0), (167, 1), (567, 2)] := by delta RInits Ran; kernel_rfl
theorem rInits_25 (x0 : Int) (x1 : Int) (x2 : Int) : RInits x0 x1 x2 0 0 0 5 0 [(25, 3), (29, 4), (36, 0), (167, 1), (582, 2)] := by delta RInits Ran; kernel_rfl
theorem rInits_26 (x0 : Int) (x1 : Int) (x2 : Int) : RInits x0 x1 x2 0 0 0 5 1 [(25, 3), (29, 4), (36, 0), (167, 1), (582, 2)] := by delta RInits Ran; kernel_rfl
theorem rInits_27 (x0 : Int) (x1 : Int) (x2 : Int) : RInits x0 x1 x2 0 0 0 5 2 [(25, 3), (29, 4), (36, 0), (167, 1), (582, 2)] := by delta RInits Ran; kernel_rfl
theorem rInits_28 (x0 : Int) (x1 : Int) (x2 : Int) : RInits x0 x1 x2 0 0 0 5 3 [(25, 3), (29, 4), (36, 0), (167, 1), (582, 2)] := by delta RInits Ran; kernel_rfl
theorem rInits_29 (x0 : Int) (x1 : Int) (x2 : Int) : RInits x0 x1 x2 0 0 0 5 4 [(25, 3), (29, 4), (36, 0), (167, 1), (582, 2)] := by delta RInits Ran; kernel_rfl
end
end Go.Proofs.YtebdknkgplonmaaGreatDoor.W.E
