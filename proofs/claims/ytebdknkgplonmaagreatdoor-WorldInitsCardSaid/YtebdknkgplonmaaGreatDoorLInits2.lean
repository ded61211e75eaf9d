/- LInits2 -/
import Derived.Test.YtebdknkgplonmaaGreatDoorLInitsB
set_option linter.unusedVariables false
set_option linter.unusedSimpArgs false
namespace Go.Proofs.YtebdknkgplonmaaGreatDoor.W.E
section
set_option maxRecDepth 100000
open Go.RowKit
theorem rInits_30 (x0 : Int) (x1 : Int) (x2 : Int) : RInits x0 x1 x2 1 0 1 0 0 [(25, 3), (29, 4), (36, 0), (301, 1), (710, 2)] := by delta RInits Ran; kernel_rfl
theorem rInits_31 (x0 : Int) (x1 : Int) (x2 : Int) : RInits x0 x1 x2 1 0 1 0 1 [(25, 3), (29, 4), (36, 0), (301, 1), (760, 2)] := by delta RInits Ran; kernel_rfl
theorem rInits_32 (x0 : Int) (x1 : Int) (x2 : Int) : RInits x0 x1 x2 1 0 1 0 2 [(25, 3), (29, 4), (36, 0), (301, 1), (760, 2)] := by delta RInits Ran; kernel_rfl
theorem rInits_33 (x0 : Int) (x1 : Int) (x2 : Int) : RInits x0 x1 x2 1 0 1 0 3 [(25, 3), (29, 4), (36, 0), (301, 1), (760, 2)] := by delta RInits Ran; kernel_rfl
theorem rInits_34 (x0 : Int) (x1 : Int) (x2 : Int) : RInits x0 x1 x2 1 0 1 0 4 [(25, 3), (29, 4), (36, 0), (301, 1), (760, 2)] := by delta RInits Ran; kernel_rfl
theorem rInits_35 (x0 : Int) (x1 : Int) (x2 : Int) : RInits x0 x1 x2 1 0 1 1 0 [(25, 3), (29, 4), (36, 0), (301, 1), (771, 2)] := by delta RInits Ran; kernel_rfl
theorem rInits_36 (x0 : Int) (x1 : Int) (x2 : Int) : RInits x0 x1 x2 1 0 1 1 1 [(25, 3), (29, 4), (36, 0), (301, 1), (725, 2)] := by delta RInits Ran; kernel_rfl
theorem rInits_37 (x0 : Int) (x1 : Int) (x2 : Int) : RInits x0 x1 x2 1 0 1 1 2 [(25, 3), (29, 4), (36, 0), (301, 1), (775, 2)] := by delta RInits Ran; kernel_rfl
theorem rInits_38 (x0 : Int) (x1 : Int) (x2 : Int) : RInits x0 x1 x2 1 0 1 1 3 [(25, 3), (29, 4), (36, 0), (301, 1), (775, 2)] := by delta RInits Ran; kernel_rfl
theorem rInits_39 (x0 : Int) (x1 : Int) (x2 : Int) : RInits x0 x1 x2 1 0 1 1 4 [(25, 3), (29, 4), (36, 0), (301, 1), (775, 2)] := by delta RInits Ran; kernel_rfl
theorem rInits_40 (x0 : Int) (x1 : Int) (x2 : Int) : RInits x0 x1 x2 1 0 1 2 0 [(25, 3), (29, 4), (36, 0), (301, 1), (786, 2)] := by delta RInits Ran; kernel_rfl
theorem rInits_41 (x0 : Int) (x1 : Int) (x2 : Int) : RInits x0 x1 x2 1 0 1 2 1 [(25, 3), (29, 4), (36, 0), (301, 1), (786, 2)] := by delta RInits Ran; kernel_rfl
theorem rInits_42 (x0 : Int) (x1 : Int) (x2 : Int) : RInits x0 x1 x2 1 0 1 2 2 [(25, 3), (29, 4), (36, 0), (301, 1), (740, 2)] := by delta RInits Ran; kernel_rfl
theorem rInits_43 (x0 : Int) (x1 : Int) (x2 : Int) : RInits x0 x1 x2 1 0 1 2 3 [(25, 3), (29, 4), (36, 0), (301, 1), (790, 2)] := by delta RInits Ran; kernel_rfl
theorem rInits_44 (x0 : Int) (x1 : Int) (x2 : Int) : RInits x0 x1 x2 1 0 1 2 4 [(25, 3), (29, 4), (36, 0), (301, 1), (790, 2)] := by delta RInits Ran; kernel_rfl
end
end Go.Proofs.YtebdknkgplonmaaGreatDoor.W.E
