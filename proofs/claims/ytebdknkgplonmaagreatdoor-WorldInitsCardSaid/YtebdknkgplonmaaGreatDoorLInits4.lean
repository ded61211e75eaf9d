/- LInits4 -/
import Derived.Test.YtebdknkgplonmaaGreatDoorLInitsB
set_option linter.unusedVariables false
set_option linter.unusedSimpArgs false
namespace Go.Proofs.YtebdknkgplonmaaGreatDoor.W.E
section
set_option maxRecDepth 100000
open Go.RowKit
theorem rInits_60 (x0 : Int) (x1 : Int) (x2 : Int) : RInits x0 x1 x2 0 1 2 0 0 [(25, 3), (29, 4), (36, 0), (167, 1), (710, 2)] := by delta RInits Ran; kernel_rfl
theorem rInits_61 (x0 : Int) (x1 : Int) (x2 : Int) : RInits x0 x1 x2 0 1 2 0 1 [(25, 3), (29, 4), (36, 0), (167, 1), (760, 2)] := by delta RInits Ran; kernel_rfl
theorem rInits_62 (x0 : Int) (x1 : Int) (x2 : Int) : RInits x0 x1 x2 0 1 2 0 2 [(25, 3), (29, 4), (36, 0), (167, 1), (760, 2)] := by delta RInits Ran; kernel_rfl
theorem rInits_63 (x0 : Int) (x1 : Int) (x2 : Int) : RInits x0 x1 x2 0 1 2 0 3 [(25, 3), (29, 4), (36, 0), (167, 1), (760, 2)] := by delta RInits Ran; kernel_rfl
theorem rInits_64 (x0 : Int) (x1 : Int) (x2 : Int) : RInits x0 x1 x2 0 1 2 0 4 [(25, 3), (29, 4), (36, 0), (167, 1), (760, 2)] := by delta RInits Ran; kernel_rfl
theorem rInits_65 (x0 : Int) (x1 : Int) (x2 : Int) : RInits x0 x1 x2 0 1 2 1 0 [(25, 3), (29, 4), (36, 0), (167, 1), (771, 2)] := by delta RInits Ran; kernel_rfl
theorem rInits_66 (x0 : Int) (x1 : Int) (x2 : Int) : RInits x0 x1 x2 0 1 2 1 1 [(25, 3), (29, 4), (36, 0), (167, 1), (725, 2)] := by delta RInits Ran; kernel_rfl
theorem rInits_67 (x0 : Int) (x1 : Int) (x2 : Int) : RInits x0 x1 x2 0 1 2 1 2 [(25, 3), (29, 4), (36, 0), (167, 1), (775, 2)] := by delta RInits Ran; kernel_rfl
theorem rInits_68 (x0 : Int) (x1 : Int) (x2 : Int) : RInits x0 x1 x2 0 1 2 1 3 [(25, 3), (29, 4), (36, 0), (167, 1), (775, 2)] := by delta RInits Ran; kernel_rfl
theorem rInits_69 (x0 : Int) (x1 : Int) (x2 : Int) : RInits x0 x1 x2 0 1 2 1 4 [(25, 3), (29, 4), (36, 0), (167, 1), (775, 2)] := by delta RInits Ran; kernel_rfl
theorem rInits_70 (x0 : Int) (x1 : Int) (x2 : Int) : RInits x0 x1 x2 0 1 2 2 0 [(25, 3), (29, 4), (36, 0), (167, 1), (786, 2)] := by delta RInits Ran; kernel_rfl
theorem rInits_71 (x0 : Int) (x1 : Int) (x2 : Int) : RInits x0 x1 x2 0 1 2 2 1 [(25, 3), (29, 4), (36, 0), (167, 1), (786, 2)] := by delta RInits Ran; kernel_rfl
theorem rInits_72 (x0 : Int) (x1 : Int) (x2 : Int) : RInits x0 x1 x2 0 1 2 2 2 [(25, 3), (29, 4), (36, 0), (167, 1), (740, 2)] := by delta RInits Ran; kernel_rfl
theorem rInits_73 (x0 : Int) (x1 : Int) (x2 : Int) : RInits x0 x1 x2 0 1 2 2 3 [(25, 3), (29, 4), (36, 0), (167, 1), (790, 2)] := by delta RInits Ran; kernel_rfl
theorem rInits_74 (x0 : Int) (x1 : Int) (x2 : Int) : RInits x0 x1 x2 0 1 2 2 4 [(25, 3), (29, 4), (36, 0), (167, 1), (790, 2)] := by delta RInits Ran; kernel_rfl
end
end Go.Proofs.YtebdknkgplonmaaGreatDoor.W.E
