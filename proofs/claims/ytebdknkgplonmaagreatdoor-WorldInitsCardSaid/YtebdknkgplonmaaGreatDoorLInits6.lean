/- LInits6 -/
import Derived.Test.YtebdknkgplonmaaGreatDoorLInitsB
set_option linter.unusedVariables false
set_option linter.unusedSimpArgs false
namespace Go.Proofs.YtebdknkgplonmaaGreatDoor.W.E
section
set_option maxRecDepth 100000
open Go.RowKit
theorem rInits_90 (x0 : Int) (x1 : Int) (x2 : Int) : RInits x0 x1 x2 1 1 3 0 0 [(25, 3), (29, 4), (36, 0), (301, 1), (844, 2)] := by delta RInits Ran; kernel_rfl
theorem rInits_91 (x0 : Int) (x1 : Int) (x2 : Int) : RInits x0 x1 x2 1 1 3 0 1 [(25, 3), (29, 4), (36, 0), (301, 1), (894, 2)] := by delta RInits Ran; kernel_rfl
theorem rInits_92 (x0 : Int) (x1 : Int) (x2 : Int) : RInits x0 x1 x2 1 1 3 0 2 [(25, 3), (29, 4), (36, 0), (301, 1), (894, 2)] := by delta RInits Ran; kernel_rfl
theorem rInits_93 (x0 : Int) (x1 : Int) (x2 : Int) : RInits x0 x1 x2 1 1 3 0 3 [(25, 3), (29, 4), (36, 0), (301, 1), (894, 2)] := by delta RInits Ran; kernel_rfl
theorem rInits_94 (x0 : Int) (x1 : Int) (x2 : Int) : RInits x0 x1 x2 1 1 3 0 4 [(25, 3), (29, 4), (36, 0), (301, 1), (894, 2)] := by delta RInits Ran; kernel_rfl
theorem rInits_95 (x0 : Int) (x1 : Int) (x2 : Int) : RInits x0 x1 x2 1 1 3 1 0 [(25, 3), (29, 4), (36, 0), (301, 1), (905, 2)] := by delta RInits Ran; kernel_rfl
theorem rInits_96 (x0 : Int) (x1 : Int) (x2 : Int) : RInits x0 x1 x2 1 1 3 1 1 [(25, 3), (29, 4), (36, 0), (301, 1), (859, 2)] := by delta RInits Ran; kernel_rfl
theorem rInits_97 (x0 : Int) (x1 : Int) (x2 : Int) : RInits x0 x1 x2 1 1 3 1 2 [(25, 3), (29, 4), (36, 0), (301, 1), (909, 2)] := by delta RInits Ran; kernel_rfl
theorem rInits_98 (x0 : Int) (x1 : Int) (x2 : Int) : RInits x0 x1 x2 1 1 3 1 3 [(25, 3), (29, 4), (36, 0), (301, 1), (909, 2)] := by delta RInits Ran; kernel_rfl
theorem rInits_99 (x0 : Int) (x1 : Int) (x2 : Int) : RInits x0 x1 x2 1 1 3 1 4 [(25, 3), (29, 4), (36, 0), (301, 1), (909, 2)] := by delta RInits Ran; kernel_rfl
theorem rInits_100 (x0 : Int) (x1 : Int) (x2 : Int) : RInits x0 x1 x2 1 1 3 2 0 [(25, 3), (29, 4), (36, 0), (301, 1), (920, 2)] := by delta RInits Ran; kernel_rfl
theorem rInits_101 (x0 : Int) (x1 : Int) (x2 : Int) : RInits x0 x1 x2 1 1 3 2 1 [(25, 3), (29, 4), (36, 0), (301, 1), (920, 2)] := by delta RInits Ran; kernel_rfl
theorem rInits_102 (x0 : Int) (x1 : Int) (x2 : Int) : RInits x0 x1 x2 1 1 3 2 2 [(25, 3), (29, 4), (36, 0), (301, 1), (874, 2)] := by delta RInits Ran; kernel_rfl
theorem rInits_103 (x0 : Int) (x1 : Int) (x2 : Int) : RInits x0 x1 x2 1 1 3 2 3 [(25, 3), (29, 4), (36, 0), (301, 1), (924, 2)] := by delta RInits Ran; kernel_rfl
theorem rInits_104 (x0 : Int) (x1 : Int) (x2 : Int) : RInits x0 x1 x2 1 1 3 2 4 [(25, 3), (29, 4), (36, 0), (301, 1), (924, 2)] := by delta RInits Ran; kernel_rfl
end
end Go.Proofs.YtebdknkgplonmaaGreatDoor.W.E
