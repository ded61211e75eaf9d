/- LInits7 -/
import Derived.Test.YtebdknkgplonmaaGreatDoorLInitsB
set_option linter.unusedVariables false
set_option linter.unusedSimpArgs false
namespace Go.Proofs.YtebdknkgplonmaaGreatDoor.W.E
section
set_option maxRecDepth 100000
open Go.RowKit
theorem rInits_105 (x0 : Int) (x1 : Int) (x2 : Int) : RInits x0 x1 x2 1 1 3 3 0 [(25, 3), (29, 4), (36, 0), (301, 1), (935, 2)] := by delta RInits Ran; kernel_rfl
theorem rInits_106 (x0 : Int) (x1 : Int) (x2 : Int) : RInits x0 x1 x2 1 1 3 3 1 [(25, 3), (29, 4), (36, 0), (301, 1), (935, 2)] := by delta RInits Ran; kernel_rfl
theorem rInits_107 (x0 : Int) (x1 : Int) (x2 : Int) : RInits x0 x1 x2 1 1 3 3 2 [(25, 3), (29, 4), (36, 0), (301, 1), (935, 2)] := by delta RInits Ran; kernel_rfl
theorem rInits_108 (x0 : Int) (x1 : Int) (x2 : Int) : RInits x0 x1 x2 1 1 3 3 3 [(25, 3), (29, 4), (36, 0), (301, 1), (889, 2)] := by delta RInits Ran; kernel_rfl
theorem rInits_109 (x0 : Int) (x1 : Int) (x2 : Int) : RInits x0 x1 x2 1 1 3 3 4 [(25, 3), (29, 4), (36, 0), (301, 1), (939, 2)] := by delta RInits Ran; kernel_rfl
theorem rInits_110 (x0 : Int) (x1 : Int) (x2 : Int) : RInits x0 x1 x2 1 1 3 4 0 [(25, 3), (29, 4), (36, 0), (301, 1), (950, 2)] := by delta RInits Ran; kernel_rfl
theorem rInits_111 (x0 : Int) (x1 : Int) (x2 : Int) : RInits x0 x1 x2 1 1 3 4 1 [(25, 3), (29, 4), (36, 0), (301, 1), (950, 2)] := by delta RInits Ran; kernel_rfl
theorem rInits_112 (x0 : Int) (x1 : Int) (x2 : Int) : RInits x0 x1 x2 1 1 3 4 2 [(25, 3), (29, 4), (36, 0), (301, 1), (950, 2)] := by delta RInits Ran; kernel_rfl
theorem rInits_113 (x0 : Int) (x1 : Int) (x2 : Int) : RInits x0 x1 x2 1 1 3 4 3 [(25, 3), (29, 4), (36, 0), (301, 1), (950, 2)] := by delta RInits Ran; kernel_rfl
theorem rInits_114 (x0 : Int) (x1 : Int) (x2 : Int) : RInits x0 x1 x2 1 1 3 4 4 [(25, 3), (29, 4), (36, 0), (301, 1), (904, 2)] := by delta RInits Ran; kernel_rfl
theorem rInits_115 (x0 : Int) (x1 : Int) (x2 : Int) : RInits x0 x1 x2 1 1 3 5 0 [(25, 3), (29, 4), (36, 0), (301, 1), (965, 2)] := by delta RInits Ran; kernel_rfl
theorem rInits_116 (x0 : Int) (x1 : Int) (x2 : Int) : RInits x0 x1 x2 1 1 3 5 1 [(25, 3), (29, 4), (36, 0), (301, 1), (965, 2)] := by delta RInits Ran; kernel_rfl
theorem rInits_117 (x0 : Int) (x1 : Int) (x2 : Int) : RInits x0 x1 x2 1 1 3 5 2 [(25, 3), (29, 4), (36, 0), (301, 1), (965, 2)] := by delta RInits Ran; kernel_rfl
theorem rInits_118 (x0 : Int) (x1 : Int) (x2 : Int) : RInits x0 x1 x2 1 1 3 5 3 [(25, 3), (29, 4), (36, 0), (301, 1), (965, 2)] := by delta RInits Ran; kernel_rfl
theorem rInits_119 (x0 : Int) (x1 : Int) (x2 : Int) : RInits x0 x1 x2 1 1 3 5 4 [(25, 3), (29, 4), (36, 0), (301, 1), (965, 2)] := by delta RInits Ran; kernel_rfl
end
end Go.Proofs.YtebdknkgplonmaaGreatDoor.W.E
