/- LWeak0 -/
import Derived.Test.YtebdknkgplonmaaGreatDoorLWeakB
set_option linter.unusedVariables false
set_option linter.unusedSimpArgs false
namespace Go.Proofs.YtebdknkgplonmaaGreatDoor.W.E
section
set_option maxRecDepth 100000
open Go.RowKit
theorem rWeak_0 (x2 : Int) : RWeak x2 false false 0 [(643, 0)] := by delta RWeak Ran; kernel_rfl
theorem rWeak_1 (x2 : Int) : RWeak x2 false false 1 [(643, 0), (682, 0)] := by delta RWeak Ran; kernel_rfl
theorem rWeak_2 (x2 : Int) : RWeak x2 false false 2 [(643, 0), (682, 0), (721, 0)] := by delta RWeak Ran; kernel_rfl
theorem rWeak_3 (x2 : Int) : RWeak x2 false false 3 [(643, 0), (682, 0), (721, 0), (760, 0)] := by delta RWeak Ran; kernel_rfl
theorem rWeak_4 (x2 : Int) : RWeak x2 false false 4 [(643, 0), (682, 0), (721, 0), (760, 0), (799, 0)] := by delta RWeak Ran; kernel_rfl
theorem rWeak_5 (x2 : Int) : RWeak x2 false false 5 [(643, 0), (682, 0), (721, 0), (760, 0), (799, 0), (838, 0)] := by delta RWeak Ran; kernel_rfl
theorem rWeak_6 (x2 : Int) : RWeak x2 false false 6 [(643, 0), (682, 0), (721, 0), (760, 0), (799, 0), (838, 0), (877, 0)] := by delta RWeak Ran; kernel_rfl
theorem rWeak_7 (x2 : Int) : RWeak x2 false false 7 [(643, 0), (682, 0), (721, 0), (760, 0), (799, 0), (838, 0), (877, 0), (916, 0)] := by delta RWeak Ran; kernel_rfl
theorem rWeak_8 (x2 : Int) : RWeak x2 false false 8 [(643, 0), (682, 0), (721, 0), (760, 0), (799, 0), (838, 0), (877, 0), (916, 0), (955, 0)] := by delta RWeak Ran; kernel_rfl
theorem rWeak_9 (x2 : Int) : RWeak x2 false false 9 [(643, 0), (682, 0), (721, 0), (760, 0), (799, 0), (838, 0), (877, 0), (916, 0), (955, 0), (994, 0)] := by delta RWeak Ran; kernel_rfl
theorem rWeak_10 (x2 : Int) : RWeak x2 false false 10 [(643, 0), (682, 0), (721, 0), (760, 0), (799, 0), (838, 0), (877, 0), (916, 0), (955, 0), (994, 0), (1033, 0)] := by delta RWeak Ran; kernel_rfl
end
end Go.Proofs.YtebdknkgplonmaaGreatDoor.W.E
