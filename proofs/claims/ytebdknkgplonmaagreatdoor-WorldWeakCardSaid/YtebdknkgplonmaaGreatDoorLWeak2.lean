/- LWeak2 -/
import Derived.Test.YtebdknkgplonmaaGreatDoorLWeakB
set_option linter.unusedVariables false
set_option linter.unusedSimpArgs false
namespace Go.Proofs.YtebdknkgplonmaaGreatDoor.W.E
section
set_option maxRecDepth 100000
open Go.RowKit
theorem rWeak_22 (x2 : Int) : RWeak x2 true false 0 [(643, 0)] := by delta RWeak Ran; kernel_rfl
theorem rWeak_23 (x2 : Int) : RWeak x2 true false 1 [(643, 0), (682, 0)] := by delta RWeak Ran; kernel_rfl
theorem rWeak_24 (x2 : Int) : RWeak x2 true false 2 [(643, 0), (682, 0), (721, 0)] := by delta RWeak Ran; kernel_rfl
theorem rWeak_25 (x2 : Int) : RWeak x2 true false 3 [(643, 0), (682, 0), (721, 0), (760, 0)] := by delta RWeak Ran; kernel_rfl
theorem rWeak_26 (x2 : Int) : RWeak x2 true false 4 [(643, 0), (682, 0), (721, 0), (760, 0), (799, 0)] := by delta RWeak Ran; kernel_rfl
theorem rWeak_27 (x2 : Int) : RWeak x2 true false 5 [(643, 0), (682, 0), (721, 0), (760, 0), (799, 0), (838, 0)] := by delta RWeak Ran; kernel_rfl
theorem rWeak_28 (x2 : Int) : RWeak x2 true false 6 [(643, 0), (682, 0), (721, 0), (760, 0), (799, 0), (838, 0), (877, 0)] := by delta RWeak Ran; kernel_rfl
theorem rWeak_29 (x2 : Int) : RWeak x2 true false 7 [(643, 0), (682, 0), (721, 0), (760, 0), (799, 0), (838, 0), (877, 0), (916, 0)] := by delta RWeak Ran; kernel_rfl
theorem rWeak_30 (x2 : Int) : RWeak x2 true false 8 [(643, 0), (682, 0), (721, 0), (760, 0), (799, 0), (838, 0), (877, 0), (916, 0), (955, 0)] := by delta RWeak Ran; kernel_rfl
theorem rWeak_31 (x2 : Int) : RWeak x2 true false 9 [(643, 0), (682, 0), (721, 0), (760, 0), (799, 0), (838, 0), (877, 0), (916, 0), (955, 0), (994, 0)] := by delta RWeak Ran; kernel_rfl
theorem rWeak_32 (x2 : Int) : RWeak x2 true false 10 [(643, 0), (682, 0), (721, 0), (760, 0), (799, 0), (838, 0), (877, 0), (916, 0), (955, 0), (994, 0), (1033, 0)] := by delta RWeak Ran; kernel_rfl
end
end Go.Proofs.YtebdknkgplonmaaGreatDoor.W.E
