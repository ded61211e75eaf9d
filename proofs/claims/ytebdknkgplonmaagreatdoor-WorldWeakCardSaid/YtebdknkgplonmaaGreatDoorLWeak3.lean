/- LWeak3 -/
import Derived.Test.YtebdknkgplonmaaGreatDoorLWeakB
set_option linter.unusedVariables false
set_option linter.unusedSimpArgs false
namespace Go.Proofs.YtebdknkgplonmaaGreatDoor.W.E
section
set_option maxRecDepth 100000
open Go.RowKit
theorem rWeak_33 (x2 : Int) : RWeak x2 true true 0 [(643, 0)] := by delta RWeak Ran; kernel_rfl
theorem rWeak_34 (x2 : Int) : RWeak x2 true true 1 [(643, 0), (682, 0)] := by delta RWeak Ran; kernel_rfl
theorem rWeak_35 (x2 : Int) : RWeak x2 true true 2 [(643, 0), (682, 0), (721, 0)] := by delta RWeak Ran; kernel_rfl
theorem rWeak_36 (x2 : Int) : RWeak x2 true true 3 [(643, 0), (682, 0), (721, 0), (760, 0)] := by delta RWeak Ran; kernel_rfl
theorem rWeak_37 (x2 : Int) : RWeak x2 true true 4 [(643, 0), (682, 0), (721, 0), (760, 0), (799, 0)] := by delta RWeak Ran; kernel_rfl
theorem rWeak_38 (x2 : Int) : RWeak x2 true true 5 [(643, 0), (682, 0), (721, 0), (760, 0), (799, 0), (838, 0)] := by delta RWeak Ran; kernel_rfl
theorem rWeak_39 (x2 : Int) : RWeak x2 true true 6 [(643, 0), (682, 0), (721, 0), (760, 0), (799, 0), (838, 0), (877, 0)] := by delta RWeak Ran; kernel_rfl
theorem rWeak_40 (x2 : Int) : RWeak x2 true true 7 [(643, 0), (682, 0), (721, 0), (760, 0), (799, 0), (838, 0), (877, 0), (916, 0)] := by delta RWeak Ran; kernel_rfl
theorem rWeak_41 (x2 : Int) : RWeak x2 true true 8 [(643, 0), (682, 0), (721, 0), (760, 0), (799, 0), (838, 0), (877, 0), (916, 0), (955, 0)] := by delta RWeak Ran; kernel_rfl
theorem rWeak_42 (x2 : Int) : RWeak x2 true true 9 [(643, 0), (682, 0), (721, 0), (760, 0), (799, 0), (838, 0), (877, 0), (916, 0), (955, 0), (994, 0)] := by delta RWeak Ran; kernel_rfl
theorem rWeak_43 (x2 : Int) : RWeak x2 true true 10 [(643, 0), (682, 0), (721, 0), (760, 0), (799, 0), (838, 0), (877, 0), (916, 0), (955, 0), (994, 0), (1033, 0)] := by delta RWeak Ran; kernel_rfl
end
end Go.Proofs.YtebdknkgplonmaaGreatDoor.W.E
