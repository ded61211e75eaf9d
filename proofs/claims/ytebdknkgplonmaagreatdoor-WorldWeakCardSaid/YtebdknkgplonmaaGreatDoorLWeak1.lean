/- LWeak1 -/
import Derived.Test.YtebdknkgplonmaaGreatDoorLWeakB
set_option linter.unusedVariables false
set_option linter.unusedSimpArgs false
namespace Go.Proofs.YtebdknkgplonmaaGreatDoor.W.E
section
set_option maxRecDepth 100000
open Go.RowKit
theorem rWeak_11 (x2 : Int) : RWeak x2 false true 0 [(643, 0)] := by delta RWeak Ran; kernel_rfl
theorem rWeak_12 (x2 : Int) : RWeak x2 false true 1 [(643, 0), (682, 0)] := by delta RWeak Ran; kernel_rfl
theorem rWeak_13 (x2 : Int) : RWeak x2 false true 2 [(643, 0), (682, 0), (721, 0)] := by delta RWeak Ran; kernel_rfl
theorem rWeak_14 (x2 : Int) : RWeak x2 false true 3 [(643, 0), (682, 0), (721, 0), (760, 0)] := by delta RWeak Ran; kernel_rfl
theorem rWeak_15 (x2 : Int) : RWeak x2 false true 4 [(643, 0), (682, 0), (721, 0), (760, 0), (799, 0)] := by delta RWeak Ran; kernel_rfl
theorem rWeak_16 (x2 : Int) : RWeak x2 false true 5 [(643, 0), (682, 0), (721, 0), (760, 0), (799, 0), (838, 0)] := by delta RWeak Ran; kernel_rfl
theorem rWeak_17 (x2 : Int) : RWeak x2 false true 6 [(643, 0), (682, 0), (721, 0), (760, 0), (799, 0), (838, 0), (877, 0)] := by delta RWeak Ran; kernel_rfl
theorem rWeak_18 (x2 : Int) : RWeak x2 false true 7 [(643, 0), (682, 0), (721, 0), (760, 0), (799, 0), (838, 0), (877, 0), (916, 0)] := by delta RWeak Ran; kernel_rfl
theorem rWeak_19 (x2 : Int) : RWeak x2 false true 8 [(643, 0), (682, 0), (721, 0), (760, 0), (799, 0), (838, 0), (877, 0), (916, 0), (955, 0)] := by delta RWeak Ran; kernel_rfl
theorem rWeak_20 (x2 : Int) : RWeak x2 false true 9 [(643, 0), (682, 0), (721, 0), (760, 0), (799, 0), (838, 0), (877, 0), (916, 0), (955, 0), (994, 0)] := by delta RWeak Ran; kernel_rfl
theorem rWeak_21 (x2 : Int) : RWeak x2 false true 10 [(643, 0), (682, 0), (721, 0), (760, 0), (799, 0), (838, 0), (877, 0), (916, 0), (955, 0), (994, 0), (1033, 0)] := by delta RWeak Ran; kernel_rfl
end
end Go.Proofs.YtebdknkgplonmaaGreatDoor.W.E
