/- LAfP0 -/
import Derived.Test.YtbbokgpklihkoaaGreatDoorLAfB
set_option linter.unusedVariables false
set_option linter.unusedSimpArgs false
namespace Go.Proofs.YtbbokgpklihkoaaGreatDoor.W.E
section
set_option maxRecDepth 100000
open Go.RowKit
theorem boP (h:Hp):qB [(0,0),(1,1),(2,2),(8,3),(9,4),(10,5),(7,6),(5,10),(4,11)] [0,2,3,4,5,6] 80 (kBo.take 7) (sI h) (sA 0 h) .normal:=by delta qB QTX;kernel_rfl
theorem boA0 (h:Hp):qB (lvB [2,3,4,10,11] [(105,5),(99,6),(97,13),(96,14)]) [0,2,3,4,5,6] 80 k1Bo (sA 0 h) (sA 1 h) .normal:=by delta qB QTX;kernel_rfl
theorem boA1 (h:Hp):qB (lvB [2,3,4,10,11,13,14] [(130,5),(124,6),(122,16),(121,17)]) [0,2,3,4,5,6] 80 k1Bo (sA 1 h) (sA 2 h) .normal:=by delta qB QTX;kernel_rfl
theorem boA2 (h:Hp):qB (lvB [2,3,4,10,11,13,14,16,17] [(143,5),(137,6),(135,19),(134,20)]) [0,2,3,4,5,6] 80 k1Bo (sA 2 h) (sA 3 h) .normal:=by delta qB QTX;kernel_rfl
theorem boA3 (h:Hp):qB (lvB [2,3,4,10,11,13,14,16,17,19,20] [(143,5),(137,6),(135,22),(134,23)]) [0,2,3,4,5,6] 80 k1Bo (sA 3 h) (sA 4 h) .normal:=by delta qB QTX;kernel_rfl
theorem boA4 (h:Hp):qB (lvB [2,3,4,10,11,13,14,16,17,19,20,22,23] [(130,5),(124,6),(122,25),(121,26)]) [0,2,3,4,5,6] 80 k1Bo (sA 4 h) (sA 5 h) .normal:=by delta qB QTX;kernel_rfl
end
end Go.Proofs.YtbbokgpklihkoaaGreatDoor.W.E
