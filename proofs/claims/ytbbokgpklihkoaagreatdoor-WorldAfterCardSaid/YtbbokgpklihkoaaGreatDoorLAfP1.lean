/- LAfP1 -/
import Derived.Test.YtbbokgpklihkoaaGreatDoorLAfB
set_option linter.unusedVariables false
set_option linter.unusedSimpArgs false
namespace Go.Proofs.YtbbokgpklihkoaaGreatDoor.W.E
section
set_option maxRecDepth 100000
open Go.RowKit
theorem boA5 (h:Hp):qB (lvB [2,3,4,10,11,13,14,16,17,19,20,22,23,25,26] [(143,5),(137,6),(135,28),(134,29)]) [0,2,3,4,5,6] 80 k1Bo (sA 5 h) (sA 6 h) .normal:=by delta qB QTX;kernel_rfl
theorem boA6 (h:Hp):qB (lvB [2,3,4,10,11,13,14,16,17,19,20,22,23,25,26,28,29] [(143,5),(137,6),(135,31),(134,32)]) [0,2,3,4,5,6] 80 k1Bo (sA 6 h) (sA 7 h) .normal:=by delta qB QTX;kernel_rfl
theorem boA7 (h:Hp):qB (lvB [2,3,4,10,11,13,14,16,17,19,20,22,23,25,26,28,29,31,32] [(130,5),(124,6),(122,34),(121,35)]) [0,2,3,4,5,6] 80 k1Bo (sA 7 h) (sA 8 h) .normal:=by delta qB QTX;kernel_rfl
end
end Go.Proofs.YtbbokgpklihkoaaGreatDoor.W.E
