/- LAfP2 -/
import Derived.Test.YtbbokgpklihkoaaGreatDoorLAfB
set_option linter.unusedVariables false
set_option linter.unusedSimpArgs false
namespace Go.Proofs.YtbbokgpklihkoaaGreatDoor.W.E
section
set_option maxRecDepth 100000
open Go.RowKit
theorem boA8 (h:Hp):qB (lvB [2,3,4,10,11,13,14,16,17,19,20,22,23,25,26,28,29,31,32,34,35] [(130,5),(124,6),(122,37),(121,38)]) [0,2,3,4,5,6] 80 k1Bo (sA 8 h) (sA 9 h) .normal:=by delta qB QTX;kernel_rfl
theorem boA9 (h:Hp):qB (lvB [2,3,4,10,11,13,14,16,17,19,20,22,23,25,26,28,29,31,32,34,35,37,38] [(130,5),(124,6),(122,40),(121,41)]) [0,2,3,4,5,6] 80 k1Bo (sA 9 h) (sA 10 h) .normal:=by delta qB QTX;kernel_rfl
theorem boA10 (h:Hp):qB (lvB [2,3,4,10,11,13,14,16,17,19,20,22,23,25,26,28,29,31,32,34,35,37,38,40,41] [(143,5),(137,6),(135,43),(134,44)]) [0,2,3,4,5,6] 80 k1Bo (sA 10 h) (sA 11 h) .normal:=by delta qB QTX;kernel_rfl
end
end Go.Proofs.YtbbokgpklihkoaaGreatDoor.W.E
