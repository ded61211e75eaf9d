/- LAfP4 -/
import Derived.Test.YtbbokgpklihkoaaGreatDoorLAfB
set_option linter.unusedVariables false
set_option linter.unusedSimpArgs false
namespace Go.Proofs.YtbbokgpklihkoaaGreatDoor.W.E
section
set_option maxRecDepth 100000
open Go.RowKit
theorem boA14 (h:Hp):qB (lvB [2,3,4,10,11,13,14,16,17,19,20,22,23,25,26,28,29,31,32,34,35,37,38,40,41,43,44,46,47,49,50,52,53] [(143,5),(137,6),(135,55),(134,56)]) [0,2,3,4,5,6] 80 k1Bo (sA 14 h) (sA 15 h) .normal:=by delta qB QTX;kernel_rfl
theorem boA15 (h:Hp):qB (lvB [2,3,4,10,11,13,14,16,17,19,20,22,23,25,26,28,29,31,32,34,35,37,38,40,41,43,44,46,47,49,50,52,53,55,56] [(130,5),(124,6),(122,58),(121,59)]) [0,2,3,4,5,6] 80 k1Bo (sA 15 h) (sA 16 h) .normal:=by delta qB QTX;kernel_rfl
end
end Go.Proofs.YtbbokgpklihkoaaGreatDoor.W.E
