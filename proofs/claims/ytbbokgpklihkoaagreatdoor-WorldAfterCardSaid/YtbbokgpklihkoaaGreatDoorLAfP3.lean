/- LAfP3 -/
import Derived.Test.YtbbokgpklihkoaaGreatDoorLAfB
set_option linter.unusedVariables false
set_option linter.unusedSimpArgs false
namespace Go.Proofs.YtbbokgpklihkoaaGreatDoor.W.E
section
set_option maxRecDepth 100000
open Go.RowKit
theorem boA11 (h:Hp):qB (lvB [2,3,4,10,11,13,14,16,17,19,20,22,23,25,26,28,29,31,32,34,35,37,38,40,41,43,44] [(130,5),(124,6),(122,46),(121,47)]) [0,2,3,4,5,6] 80 k1Bo (sA 11 h) (sA 12 h) .normal:=by delta qB QTX;kernel_rfl
theorem boA12 (h:Hp):qB (lvB [2,3,4,10,11,13,14,16,17,19,20,22,23,25,26,28,29,31,32,34,35,37,38,40,41,43,44,46,47] [(130,5),(124,6),(122,49),(121,50)]) [0,2,3,4,5,6] 80 k1Bo (sA 12 h) (sA 13 h) .normal:=by delta qB QTX;kernel_rfl
theorem boA13 (h:Hp):qB (lvB [2,3,4,10,11,13,14,16,17,19,20,22,23,25,26,28,29,31,32,34,35,37,38,40,41,43,44,46,47,49,50] [(130,5),(124,6),(122,52),(121,53)]) [0,2,3,4,5,6] 80 k1Bo (sA 13 h) (sA 14 h) .normal:=by delta qB QTX;kernel_rfl
end
end Go.Proofs.YtbbokgpklihkoaaGreatDoor.W.E
