/- LAfP5 -/
import Derived.Test.YtbbokgpklihkoaaGreatDoorLAfB
set_option linter.unusedVariables false
set_option linter.unusedSimpArgs false
namespace Go.Proofs.YtbbokgpklihkoaaGreatDoor.W.E
section
set_option maxRecDepth 100000
open Go.RowKit
theorem boA16 (h:Hp):qB (lvB [2,3,4,10,11,13,14,16,17,19,20,22,23,25,26,28,29,31,32,34,35,37,38,40,41,43,44,46,47,49,50,52,53,55,56,58,59] [(130,5),(124,6),(122,61),(121,62)]) [0,2,3,4,5,6] 80 k1Bo (sA 16 h) (sA 17 h) .normal:=by delta qB QTX;kernel_rfl
theorem boAe (h:Hp):qB (lvB [2,3,4,5,6,10,11,13,14,16,17,19,20,22,23,25,26,28,29,31,32,34,35,37,38,40,41,43,44,46,47,49,50,52,53,55,56,58,59,61,62] []) [0,2,3,4,5,6] 80 k1Bo (sA 17 h) (sA 17 h) (.exit 0):=by delta qB QTX;kernel_rfl
theorem boM (h:Hp):qB (lvB [2,3,4,5,10,11,13,14,16,17,19,20,22,23,25,26,28,29,31,32,34,35,37,38,40,41,43,44,46,47,49,50,52,53,55,56,58,59,61,62] [(84,6),(85,7),(82,64),(81,65)]) [0,2,3,4,5,11,12] 80 ((kBo.drop 8).take 2) (sA 17 h) (sC 0 h) .normal:=by delta qB QTX;kernel_rfl
theorem boC0 (h:Hp):qB (lvB [2,3,4,5,6,7,10,11,13,14,16,17,19,20,22,23,25,26,28,29,31,32,34,35,37,38,40,41,43,44,46,47,49,50,52,53,55,56,58,59,61,62,64,65] [(90,66)]) [0,2,3,4,5,11,12] 80 k2Bo (sC 0 h) (sC 1 h) .normal:=by delta qB QTX;kernel_rfl
theorem boC1 (h:Hp):qB (lvB [2,3,4,5,6,7,10,11,13,14,16,17,19,20,22,23,25,26,28,29,31,32,34,35,37,38,40,41,43,44,46,47,49,50,52,53,55,56,58,59,61,62,64,65] [(90,66)]) [0,2,3,4,5,11,12] 80 k2Bo (sC 1 h) (sC 2 h) .normal:=by delta qB QTX;kernel_rfl
theorem boC2 (h:Hp):qB (lvB [2,3,4,5,6,7,10,11,13,14,16,17,19,20,22,23,25,26,28,29,31,32,34,35,37,38,40,41,43,44,46,47,49,50,52,53,55,56,58,59,61,62,64,65] [(90,66)]) [0,2,3,4,5,11,12] 80 k2Bo (sC 2 h) (sC 3 h) .normal:=by delta qB QTX;kernel_rfl
theorem boC3 (h:Hp):qB (lvB [2,3,4,5,6,7,10,11,13,14,16,17,19,20,22,23,25,26,28,29,31,32,34,35,37,38,40,41,43,44,46,47,49,50,52,53,55,56,58,59,61,62,64,65] [(90,66)]) [0,2,3,4,5,11,12] 80 k2Bo (sC 3 h) (sC 4 h) .normal:=by delta qB QTX;kernel_rfl
theorem boC4 (h:Hp):qB (lvB [2,3,4,5,6,7,10,11,13,14,16,17,19,20,22,23,25,26,28,29,31,32,34,35,37,38,40,41,43,44,46,47,49,50,52,53,55,56,58,59,61,62,64,65] [(90,66)]) [0,2,3,4,5,11,12] 80 k2Bo (sC 4 h) (sC 5 h) .normal:=by delta qB QTX;kernel_rfl
theorem boC5 (h:Hp):qB (lvB [2,3,4,5,6,7,10,11,13,14,16,17,19,20,22,23,25,26,28,29,31,32,34,35,37,38,40,41,43,44,46,47,49,50,52,53,55,56,58,59,61,62,64,65] [(90,66)]) [0,2,3,4,5,11,12] 80 k2Bo (sC 5 h) (sC 6 h) .normal:=by delta qB QTX;kernel_rfl
end
end Go.Proofs.YtbbokgpklihkoaaGreatDoor.W.E
