/- LAfP6 -/
import Derived.Test.YtbbokgpklihkoaaGreatDoorLAfB
set_option linter.unusedVariables false
set_option linter.unusedSimpArgs false
namespace Go.Proofs.YtbbokgpklihkoaaGreatDoor.W.E
section
set_option maxRecDepth 100000
open Go.RowKit
theorem boC6 (h:Hp):qB (lvB [2,3,4,5,6,7,10,11,13,14,16,17,19,20,22,23,25,26,28,29,31,32,34,35,37,38,40,41,43,44,46,47,49,50,52,53,55,56,58,59,61,62,64,65] [(90,66)]) [0,2,3,4,5,11,12] 80 k2Bo (sC 6 h) (sC 7 h) .normal:=by delta qB QTX;kernel_rfl
theorem boC7 (h:Hp):qB (lvB [2,3,4,5,6,7,10,11,13,14,16,17,19,20,22,23,25,26,28,29,31,32,34,35,37,38,40,41,43,44,46,47,49,50,52,53,55,56,58,59,61,62,64,65] [(90,66)]) [0,2,3,4,5,11,12] 80 k2Bo (sC 7 h) (sC 8 h) .normal:=by delta qB QTX;kernel_rfl
theorem boC8 (h:Hp):qB (lvB [2,3,4,5,6,7,10,11,13,14,16,17,19,20,22,23,25,26,28,29,31,32,34,35,37,38,40,41,43,44,46,47,49,50,52,53,55,56,58,59,61,62,64,65] [(90,66)]) [0,2,3,4,5,11,12] 80 k2Bo (sC 8 h) (sC 9 h) .normal:=by delta qB QTX;kernel_rfl
theorem boC9 (h:Hp):qB (lvB [2,3,4,5,6,7,10,11,13,14,16,17,19,20,22,23,25,26,28,29,31,32,34,35,37,38,40,41,43,44,46,47,49,50,52,53,55,56,58,59,61,62,64,65] [(90,66)]) [0,2,3,4,5,11,12] 80 k2Bo (sC 9 h) (sC 10 h) .normal:=by delta qB QTX;kernel_rfl
theorem boC10 (h:Hp):qB (lvB [2,3,4,5,6,7,10,11,13,14,16,17,19,20,22,23,25,26,28,29,31,32,34,35,37,38,40,41,43,44,46,47,49,50,52,53,55,56,58,59,61,62,64,65] [(90,66)]) [0,2,3,4,5,11,12] 80 k2Bo (sC 10 h) (sC 11 h) .normal:=by delta qB QTX;kernel_rfl
theorem boC11 (h:Hp):qB (lvB [2,3,4,5,6,7,10,11,13,14,16,17,19,20,22,23,25,26,28,29,31,32,34,35,37,38,40,41,43,44,46,47,49,50,52,53,55,56,58,59,61,62,64,65] [(90,66)]) [0,2,3,4,5,11,12] 80 k2Bo (sC 11 h) (sC 12 h) .normal:=by delta qB QTX;kernel_rfl
theorem boC12 (h:Hp):qB (lvB [2,3,4,5,6,7,10,11,13,14,16,17,19,20,22,23,25,26,28,29,31,32,34,35,37,38,40,41,43,44,46,47,49,50,52,53,55,56,58,59,61,62,64,65] [(90,66)]) [0,2,3,4,5,11,12] 80 k2Bo (sC 12 h) (sC 13 h) .normal:=by delta qB QTX;kernel_rfl
end
end Go.Proofs.YtbbokgpklihkoaaGreatDoor.W.E
