/- LAfP7 -/
import Derived.Test.YtbbokgpklihkoaaGreatDoorLAfB
set_option linter.unusedVariables false
set_option linter.unusedSimpArgs false
namespace Go.Proofs.YtbbokgpklihkoaaGreatDoor.W.E
section
set_option maxRecDepth 100000
open Go.RowKit
theorem boC13 (h:Hp):qB (lvB [2,3,4,5,6,7,10,11,13,14,16,17,19,20,22,23,25,26,28,29,31,32,34,35,37,38,40,41,43,44,46,47,49,50,52,53,55,56,58,59,61,62,64,65] [(90,66)]) [0,2,3,4,5,11,12] 80 k2Bo (sC 13 h) (sC 14 h) .normal:=by delta qB QTX;kernel_rfl
theorem boC14 (h:Hp):qB (lvB [2,3,4,5,6,7,10,11,13,14,16,17,19,20,22,23,25,26,28,29,31,32,34,35,37,38,40,41,43,44,46,47,49,50,52,53,55,56,58,59,61,62,64,65] [(90,66)]) [0,2,3,4,5,11,12] 80 k2Bo (sC 14 h) (sC 15 h) .normal:=by delta qB QTX;kernel_rfl
theorem boC15 (h:Hp):qB (lvB [2,3,4,5,6,7,10,11,13,14,16,17,19,20,22,23,25,26,28,29,31,32,34,35,37,38,40,41,43,44,46,47,49,50,52,53,55,56,58,59,61,62,64,65] [(90,66)]) [0,2,3,4,5,11,12] 80 k2Bo (sC 15 h) (sC 16 h) .normal:=by delta qB QTX;kernel_rfl
theorem boC16 (h:Hp):qB (lvB [2,3,4,5,6,7,10,11,13,14,16,17,19,20,22,23,25,26,28,29,31,32,34,35,37,38,40,41,43,44,46,47,49,50,52,53,55,56,58,59,61,62,64,65] [(90,66)]) [0,2,3,4,5,11,12] 80 k2Bo (sC 16 h) (sC 17 h) .normal:=by delta qB QTX;kernel_rfl
theorem boCe (h:Hp):qB (lvB [2,3,4,5,6,7,10,11,13,14,16,17,19,20,22,23,25,26,28,29,31,32,34,35,37,38,40,41,43,44,46,47,49,50,52,53,55,56,58,59,61,62,64,65,66] []) [0,2,3,4,5,11,12] 80 k2Bo (sC 17 h) (sC 17 h) (.exit 4):=by delta qB QTX;kernel_rfl
theorem boZ (h:Hp):qB [(0,0),(1,1),(2,2),(82,3),(66,4),(13,5),(14,6),(16,7),(17,8),(19,9),(20,10),(22,11),(23,12),(25,13),(26,14),(28,15),(29,16),(31,17),(32,18),(34,19),(35,20),(37,21),(38,22),(40,23),(41,24),(43,25),(44,26),(46,27),(47,28),(49,29),(50,30),(52,31),(53,32),(55,33),(56,34),(58,35),(59,36),(61,37),(62,38),(64,39),(65,40)] [2] 41 (kBo.drop 11) (sC 17 h) (sE h) .ret:=by delta qB QTX;kernel_rfl
theorem boRes (h:Hp):resS Tryz.prog (sE h).2.m (sE h).1 rsBo=some (vr 19).sv:=by kernel_rfl
end
end Go.Proofs.YtbbokgpklihkoaaGreatDoor.W.E
