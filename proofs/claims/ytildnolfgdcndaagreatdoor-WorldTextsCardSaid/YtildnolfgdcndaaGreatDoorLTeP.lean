/- LTeP -/
import Derived.Test.YtildnolfgdcndaaGreatDoorLTeB
set_option linter.unusedVariables false
set_option linter.unusedSimpArgs false
namespace Go.Proofs.YtildnolfgdcndaaGreatDoor.W.E
section
set_option maxRecDepth 100000
open Go.RowKit
theorem teP (n:Int) (s:List UInt8) (b:Int):PT fo0 fTe nTe vTe pTe 3 (kTe.take 5) (SS.tell (initT [.int .i64 n,.str s,.int .i64 b] 0 .e,st0 []) []) (sTe n s b) .normal []:=by delta PT;kernel_rfl
theorem teA (n:Int) (s t:List UInt8) (b:Int) (q k:Nat):QTN fo0 fTe nTe [(1,1),(2,2)] pTe 3 ((kTe.drop 5).take 2) (sTe n s b) (sTe n t (Int.ofNat k)) .normal (tTeA s t b q k):=by delta QTN;kernel_rfl
theorem teB (n:Int) (t:List UInt8) (k:Nat) (c:Nat→UInt8):QAN fo0 fTe nTe [(1,1),(2,2),(54,3)] (9 :: pTe) 4 [atC kTe 7] (List.range' 1 20) (fun _=>sTe n t (Int.ofNat k)) (fun L=>sTf n t (Int.ofNat k) (tx c L)) .normal (tTeB n c):=by delta QAN;kernel_rfl
theorem teC (n:Int) (t T:List UInt8) (k:Nat):QEN fo0 fTe nTe rsTe (kTe.drop 8) (sTf n t (Int.ofNat k) T) (tTeZ n t T k):=by delta QEN;kernel_rfl
end
end Go.Proofs.YtildnolfgdcndaaGreatDoor.W.E
