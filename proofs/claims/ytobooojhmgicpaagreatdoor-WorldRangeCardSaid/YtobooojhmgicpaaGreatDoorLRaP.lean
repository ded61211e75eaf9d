/- LRaP -/
import Derived.Test.YtobooojhmgicpaaGreatDoorLRaB
set_option linter.unusedVariables false
set_option linter.unusedSimpArgs false
namespace Go.Proofs.YtobooojhmgicpaaGreatDoor.W.E
section
set_option maxRecDepth 100000
open Go.RowKit
theorem raP (a b c:Int):PT fo0 fRa nRa [(0,0),(1,1),(41,2)] kT 3 (lRa.take 9) (SS.tell (initT [.int .i64 a,.int .i64 b,.int .i64 c] 0 .e,st0 []) [(296,.val (.bool false)),(312,.val (.bool false))]) (sRa a b c 0 (hRa a b c)) .normal [some (SV.bool (eqI c 0))=some (SV.bool false),some (SV.bool (eqI c 0))=some (SV.bool false)]:=by delta PT;kernel_rfl
theorem raZ (a b c:Int):PE fo0 fRa nRa rsRa lRa (SS.tell (initT [.int .i64 a,.int .i64 b,.int .i64 c] 0 .e,st0 []) [(296,.val (.bool true)),(365,.val (.bool true))]) [some (SV.bool (eqI c 0))=some (SV.bool true),some (SV.bool (eqI c 0))=some (SV.bool true)]:=by delta PE;kernel_rfl
theorem raA (a b c:Int) (h:Hp):PA fo0 fRa nRa lT kT 3 (l1Ra.take 2) [0,1] (fun k=>sRa a b c k h) (fun k=>sRa a b c k h) .normal:=by delta PA;kernel_rfl
theorem raE (a b c:Int) (h:Hp):PT fo0 fRa nRa lT kT 3 (l1Ra.take 2) (SS.tell (sRa a b c 2 h) []) (sRa a b c 2 h) (.exit 0) []:=by delta PT;kernel_rfl
theorem raU (a b c:Int) (h:Hp) (it n:Int) (o:Bool) (i:Nat):PA fo0 fRa nRa lT kT 3 (l1Ra.drop 3) [0,1] (fun k=>sIn a b c k h it n o i) (fun k=>sRa a b c (k + 1) h) .normal:=by delta PA;kernel_rfl
theorem raI (a b c:Int) (k:Nat) (h:Hp) (it n:Int) (o:Bool):PA fo0 fRa nRa lI kI 4 (l2Ra.take 2) (List.range 60) (fun i=>sIn a b c k h it n o i) (fun i=>sIn a b c k h it n o i) .normal:=by delta PA;kernel_rfl
theorem raJ (a b c:Int) (k:Nat) (h:Hp) (it n:Int) (o:Bool):PT fo0 fRa nRa lI kI 4 (l2Ra.take 2) (SS.tell (sIn a b c k h it n o 60) []) (sIn a b c k h it n o 60) (.exit 2) []:=by delta PT;kernel_rfl
theorem raD (a b c:Int) (k:Nat) (h:Hp) (it n:Int) (o:Bool):PA fo0 fRa nRa lI kI 4 (l2Ra.drop 3) (List.range 60) (fun i=>sIn a b c k h it n o i) (fun i=>sIn a b c k h it n o (i + 1)) .normal:=by delta PA;kernel_rfl
theorem raF (a b c:Int) (h:Hp):PE fo0 fRa nRa rsRa (lRa.drop 10) (SS.tell (sRa a b c 2 h) []) []:=by delta PE;kernel_rfl
end
end Go.Proofs.YtobooojhmgicpaaGreatDoor.W.E
