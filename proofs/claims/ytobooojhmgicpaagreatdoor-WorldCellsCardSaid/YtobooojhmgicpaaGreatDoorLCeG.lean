/- LCeG -/
import Derived.Test.YtobooojhmgicpaaGreatDoorLCeB
set_option linter.unusedVariables false
set_option linter.unusedSimpArgs false
namespace Go.Proofs.YtobooojhmgicpaaGreatDoor.W.E
section
set_option maxRecDepth 100000
open Go.RowKit
theorem ceG000 (cs:List SV) (n i:Nat) (j0 j1 j2:Int):PT (foC cs) fCe nCe vCe kCe 6 (lbCe.drop 4) (SS.tell (sCl n (false,false,false) (j0,j1,j2) i) []) (sCe n (false,false,false) (j0,j1,j2) i) .normal []:=by delta PT;kernel_rfl
theorem ceG100 (cs:List SV) (n i:Nat) (j0 j1 j2:Int):PT (foC cs) fCe nCe vCe kCe 6 (lbCe.drop 4) (SS.tell (sCl n (true,false,false) (j0,j1,j2) i) [(69,.val (.bool false))]) (sCe n (true,false,false) (j0,j1,j2) i) .normal [binV Tryz.prog .neq 26 false (vI j0) (vI j0)=some (SV.bool false)]:=by delta PT;kernel_rfl
theorem ceG110 (cs:List SV) (n i:Nat) (j0 j1 j2:Int):PT (foC cs) fCe nCe vCe kCe 6 (lbCe.drop 4) (SS.tell (sCl n (true,true,false) (j0,j1,j2) i) [(69,.val (.bool false)),(152,.val (.bool false))]) (sCe n (true,true,false) (j0,j1,j2) i) .normal [binV Tryz.prog .neq 26 false (vI j1) (vI j1)=some (SV.bool false),binV Tryz.prog .neq 26 false (vI j0) (vI j0)=some (SV.bool false)]:=by delta PT;kernel_rfl
theorem ceG010 (cs:List SV) (n i:Nat) (j0 j1 j2:Int):PT (foC cs) fCe nCe vCe kCe 6 (lbCe.drop 4) (SS.tell (sCl n (false,true,false) (j0,j1,j2) i) [(130,.val (.bool false))]) (sCe n (false,true,false) (j0,j1,j2) i) .normal [binV Tryz.prog .neq 26 false (vI j1) (vI j1)=some (SV.bool false)]:=by delta PT;kernel_rfl
theorem ceG011 (cs:List SV) (n i:Nat) (j0 j1 j2:Int):PT (foC cs) fCe nCe vCe kCe 6 (lbCe.drop 4) (SS.tell (sCl n (false,true,true) (j0,j1,j2) i) [(130,.val (.bool false)),(213,.val (.bool false))]) (sCe n (false,true,true) (j0,j1,j2) i) .normal [binV Tryz.prog .neq 26 false (vI j2) (vI j2)=some (SV.bool false),binV Tryz.prog .neq 26 false (vI j1) (vI j1)=some (SV.bool false)]:=by delta PT;kernel_rfl
theorem ceG001 (cs:List SV) (n i:Nat) (j0 j1 j2:Int):PT (foC cs) fCe nCe vCe kCe 6 (lbCe.drop 4) (SS.tell (sCl n (false,false,true) (j0,j1,j2) i) [(191,.val (.bool false))]) (sCe n (false,false,true) (j0,j1,j2) i) .normal [binV Tryz.prog .neq 26 false (vI j2) (vI j2)=some (SV.bool false)]:=by delta PT;kernel_rfl
theorem ceG101 (cs:List SV) (n i:Nat) (j0 j1 j2:Int):PT (foC cs) fCe nCe vCe kCe 6 (lbCe.drop 4) (SS.tell (sCl n (true,false,true) (j0,j1,j2) i) [(69,.val (.bool false)),(213,.val (.bool false))]) (sCe n (true,false,true) (j0,j1,j2) i) .normal [binV Tryz.prog .neq 26 false (vI j2) (vI j2)=some (SV.bool false),binV Tryz.prog .neq 26 false (vI j0) (vI j0)=some (SV.bool false)]:=by delta PT;kernel_rfl
theorem ceG111 (cs:List SV) (n i:Nat) (j0 j1 j2:Int):PT (foC cs) fCe nCe vCe kCe 6 (lbCe.drop 4) (SS.tell (sCl n (true,true,true) (j0,j1,j2) i) [(69,.val (.bool false)),(152,.val (.bool false)),(235,.val (.bool false))]) (sCe n (true,true,true) (j0,j1,j2) i) .normal [binV Tryz.prog .neq 26 false (vI j2) (vI j2)=some (SV.bool false),binV Tryz.prog .neq 26 false (vI j1) (vI j1)=some (SV.bool false),binV Tryz.prog .neq 26 false (vI j0) (vI j0)=some (SV.bool false)]:=by delta PT;kernel_rfl
end
end Go.Proofs.YtobooojhmgicpaaGreatDoor.W.E
