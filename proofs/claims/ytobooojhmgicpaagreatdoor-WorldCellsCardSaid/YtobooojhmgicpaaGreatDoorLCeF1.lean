/- LCeF1 -/
import Derived.Test.YtobooojhmgicpaaGreatDoorLCeB
set_option linter.unusedVariables false
set_option linter.unusedSimpArgs false
namespace Go.Proofs.YtobooojhmgicpaaGreatDoor.W.E
section
set_option maxRecDepth 100000
open Go.RowKit
theorem ceF100 (cs:List SV) (n i:Nat) (j0 j1 j2:Int):PE (foC cs) fCe nCe rsCe (lCe.drop 15) (SS.tell (sCe n (true,false,false) (j0,j1,j2) i) []) []:=by delta PE;kernel_rfl
theorem ceF101 (cs:List SV) (n i:Nat) (j0 j1 j2:Int):PE (foC cs) fCe nCe rsCe (lCe.drop 15) (SS.tell (sCe n (true,false,true) (j0,j1,j2) i) []) []:=by delta PE;kernel_rfl
theorem ceF110 (cs:List SV) (n i:Nat) (j0 j1 j2:Int):PE (foC cs) fCe nCe rsCe (lCe.drop 15) (SS.tell (sCe n (true,true,false) (j0,j1,j2) i) []) []:=by delta PE;kernel_rfl
theorem ceF111 (cs:List SV) (n i:Nat) (j0 j1 j2:Int):PE (foC cs) fCe nCe rsCe (lCe.drop 15) (SS.tell (sCe n (true,true,true) (j0,j1,j2) i) []) []:=by delta PE;kernel_rfl
end
end Go.Proofs.YtobooojhmgicpaaGreatDoor.W.E
