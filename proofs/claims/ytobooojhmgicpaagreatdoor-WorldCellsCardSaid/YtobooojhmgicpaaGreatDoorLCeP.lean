/- LCeP -/
import Derived.Test.YtobooojhmgicpaaGreatDoorLCeB
set_option linter.unusedVariables false
set_option linter.unusedSimpArgs false
namespace Go.Proofs.YtobooojhmgicpaaGreatDoor.W.E
section
set_option maxRecDepth 100000
open Go.RowKit
theorem ceP (cs:List SV) (n:Nat):PT (foC cs) fCe nCe [(0,0),(1,1),(2,2),(3,3),(4,4),(5,5)] kCe 6 (lCe.take 14) (SS.tell (initT [.sl 0 0 n 3 none] 0 .e,st0N 1 []) []) (sCe n (false,true,false) (0,5,0) 0) .normal []:=by delta PT;kernel_rfl
theorem ceN:PE fo0 fCe nCe rsCe lCe (SS.tell (initT [.nils] 0 .e,st0 []) []) []:=by delta PE;kernel_rfl
theorem ceTT (cs:List SV) (n i:Nat) (j:Int × Int × Int):PB (foC cs) fCe nCe vCe kCe 6 (l1Ce.take 2) shCe (fun b=>SS.tell (sCe n b j i) [(3,.val (.bool true)),(6,.val (.bool true))]) (fun b=>sCe n b j i) .normal [some (SV.bool (ltI (Int.ofNat i) 60))=some (SV.bool true),some (SV.bool (ltI (Int.ofNat i) (Int.ofNat n)))=some (SV.bool true)]:=by delta PB;kernel_rfl
theorem ceTF (cs:List SV) (n i:Nat) (j:Int × Int × Int):PB (foC cs) fCe nCe vCe kCe 6 (l1Ce.take 2) shCe (fun b=>SS.tell (sCe n b j i) [(3,.val (.bool false))]) (fun b=>sCe n b j i) (.exit 0) [some (SV.bool (ltI (Int.ofNat i) (Int.ofNat n)))=some (SV.bool false)]:=by delta PB;kernel_rfl
theorem ceTG (cs:List SV) (n i:Nat) (j:Int × Int × Int):PB (foC cs) fCe nCe vCe kCe 6 (l1Ce.take 2) shCe (fun b=>SS.tell (sCe n b j i) [(3,.val (.bool true)),(6,.val (.bool false))]) (fun b=>sCe n b j i) (.exit 0) [some (SV.bool (ltI (Int.ofNat i) 60))=some (SV.bool false),some (SV.bool (ltI (Int.ofNat i) (Int.ofNat n)))=some (SV.bool true)]:=by delta PB;kernel_rfl
theorem ceD (cs:List SV) (n:Nat) (j:Int × Int × Int) (b:Bool × Bool × Bool):PA (foC cs) fCe nCe vCe kCe 6 (l1Ce.drop 3) (List.range 60) (fun i=>sCe n b j i) (fun i=>sCe n b j (i + 1)) .normal:=by delta PA;kernel_rfl
end
end Go.Proofs.YtobooojhmgicpaaGreatDoor.W.E
