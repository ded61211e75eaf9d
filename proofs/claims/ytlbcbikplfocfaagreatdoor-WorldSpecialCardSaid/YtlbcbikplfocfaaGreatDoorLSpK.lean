/- LSpK -/
import Derived.Test.YtlbcbikplfocfaaGreatDoorLSpB
set_option linter.unusedVariables false
set_option linter.unusedSimpArgs false
namespace Go.Proofs.YtlbcbikplfocfaaGreatDoor.W.E
section
set_option maxRecDepth 100000
open Go.RowKit
abbrev vC:Live:=[(0,0),(1,1),(2,2),(3,3),(4,4)]
abbrev kC:List Nat:=[0,1,2,3,4,10,11,12]
section
variable (p:Int) (g:Nat→List UInt8) (l l':Obs) (m s:Int)
theorem clA:QA fo0 fCl nCl [(0,0),(1,1),(2,2),(3,3),(9,4)] kC 5 (kCl.take 3) (List.range 9) (fun r=>cI p r g (hZ l m)) (fun r=>cS p r 0 g (l++[(m + 1,oSp [])]) (m + 1) (m + 1)) .normal (fun _=>[qMk 20 l m 3 [] 0 []]):=by delta QA;kernel_rfl
abbrev ClR:Prop:=QA fo0 fCl nCl vC kC 5 k1Cl prC (fun q=>cS p (q / 16) (q % 16) g l m s) (fun q=>cS p (q / 16) (q % 16 + 1) g l' (m + 1) s) .normal (fun q=>[qMk 83 l m 4 [102] (Int.ofNat (q % 16 + 1)) [vnum p,vnum 0],qPut 128 1 (l++[(m + 1,fnO p (Int.ofNat (q % 16 + 1)))]) (m + 1) s (vstr (g (q % 16))) (vr (m + 1)) l'])
theorem clX:QA fo0 fCl nCl vC kC 5 k1Cl (List.range 9) (fun r=>cS p r r g l m s) (fun r=>cS p r r g l m s) (.exit 0) (fun _=>[]):=by delta QA;kernel_rfl
theorem clE (d:Row):QAX extCl fo0 fCl nCl [(0,0),(1,1),(2,2),(3,3)] [10] 4 (kCl.drop 4) (List.range 9) (fun r=>cS p r r g l m s) (fun r=>cZ r g ((l++[(m + 1,⟨2,[],0,[],[]⟩)])++[(m + 1 + 1,oCl sC1 d)]) (m + 1 + 1) (m + 1 + 1)) .ret (fun _=>[qMk 31 l m 2 [] 0 [],qKind 62 1 (l++[(m + 1,⟨2,[],0,[],[]⟩)]) (m + 1) (m + 1) 2,qItems 83 (l++[(m + 1,⟨2,[],0,[],[]⟩)]) (m + 1) (m + 1) [],qCls 92 (l++[(m + 1,⟨2,[],0,[],[]⟩)]) (m + 1) sC1 s d]):=by delta QAX;kernel_rfl
theorem clR1:ClR 1 g l l' m s:=by delta ClR QA;kernel_rfl
theorem clR2:ClR 2 g l l' m s:=by delta ClR QA;kernel_rfl
end
end
end Go.Proofs.YtlbcbikplfocfaaGreatDoor.W.E
