/- LNaB -/
import Derived.Test.YtobooojhmgicpaaGreatDoorPart28
set_option linter.unusedVariables false
set_option linter.unusedSimpArgs false
namespace Go.Proofs.YtobooojhmgicpaaGreatDoor.W.E
section
set_option maxRecDepth 100000
open Go.RowKit
abbrev fNa:Nat:=7
noncomputable abbrev nNa:Nat:=Tryz.f7.ntmps
noncomputable abbrev rsNa:Array ResultVar:=Tryz.f7.results
noncomputable def cNa:Code:=match Tryz.f7.body with
 | some c=>c
 | none=>.skip
noncomputable def kNa:List Code:=flatC cNa
noncomputable def b1Na:Code:=unLoop (atC kNa 9)
noncomputable def k1Na:List Code:=flatC b1Na
noncomputable def kbNa:List Code:=flatC (unBlock (atC k1Na 2))
noncomputable def b2Na:Code:=unLoop (atC kbNa 4)
noncomputable def k2Na:List Code:=flatC b2Na
noncomputable def k3Na:List Code:=flatC (unBlock (atC k2Na 2))
theorem kNa_eq:flatC cNa=kNa.take 9++([.block 0 (.loop b1Na)]++kNa.drop 10):=by kernel_rfl
theorem k1Na_eq:flatC b1Na=k1Na.take 2++([.block 1 (unBlock (atC k1Na 2))]++k1Na.drop 3):=by kernel_rfl
theorem kbNa_eq:flatC (unBlock (atC k1Na 2))=kbNa.take 4++[.block 3 (.loop b2Na)]:=by kernel_rfl
theorem k2Na_eq:flatC b2Na=k2Na.take 2++([.block 4 (unBlock (atC k2Na 2))]++k2Na.drop 3):=by kernel_rfl
def nmL:List (List UInt8):=[[120],[108,101,110],[75,101,121,69,114,114,111,114],[121],[],[112,114,105,110,116],[69,120,99,101,112,116,105,111,110],[95,95,105,110,105,116,95,95]]
def nmN (k:Nat):List UInt8:=nmL.getD k []
def mNa (b:Nat→Bool) (j:Nat→Int):T SB:=mkT [(2,wldAt 1 []),(3,.cells [.str (nmN 0),.str (nmN 1),.str (nmN 2),.str (nmN 3),.str (nmN 4),.str (nmN 5),.str (nmN 6),.str (nmN 7)] false [] (some 48)),
 (4,.cells [.bool (b 0),.bool (b 1),.bool (b 2),.bool (b 3),.bool (b 4),.bool (b 5),.bool (b 6),.bool (b 7)] false [] (some 49)),
 (5,.cells [.int .i64 (j 0),.int .i64 (j 1),.int .i64 (j 2),.int .i64 (j 3),.int .i64 (j 4),.int .i64 (j 5),.int .i64 (j 6),.int .i64 (j 7)] false [] (some 50))]
def tNa (n i:Nat):List (Nat × SV):=[(0,.sl 0 0 n 3 none),(2,.bool false),(3,.bool true),(4,.ptr 2 0),(5,.ptr 3 0),(6,.ptr 4 0),(7,.ptr 5 0),(8,.int .i64 (Int.ofNat i))]
def sNa (n i:Nat) (b:Nat→Bool) (j:Nat→Int) (l:Obs) (m:Int):SS:=(mkT (tNa n i),⟨mNa b j,6,⟨some (1,hZ l m),0,[],[],[]⟩⟩)
def sNi (n i:Nat) (b:Nat→Bool) (j:Nat→Int) (l:Obs) (m:Int) (k:Nat):SS:=(mkT ((11,.int .i64 (Int.ofNat k)) :: tNa n i),⟨mNa b j,6,⟨some (1,hZ l m),0,[],[],[]⟩⟩)
abbrev pNa:List Nat:=[0,2,3,4,5,6,7,8]
abbrev pNi:List Nat:=[11,0,2,3,4,5,6,7,8]
abbrev vNa:Live:=[(0,0),(1,1),(2,2),(3,3),(4,4),(5,5)]
abbrev eName:List UInt8:=[78,97,109,101,69,114,114,111,114]
def qRow (o n i q:Nat):TE:=qI o (indexAddrV Tryz.prog 35 (.sl 0 0 n 3 none) (.int .i64 (Int.ofNat i))) (.ptr 0 q)
def qCell (o:Nat) (cs:List SV) (q j:Nat) (x:Int):TE:=qI o (cs[q + j]?) (.int .i64 x)
end
end Go.Proofs.YtobooojhmgicpaaGreatDoor.W.E
