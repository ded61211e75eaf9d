/- LAfB -/
import Derived.Test.YtbbokgpklihkoaaGreatDoorPart27
set_option linter.unusedVariables false
set_option linter.unusedSimpArgs false
namespace Go.Proofs.YtbbokgpklihkoaaGreatDoor.W.E
section
set_option maxRecDepth 100000
open Go.RowKit
abbrev fBo:Nat:=19
noncomputable abbrev nBo:Nat:=Tryz.f19.ntmps
noncomputable abbrev rsBo:Array ResultVar:=Tryz.f19.results
noncomputable def cBo:Code:=match Tryz.f19.body with
 | some c=>c
 | none=>.skip
noncomputable def kBo:List Code:=flatC cBo
noncomputable def b1Bo:Code:=unLoop (atC kBo 7)
noncomputable def k1Bo:List Code:=flatC b1Bo
noncomputable def b2Bo:Code:=unLoop (atC kBo 10)
noncomputable def k2Bo:List Code:=flatC b2Bo
theorem kBo_eq:flatC cBo=kBo.take 7++([.block 0 (.loop b1Bo)]++((kBo.drop 8).take 2++([.block 4 (.loop b2Bo)]++kBo.drop 11))):=by kernel_rfl
def extE:ExtT:=fun _=>none
theorem extE_ok:∀ f h,extE f=some h→extP f h:=fun f h hf=>by cases hf
abbrev OB:=Int × Ob
def obB (n:Nat) (k:OB) (D:SV):List (Nat × SB):=[(n,.cells [.int .i64 k.1,.int .i64 k.2.kind,.str k.2.name,.int .i64 k.2.num,.sl (n + 1) 0 k.2.items.length 3 (match k.2.items with | []=>some 0 | _=>none),D] false [] (some 120)),(n + 1,.cells (k.2.items.flatMap V.svc) false [] (some 23))]
def obsB (s:Nat):Nat→List OB→List (Nat × SB)
 | _,[]=>[]
 | n,k :: t=>obB n k .nils++obsB s (n + s) t
def cBoo:List OB:=bA.take 17
def oSpc:OB:=(1,⟨3,[],0,[],[]⟩)
def oExc:OB:=(19,⟨12,[101,120,99,101,112,116,105,111,110,115],0,[],[]⟩)
def ptB (n s k:Nat):List SV:=(List.range k).map fun j=>.ptr (n + s * j) 0
def clB (i:Nat):List SV:=(cBoo.take i).flatMap fun p=>(vr p.1).svc
def namB:List SV:=cBoo.map fun p=>.str p.2.name
def prB (i:Nat):List SV:=(cBoo.take i).flatMap fun p=>(vstr p.2.name).svc++(vr p.1).svc
def vB (v:V):SB:=.cells v.svc false [] (some 23)
def hpB (r k n:Nat):SB:=.cells [.sl r 0 k 1 none,.int .i64 (Int.ofNat n)] false [] (some 50)
def ckB:Nat→Option Nat
 | 0=>some 0
 | _ + 1=>none
abbrev k0Bo:SB:=.cells [.nils,.int .i64 0] false [] (some 50)
def sA (i:Nat) (h:Hp):SS:=(mkT [(0,.ptr 1 0),(2,.ptr 2 0),(3,.ptr 3 0),(4,.sl 4 0 17 1 (some 17)),(5,.sl 5 0 i 3 (ckB i)),(6,.int .i64 (Int.ofNat i))],
 ⟨mkT ([(1,hpB 6 (i + 1) (i + 1)),(2,vB ⟨0,0,[]⟩),(3,vB (vr 1)),(4,.cells namB false [] (some 9)),(5,.cells (clB i) false [] (some 23)),(6,.cells (ptB 10 3 (i + 1)) false [] (some 115))]++obsB 3 10 (oSpc :: cBoo.take i)),80,xH 0 h⟩)
def sC (i:Nat) (h:Hp):SS:=(mkT [(0,.ptr 1 0),(2,.ptr 2 0),(3,.ptr 3 0),(4,.sl 4 0 17 1 (some 17)),(5,.sl 5 0 17 3 none),(11,.ptr 7 0),(12,.int .i64 (Int.ofNat i))],
 ⟨mkT ([(1,hpB 6 19 19),(2,vB ⟨0,0,[]⟩),(3,vB (vr 1)),(4,.cells namB false [] (some 9)),(5,.cells (clB 17) false [] (some 23)),(6,.cells (ptB 10 3 19) false [] (some 115)),(7,vB (vr 19))]++obsB 3 10 (oSpc :: cBoo)++obB 64 oExc (match i with | 0=>.nils | j + 1=>.sl 66 0 (j + 1) 6 none)
  ++ (match i with | 0=>[] | j + 1=>[(66,.cells (prB (j + 1)) false [] (some 292))])),80,xH 0 h⟩)
def k1E:SB:=hpB 3 18 19
def ksE:List SB:=[vB (vr 19),.cells (ptB 5 2 18) false [] (some 115),.cells (prB 17) false [] (some 292)]++(obsB 2 5 cBoo++obB 39 oExc (.sl 4 0 17 6 none)).map Prod.snd
def sE (h:Hp):SS:=(mkT [(2,.ptr 2 0)],⟨addN (T.upd .e 1 (some k1E)) 2 ksE,41,xH 0 h⟩)
abbrev qB (live:Live) (keep:List Nat) (nx:Nat) (l:List Code) (s s2:SS) (x:Ex):Prop:=QTX extE fo0 fBo nBo live keep nx l s s2 x []
def sI (h:Hp):SS:=(initT [.ptr 1 0] 0 .e,⟨T.upd .e 1 (some k0Bo),2,xH 0 h⟩)
theorem boPl0:((kBo.take 7).all fun c=>planOkC (plan fBo) c)=true:=by kernel_rfl
theorem boPl1:(k1Bo.all fun c=>planOkC (plan fBo) c)=true:=by kernel_rfl
theorem boPl2:(((kBo.drop 8).take 2).all fun c=>planOkC (plan fBo) c)=true:=by kernel_rfl
theorem boPl3:(k2Bo.all fun c=>planOkC (plan fBo) c)=true:=by kernel_rfl
theorem boPl4:((kBo.drop 11).all fun c=>planOkC (plan fBo) c)=true:=by kernel_rfl
def lvB (l:List Nat) (c:Live):Live:=(0,0) :: (1,1) :: (l.map fun n=>(n,n))++c
theorem lvB_id {l:List Nat} {c:Live}:∀ b,b < 2→(b,b)∈lvB l c:=fun b hb=>match b,hb with
 | 0,_=>List.mem_cons_self ..
 | 1,_=>List.mem_cons_of_mem _ (List.mem_cons_self ..)
end
end Go.Proofs.YtbbokgpklihkoaaGreatDoor.W.E
