/- LRoB -/
import Derived.Test.YtobooojhmgicpaaGreatDoorPart29
set_option linter.unusedVariables false
set_option linter.unusedSimpArgs false
namespace Go.Proofs.YtobooojhmgicpaaGreatDoor.W.E
section
set_option maxRecDepth 100000
open Go.RowKit
abbrev fRo:Nat:=5
noncomputable abbrev nRo:Nat:=Tryz.f5.ntmps
noncomputable abbrev rsRo:Array ResultVar:=Tryz.f5.results
noncomputable def cRo:Code:=match Tryz.f5.body with
 | some c=>c
 | none=>.skip
def unC1:Code→Code
 | .cond _ a _=>a
 | c=>c
def unC2:Code→Code
 | .cond _ _ b=>b
 | c=>c
noncomputable def kRo:List Code:=flatC cRo
noncomputable def b1Ro:Code:=unLoop (atC kRo 10)
noncomputable def k1Ro:List Code:=flatC b1Ro
noncomputable def kbRo:List Code:=flatC (unBlock (atC k1Ro 2))
noncomputable def cARo:Code:=unC1 (atC kbRo 1)
noncomputable def cBRo:Code:=unC2 (atC kbRo 1)
noncomputable def kARo:List Code:=flatC cARo
noncomputable def kBRo:List Code:=flatC cBRo
noncomputable def cCRo:Code:=unC1 (atC kBRo 2)
noncomputable def cDRo:Code:=unC2 (atC kBRo 2)
noncomputable def b2Ro:Code:=unLoop (atC kRo 12)
noncomputable def k2Ro:List Code:=flatC b2Ro
noncomputable def k3Ro:List Code:=flatC (unBlock (atC k2Ro 2))
theorem kRo_eq:flatC cRo=kRo.take 10++([.block 0 (.loop b1Ro)]++((kRo.drop 11).take 1++([.block 2 (.loop b2Ro)]++kRo.drop 13))):=by kernel_rfl
theorem k1Ro_eq:flatC b1Ro=k1Ro.take 2++([.block 1 (unBlock (atC k1Ro 2))]++k1Ro.drop 3):=by kernel_rfl
theorem kbRo_eq:flatC (unBlock (atC k1Ro 2))=kbRo.take 1++([.cond (.tmp 45) cARo cBRo]++kbRo.drop 2):=by kernel_rfl
theorem kARo_eq:flatC cARo=kARo.take 2++kARo.drop 2:=by kernel_rfl
theorem kBRo_eq:flatC cBRo=kBRo.take 1++((kBRo.drop 1).take 1++[.cond (.tmp 70) cCRo cDRo]):=by kernel_rfl
theorem k2Ro_eq:flatC b2Ro=k2Ro.take 2++([.block 3 (unBlock (atC k2Ro 2))]++k2Ro.drop 3):=by kernel_rfl
def lR (R:List Int) (z:Obs):Obs:=bA++((20,⟨12,[109,97,105,110],0,[],[]⟩) :: (21,⟨1,[],0,R.map vnum,[]⟩) :: (22,⟨7,[97,112,112,101,110,100],0,[vr 21,vfun [108,105,115,116,46,97,112,112,101,110,100]],[]⟩) :: (23,⟨7,[112,111,112],0,[vr 21,vfun [108,105,115,116,46,112,111,112]],[]⟩) :: z)
abbrev mR:List (Nat × SB):=[(2,wldAt 1 []),(3,.cells [.int .i64 4,.int .i64 21,.str []] false [] (some 26)),(4,.cells [.int .i64 4,.int .i64 22,.str []] false [] (some 26)),(5,.cells [.int .i64 4,.int .i64 23,.str []] false [] (some 26))]
def tR (n i r:Nat) (ck:Option Nat):List (Nat × SV):=[(0,.sl 0 0 n 1 none),(2,.bool false),(3,.bool true),(4,.ptr 2 0),(5,.ptr 3 0),(6,.ptr 4 0),(7,.ptr 5 0),(8,.sl 6 0 r 1 ck),(9,.int .i64 (Int.ofNat i))]
def sR (x:List (Nat × SV)) (n i r:Nat) (ck:Option Nat) (l:Obs) (m:Int):SS:=(mkT (x++tR n i r ck),⟨mkT mR,7,⟨some (1,hZ l m),0,[],[],[]⟩⟩)
def sRa (x:List (Nat × SV)) (act:List SV) (n i r:Nat) (ck:Option Nat) (l:Obs) (m:Int):SS:=(mkT (x++((10,.ptr 7 0) :: tR n i r ck)),⟨mkT ((7,.cells act false [] (some 29)) :: mR),8,⟨some (1,hZ l m),0,[],[],[]⟩⟩)
def SS.w (s:SS) (cs:List SV):SS:=(s.1,⟨s.2.m.upd 6 (some (.row cs (some 3))),s.2.nx,s.2.x⟩)
def rowC (g:Nat→Int) (r:Nat):List SV:=(List.range r).map fun j=>.int .i64 (g j)
abbrev pR:List Nat:=[0,2,3,4,5,6,7,8,9]
abbrev vR:Live:=[(0,0),(1,1),(2,2),(3,3),(4,4),(5,5),(6,6)]
abbrev eIndex:List UInt8:=[73,110,100,101,120,69,114,114,111,114]
def qRow1 (o n i:Nat):TE:=qI o (indexAddrV Tryz.prog 43 (.sl 0 0 n 1 none) (.int .i64 (Int.ofNat i))) (.ptr 0 i)
def qCell1 (o:Nat) (cs:List SV) (i:Nat) (x:Int):TE:=qI o (cs[i]?) (.int .i64 x)
def qOwn (o r i:Nat) (ck:Option Nat):TE:=qI o (indexAddrV Tryz.prog 43 (.sl 6 0 r 1 ck) (.int .i64 (Int.ofNat i))) (.ptr 6 i)
def qLt (o:Nat) (x y:Int) (b:Bool):TE:=qI o (some (.bool (ltI x y))) (.bool b)
def qGe (o:Nat) (x y:Int) (b:Bool):TE:=qI o (some (.bool (not (ltI x y)))) (.bool b)
def qEq (o:Nat) (x y:Int) (b:Bool):TE:=qI o (some (.bool (eqI x y))) (.bool b)
def qNV (o:Nat) (x:Int):TE:=qI o (binV Tryz.prog .neq 26 false (vI x) (vI x)) (.bool false)
def qAdd (o:Nat) (x y z:Int):TE:=qI o (some (.int .i64 (wrapF .i64 (Int.add x y)))) (.int .i64 z)
def qSub (o:Nat) (x y z:Int):TE:=qI o (some (.int .i64 (wrapF .i64 (Int.sub x y)))) (.int .i64 z)
end
end Go.Proofs.YtobooojhmgicpaaGreatDoor.W.E
