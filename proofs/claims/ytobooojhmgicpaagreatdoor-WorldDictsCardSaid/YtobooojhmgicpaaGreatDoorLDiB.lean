/- LDiB -/
import Derived.Test.YtobooojhmgicpaaGreatDoorPart29
set_option linter.unusedVariables false
set_option linter.unusedSimpArgs false
namespace Go.Proofs.YtobooojhmgicpaaGreatDoor.W.E
section
set_option maxRecDepth 100000
open Go.RowKit
abbrev fDi:Nat:=8
noncomputable abbrev nDi:Nat:=Tryz.f8.ntmps
noncomputable abbrev rsDi:Array ResultVar:=Tryz.f8.results
noncomputable def cDi:Code:=match Tryz.f8.body with
 | some c=>c
 | none=>.skip
def unC1:Code→Code
 | .cond _ a _=>a
 | c=>c
def unC2:Code→Code
 | .cond _ _ b=>b
 | c=>c
noncomputable def kDi:List Code:=flatC cDi
noncomputable def b1Di:Code:=unLoop (atC kDi 12)
noncomputable def k1Di:List Code:=flatC b1Di
noncomputable def kbDi:List Code:=flatC (unBlock (atC k1Di 2))
noncomputable def kSDi:List Code:=flatC (unBlock (atC kbDi 3))
noncomputable def cADi:Code:=unC1 (atC kSDi 2)
noncomputable def cBDi:Code:=unC2 (atC kSDi 2)
noncomputable def kADi:List Code:=flatC cADi
noncomputable def kBDi:List Code:=flatC cBDi
noncomputable def cCDi:Code:=unC1 (atC kBDi 1)
noncomputable def kCDi:List Code:=flatC cCDi
noncomputable def b2Di:Code:=unLoop (atC kCDi 5)
noncomputable def k2Di:List Code:=flatC b2Di
noncomputable def k3Di:List Code:=flatC (unBlock (atC k2Di 2))
noncomputable def b3Di:Code:=unLoop (atC kDi 17)
noncomputable def k4Di:List Code:=flatC b3Di
noncomputable def k5Di:List Code:=flatC (unBlock (atC k4Di 2))
theorem kDi_eq:flatC cDi=kDi.take 12++([.block 0 (.loop b1Di)]++((kDi.drop 13).take 1++(((kDi.drop 14).take 2)++((kDi.drop 16).take 1++([.block 5 (.loop b3Di)]++((kDi.drop 18).take 1++kDi.drop 19)))))):=by kernel_rfl
theorem k1Di_eq:flatC b1Di=k1Di.take 2++([.block 1 (unBlock (atC k1Di 2))]++k1Di.drop 3):=by kernel_rfl
theorem kbDi_eq:flatC (unBlock (atC k1Di 2))=kbDi.take 3++[.block 2 (unBlock (atC kbDi 3))]:=by kernel_rfl
theorem kSDi_eq:flatC (unBlock (atC kbDi 3))=kSDi.take 2++[.cond (.tmp 64) cADi cBDi]:=by kernel_rfl
theorem kADi_eq:flatC cADi=kADi.take 1++kADi.drop 1:=by kernel_rfl
theorem kBDi_eq:flatC cBDi=kBDi.take 1++[.cond (.tmp 95) cCDi (unC2 (atC kBDi 1))]:=by kernel_rfl
theorem kCDi_eq:flatC cCDi=kCDi.take 3++((kCDi.drop 3).take 2++([.block 3 (.loop b2Di)]++kCDi.drop 6)):=by kernel_rfl
theorem k2Di_eq:flatC b2Di=k2Di.take 2++([.block 4 (unBlock (atC k2Di 2))]++k2Di.drop 3):=by kernel_rfl
theorem k4Di_eq:flatC b3Di=k4Di.take 2++([.block 6 (unBlock (atC k4Di 2))]++k4Di.drop 3):=by kernel_rfl
def lD (D:Row) (z:Obs):Obs:=bA++((20,⟨12,[109,97,105,110],0,[],[]⟩) :: (21,⟨3,[],0,[],D⟩) :: (22,⟨7,[103,101,116],0,[vr 21,vfun [100,105,99,116,46,103,101,116]],[]⟩) :: (23,⟨7,[112,111,112],0,[vr 21,vfun [100,105,99,116,46,112,111,112]],[]⟩) :: z)
def refC (n:Int):SB:=.cells [.int .i64 4,.int .i64 n,.str []] false [] (some 26)
def mD (b:Nat→Bool) (j:Nat→Int):List (Nat × SB):=[(2,wldAt 1 []),(3,refC 21),(4,refC 22),(5,refC 23),
 (6,.cells [.bool (b 0),.bool (b 1),.bool (b 2),.bool (b 3),.bool (b 4),.bool (b 5),.bool (b 6),.bool (b 7)] false [] (some 49)),
 (7,.cells [.int .i64 (j 0),.int .i64 (j 1),.int .i64 (j 2),.int .i64 (j 3),.int .i64 (j 4),.int .i64 (j 5),.int .i64 (j 6),.int .i64 (j 7)] false [] (some 50))]
def tD (n i r:Nat) (ck:Option Nat):List (Nat × SV):=[(0,.sl 0 0 n 3 none),(2,.bool false),(3,.bool true),(4,.ptr 2 0),(5,.ptr 3 0),(6,.ptr 4 0),(7,.ptr 5 0),(8,.sl 8 0 r 1 ck),(9,.ptr 6 0),(10,.ptr 7 0),(11,.int .i64 (Int.ofNat i))]
def sD (x:List (Nat × SV)) (n i r:Nat) (ck:Option Nat) (b:Nat→Bool) (j:Nat→Int) (l:Obs) (m:Int):SS:=(mkT (x++tD n i r ck),⟨mkT (mD b j),9,⟨some (1,hZ l m),0,[],[],[]⟩⟩)
def sK (x:List (Nat × SV)) (n i r:Nat) (ck:Option Nat) (b:Nat→Bool) (j:Nat→Int) (l:Obs) (m:Int) (k:Nat):SS :=
 (mkT (x++((12,.int .i64 (Int.ofNat k)) :: (13,.ptr 9 0) :: tD n i r ck)),⟨mkT ((9,.cells [.int .i64 2,.int .i64 (Int.ofNat k),.str []] false [] (some 26)) :: mD b j),10,⟨some (1,hZ l m),0,[],[],[]⟩⟩)
def rowC (g:Nat→Int) (r:Nat):List SV:=(List.range r).map fun j=>.int .i64 (g j)
def ckp (p:Nat):Option Nat:=match p with
 | 0=>some 0
 | _=>none
def sF (n i r:Nat) (ck:Option Nat) (b:Nat→Bool) (j:Nat→Int) (l:Obs) (m:Int) (k q p:Nat) (cs:List SV):SS :=
 (mkT ((15,.sl 10 0 p 1 (ckp p)) :: (16,.int .i64 (Int.ofNat q)) :: (12,.int .i64 (Int.ofNat k)) :: (13,.ptr 9 0) :: tD n i r ck),⟨mkT ((10,.cells cs false [] (some 3)) :: (9,.cells [.int .i64 2,.int .i64 (Int.ofNat k),.str []] false [] (some 26)) :: mD b j),11,⟨some (1,hZ l m),0,[],[],[]⟩⟩)
def SS.w (s:SS) (cs:List SV):SS:=(s.1,⟨s.2.m.upd 8 (some (.row cs (some 3))),s.2.nx,s.2.x⟩)
abbrev pD:List Nat:=[0,2,3,4,5,6,7,8,9,10,11]
abbrev vD:Live:=[(0,0),(1,1),(2,2),(3,3),(4,4),(5,5),(6,6),(7,7),(8,8)]
abbrev vK:Live:=(9,9) :: vD
abbrev pK:List Nat:=12 :: 13 :: pD
abbrev eKey:List UInt8:=[75,101,121,69,114,114,111,114]
def qRow3 (o n i:Nat):TE:=qI o (indexAddrV Tryz.prog 35 (.sl 0 0 n 3 none) (.int .i64 (Int.ofNat i))) (.ptr 0 (i * 3))
def qCell3 (o:Nat) (cs:List SV) (i j:Nat) (x:Int):TE:=qI o (cs[i * 3 + j]?) (.int .i64 x)
def qCell1 (o:Nat) (cs:List SV) (i:Nat) (x:Int):TE:=qI o (cs[i]?) (.int .i64 x)
def qAnd (o:Nat) (x y z:Int):TE:=qI o (some (.int .i64 (andI x y))) (.int .i64 z)
def qOwn (o r i:Nat) (ck:Option Nat):TE:=qI o (indexAddrV Tryz.prog 43 (.sl 8 0 r 1 ck) (.int .i64 (Int.ofNat i))) (.ptr 8 i)
def qLt (o:Nat) (x y:Int) (b:Bool):TE:=qI o (some (.bool (ltI x y))) (.bool b)
def qGe (o:Nat) (x y:Int) (b:Bool):TE:=qI o (some (.bool (not (ltI x y)))) (.bool b)
def qEq (o:Nat) (x y:Int) (b:Bool):TE:=qI o (some (.bool (eqI x y))) (.bool b)
def qNe (o:Nat) (x y:Int) (b:Bool):TE:=qI o (some (.bool (not (eqI x y)))) (.bool b)
def qNV (o:Nat) (x:Int):TE:=qI o (binV Tryz.prog .neq 26 false (vI x) (vI x)) (.bool false)
def qEV (o:Nat) (x:Int):TE:=qI o (binV Tryz.prog .eql 26 false (vI x) (vI x)) (.bool true)
def qAdd (o:Nat) (x y z:Int):TE:=qI o (some (.int .i64 (wrapF .i64 (Int.add x y)))) (.int .i64 z)
def oB:Ob:=⟨7,[107,101,121,115],0,[vr 21,vfun [100,105,99,116,46,107,101,121,115]],[]⟩
def oL (ks:List V):Ob:=⟨1,[],0,ks,[]⟩
def oT (ks:List V):Ob:=⟨2,[],0,ks,[]⟩
def oW (t at_:Int):Ob:=⟨9,[119,97,108,107],0,[vr t,vnum at_],[]⟩
def l1 (l:Obs) (m:Int):Obs:=l++[(m + 1,oB)]
def l2 (l:Obs) (m:Int) (ks:List V):Obs:=l1 l m++[(m + 1 + 1,oL ks)]
def l3 (l:Obs) (m:Int) (ks:List V):Obs:=l2 l m ks++[(m + 1 + 1 + 1,oT ks)]
def l4 (l:Obs) (m:Int) (ks:List V) (a:Int):Obs:=l3 l m ks++[(m + 1 + 1 + 1 + 1,oW (m + 1 + 1 + 1) a)]
def sZ (x:List (Nat × SV)) (n i r:Nat) (ck:Option Nat) (b:Nat→Bool) (j:Nat→Int) (D:Row) (z:Obs) (m:Int) (ks:List V):SS :=
 (mkT (x++((18,.ptr 9 0) :: tD n i r ck)),⟨mkT ((9,refC (m + 1 + 1)) :: mD b j),10,⟨some (1,hZ (l2 (lD D z) m ks) (m + 1 + 1)),0,[],[],[]⟩⟩)
def sY (n i r:Nat) (ck:Option Nat) (b:Nat→Bool) (j:Nat→Int) (D:Row) (z:Obs) (m:Int) (ks:List V):SS :=
 (mkT ((20,.ptr 9 0) :: tD n i r ck),⟨mkT ((9,refC (m + 1 + 1 + 1 + 1)) :: mD b j),10,⟨some (1,hZ (l4 (lD D z) m ks 0) (m + 1 + 1 + 1 + 1)),0,[],[],[]⟩⟩)
end
end Go.Proofs.YtobooojhmgicpaaGreatDoor.W.E
