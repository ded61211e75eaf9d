/- LThB -/
import Derived.Test.YtildnolfgdcndaaGreatDoorPart28
set_option linter.unusedVariables false
set_option linter.unusedSimpArgs false
namespace Go.Proofs.YtildnolfgdcndaaGreatDoor.W.E
section
set_option maxRecDepth 100000
open Go.RowKit
abbrev fTh:Nat:=3
noncomputable abbrev nTh:Nat:=Tryz.f3.ntmps
noncomputable abbrev rsTh:Array ResultVar:=Tryz.f3.results
noncomputable def cTh:Code:=match Tryz.f3.body with
 | some c=>c
 | none=>.skip
noncomputable def kTh:List Code:=flatC cTh
noncomputable def b1Th:Code:=unLoop (atC kTh 7)
noncomputable def k1Th:List Code:=flatC b1Th
noncomputable def b2Th:Code:=unLoop (atC kTh 18)
noncomputable def k2Th:List Code:=flatC b2Th
noncomputable def kbTh:List Code:=flatC (unBlock (atC k2Th 2))
noncomputable def b3Th:Code:=unLoop (atC kTh 20)
noncomputable def k3Th:List Code:=flatC b3Th
theorem kTh_eq:flatC cTh=kTh.take 7++([.block 0 (.loop b1Th)]++((kTh.drop 8).take 4++((kTh.drop 12).take 6++([.block 2 (.loop b2Th)]++((kTh.drop 19).take 1++([.block 4 (.loop b3Th)]++((kTh.drop 21).take 1++((kTh.drop 22).take 1++((kTh.drop 23).take 1++kTh.drop 24))))))))):=by kernel_rfl
theorem k2Th_eq:flatC b2Th=k2Th.take 2++([.block 3 (unBlock (atC k2Th 2))]++k2Th.drop 3):=by kernel_rfl
theorem kbTh_eq:flatC (unBlock (atC k2Th 2))=kbTh.take 2++kbTh.drop 2:=by kernel_rfl
abbrev sWalk:List UInt8:=[119,97,108,107]
abbrev eStop:List UInt8:=[83,116,111,112,73,116,101,114,97,116,105,111,110]
def lT (k:Int) (R:List V):Obs:=bA++((20,⟨12,[109,97,105,110],0,[],[]⟩) :: (21,⟨k,[],0,R,[]⟩) :: [])
def wk (a:Nat):Ob:=⟨9,sWalk,0,[vr 21,vnum (Int.ofNat a)],[]⟩
def lI (k:Int) (R:List V) (a b:Nat) (z:Obs):Obs:=bA++((20,⟨12,[109,97,105,110],0,[],[]⟩) :: (21,⟨k,[],0,R,[]⟩) :: (22,wk a) :: (23,wk b) :: z)
def vM (n:Int):SB:=.cells [.int .i64 4,.int .i64 n,.str []] false [] (some 28)
def actT (k j n:Int):SB:=.cells [.int .i64 k,.int .i64 0,.int .i64 0,.int .i64 j,.int .i64 n,.str [],.int .i64 0,.int .i64 0,.str [],.nils,.nils] false [] (some 31)
def rwV (g:Nat→Int) (r:Nat):List SV:=(List.range r).flatMap fun j=>[.int .i64 2,.int .i64 (g j),.str []]
def rwL (g:Nat→Int) (r:Nat):List V:=(List.range r).map fun j=>vnum (g j)
def ckT:Nat→Option Nat
 | 0=>some 0
 | _ + 1=>none
def SS.w3 (s:SS) (cs:List SV):SS:=(s.1,⟨s.2.m.upd 3 (some (.row cs (some 28))),s.2.nx,s.2.x⟩)
def tB (r:Nat) (ck:Option Nat):List (Nat × SV):=[(4,.bool false),(5,.bool true),(6,.ptr 2 0),(7,.sl 3 0 r 3 ck)]
def hT (l:Obs) (m:Int):HX:=⟨some (1,hZ l m),0,[],[],[]⟩
def s1 (n:Nat) (tu:Bool) (i r:Nat) (ck:Option Nat):SS:=(mkT ((0,.sl 0 0 n 1 none) :: (1,.bool tu) :: (8,.int .i64 (Int.ofNat i)) :: tB r ck),⟨mkT [(2,wldAt 1 [])],4,hT (lZ [] []) 20⟩)
def s3 (r:Nat) (ck:Option Nat) (k:Int) (R:List V):SS:=(mkT ((10,.ptr 4 0) :: tB r ck),⟨mkT [(2,wldAt 1 []),(4,vM 21)],5,hT (lT k R) 21⟩)
abbrev m2:List (Nat × SB):=[(2,wldAt 1 []),(4,vM 21),(5,vM 22),(6,vM 23)]
def t2 (x:List (Nat × SV)) (r:Nat) (ck:Option Nat):List (Nat × SV):=x++(10,.ptr 4 0) :: (11,.ptr 5 0) :: (12,.ptr 6 0) :: tB r ck
def s2 (t i r:Nat) (ck:Option Nat) (l:Obs) (m:Int):SS:=(mkT (t2 [(t,.int .i64 (Int.ofNat i))] r ck),⟨mkT m2,7,hT l m⟩)
def s2b (i r:Nat) (ck:Option Nat) (l:Obs) (m x:Int):SS:=(mkT (t2 [(14,.int .i64 (Int.ofNat i)),(15,.ptr 7 0),(16,.ptr 8 0)] r ck),⟨mkT ((7,actT 1 2 x) :: (8,actT 1 2 x) :: m2),9,hT l m⟩)
def s6 (r:Nat) (ck:Option Nat) (l:Obs) (m c:Int):SS:=(mkT ((10,.ptr 4 0) :: (19,.ptr 5 0) :: tB r ck),⟨mkT [(2,wldAt 1 []),(4,vM 21),(5,actT 1 4 c)],6,hT l m⟩)
def s7 (r:Nat) (ck:Option Nat) (l:Obs) (m c:Int):SS:=(mkT ((10,.ptr 4 0) :: (19,.ptr 5 0) :: (20,.ptr 6 0) :: tB r ck),⟨mkT [(2,wldAt 1 []),(4,vM 21),(5,actT 1 4 c),(6,actT 1 2 (Int.ofNat r))],7,hT l m⟩)
def s8 (r:Nat) (ck:Option Nat) (l:Obs) (m c:Int):SS:=(mkT ((10,.ptr 4 0) :: (19,.ptr 5 0) :: (20,.ptr 6 0) :: (21,.ptr 7 0) :: tB r ck),⟨mkT [(2,wldAt 1 []),(4,vM 21),(5,actT 1 4 c),(6,actT 1 2 (Int.ofNat r)),(7,actT 1 1 1)],8,hT l m⟩)
def lA (k:Int) (R:List V) (n:Nat) (z:Obs) (m:Int) (a:Nat):Obs:=lI k R n n z++[(m + 1,wk a)]
def lB (k:Int) (R:List V) (n:Nat) (z:Obs) (m:Int):Obs:=lA k R n z m n++[(m + 1 + 1,⟨1,[],0,R,[]⟩)]
abbrev fAl:Nat:=266
noncomputable abbrev nAl:Nat:=Tryz.f266.ntmps
noncomputable def cAl:Code:=match Tryz.f266.body with
 | some c=>c
 | none=>.skip
noncomputable def kAl:List Code:=flatC cAl
noncomputable def bAl:Code:=unLoop (atC kAl 8)
noncomputable def k1Al:List Code:=flatC bAl
theorem kAl_eq:flatC cAl=kAl.take 7++((kAl.drop 7).take 1++([.block 0 (.loop bAl)]++kAl.drop 9)):=by kernel_rfl
abbrev mAl:List (Nat × SB):=[(0,vM 21),(2,wldAt 1 []),(3,actT 0 0 0)]
def aI (h:Hp):SS:=(initT [.ptr 2 0,.sl 0 0 1 3 none] 0 .e,⟨mkT [(0,vM 21),(2,wldAt 1 [])],3,⟨some (1,h),0,[],[],[]⟩⟩)
def aA (l:Obs) (m:Int):SS:=(mkT [(0,.ptr 2 0),(4,.ptr 3 0),(5,.ptr 4 0),(7,.nils)],⟨mkT ((4,vM m) :: mAl),5,hT l m⟩)
def aH0 (act:SB) (l:Obs) (m:Int):SS:=(mkT [(0,.ptr 2 0),(4,.ptr 3 0),(5,.ptr 4 0),(7,.nils),(8,.ptr 5 0)],⟨mkT ((4,vM m) :: (5,act) :: mAl),6,hT l m⟩)
def aH (k:Nat) (cs:List SV) (act:SB) (l:Obs) (m:Int):SS:=(mkT [(0,.ptr 2 0),(4,.ptr 3 0),(5,.ptr 4 0),(7,.sl 6 0 k 3 none),(8,.ptr 5 0)],⟨mkT ((4,vM m) :: (5,act) :: (6,.row cs (some 28)) :: mAl),7,hT l m⟩)
def aZ (l:Obs) (m c:Int):SS:=(mkT [(4,.ptr 3 0)],⟨mkT [(0,vM 21),(2,wldAt 1 []),(3,actT 1 4 c)],4,hT l m⟩)
abbrev pH:List Nat:=[0,4,5,7,8]
abbrev actL (c:Int):SV:=.agg [.int .i64 1,.int .i64 0,.int .i64 0,.int .i64 4,.int .i64 c,.str [],.int .i64 0,.int .i64 0,.str [],.nils,.nils]
def prs (lo n:Nat):List Nat:=(List.range' lo n).flatMap fun r=>(List.range r).map fun i=>r * 64 + i
abbrev p1:List Nat:=[0,1,8,4,5,6,7]
abbrev v1:Live:=[(0,0),(1,1),(2,2),(3,3)]
def qRow1 (o n i:Nat):TE:=qI o (indexAddrV Tryz.prog 22 (.sl 0 0 n 1 none) (.int .i64 (Int.ofNat i))) (.ptr 0 i)
def qCell1 (o:Nat) (cs:List SV) (i:Nat) (x:Int):TE:=qI o (cs[i]?) (.int .i64 x)
def qLt (o:Nat) (x y:Int) (b:Bool):TE:=qI o (some (.bool (ltI x y))) (.bool b)
def qGe (o:Nat) (x y:Int) (b:Bool):TE:=qI o (some (.bool (not (ltI x y)))) (.bool b)
def qNV (o:Nat) (x:Int):TE:=qI o (binV Tryz.prog .neq 28 false (vI x) (vI x)) (.bool false)
def qEV (o:Nat) (x:Int):TE:=qI o (binV Tryz.prog .eql 28 false (vI x) (vI x)) (.bool true)
def qInc (o i:Nat):TE:=qI o (some (.int .i64 (wrapF .i64 (Int.add (Int.ofNat i) 1)))) (.int .i64 (Int.ofNat (i + 1)))
end
end Go.Proofs.YtildnolfgdcndaaGreatDoor.W.E
