/- LSpB -/
import Derived.Test.YtlbcbikplfocfaaGreatDoorPart27
import Derived.Test.YtlbcbikplfocfaaGreatDoorPart28
set_option linter.unusedVariables false
set_option linter.unusedSimpArgs false
namespace Go.Proofs.YtlbcbikplfocfaaGreatDoor.W.E
section
set_option maxRecDepth 100000
open Go.RowKit
abbrev fSp:Nat:=4
noncomputable abbrev nSp:Nat:=Tryz.f4.ntmps
noncomputable abbrev rsSp:Array ResultVar:=Tryz.f4.results
noncomputable def cSp:Code:=match Tryz.f4.body with
 | some c=>c
 | none=>.skip
noncomputable def kSp:List Code:=flatC cSp
noncomputable def b1Sp:Code:=unLoop (atC kSp 9)
noncomputable def k1Sp:List Code:=flatC b1Sp
noncomputable def b2Sp:Code:=unLoop (atC kSp 11)
noncomputable def k2Sp:List Code:=flatC b2Sp
noncomputable def kbSp:List Code:=flatC (unBlock (atC k2Sp 2))
noncomputable def b4Sp:Code:=unLoop (atC kbSp 15)
noncomputable def k4Sp:List Code:=flatC b4Sp
theorem kSp_eq:flatC cSp=kSp.take 9++([.block 0 (.loop b1Sp)]++((kSp.drop 10).take 1++([.block 2 (.loop b2Sp)]++kSp.drop 12))):=by kernel_rfl
theorem k2Sp_eq:flatC b2Sp=k2Sp.take 2++([.block 3 (unBlock (atC k2Sp 2))]++k2Sp.drop 3):=by kernel_rfl
theorem kbSp_eq:flatC (unBlock (atC k2Sp 2))=kbSp.take 1++((kbSp.drop 1).take 2++((kbSp.drop 3).take 1++((kbSp.drop 4).take 1++((kbSp.drop 5).take 1++((kbSp.drop 6).take 1++((kbSp.drop 7).take 1++((kbSp.drop 8).take 2++((kbSp.drop 10).take 1++((kbSp.drop 11).take 1++((kbSp.drop 12).take 3++([.block 4 (.loop b4Sp)]++((kbSp.drop 16).take 1++((kbSp.drop 17).take 1++kbSp.drop 18))))))))))))):=by kernel_rfl
abbrev sTE:List UInt8:=[84,121,112,101,69,114,114,111,114]
abbrev sC1:List UInt8:=[67]
abbrev sIni:List UInt8:=[95,95,105,110,105,116,95,95]
def nmS:Nat→List UInt8
 | 0=>[95,95,115,116,114,95,95]
 | 1=>[95,95,101,113,95,95]
 | 2=>[95,95,97,100,100,95,95]
 | 3=>[95,95,108,101,110,95,95]
 | 4=>[95,95,103,101,116,105,116,101,109,95,95]
 | 5=>[95,95,99,97,108,108,95,95]
 | 6=>[95,95,105,116,101,114,95,95]
 | _=>[95,95,110,101,120,116,95,95]
def aftS:Nat→Int
 | 0=>2
 | 1=>0
 | 2=>0
 | 3=>3
 | 4=>0
 | 5=>0
 | 6=>0
 | _=>4
def tkS (p:Int):Nat→Int
 | 0=>1
 | 1=>2
 | 2=>2
 | 3=>1
 | 4=>2
 | 5=>p
 | 6=>1
 | _=>1
def updS {α:Type} (f:Nat→α) (i:Nat) (x:α):Nat→α:=fun j=>bif Nat.beq j i then x else f j
def i8 (f:Nat→Int):SB:=.cells [.int .i64 (f 0),.int .i64 (f 1),.int .i64 (f 2),.int .i64 (f 3),.int .i64 (f 4),.int .i64 (f 5),.int .i64 (f 6),.int .i64 (f 7)] false [] (some 39)
def allM:SB:=.cells [.str (nmS 0),.str (nmS 1),.str (nmS 2),.str (nmS 3),.str (nmS 4),.str (nmS 5),.str (nmS 6),.str (nmS 7)] false [] (some 9)
def rwS (g:Nat→List UInt8) (r:Nat):List SV:=(List.range r).map fun j=>.str (g j)
def vM (n:Int):SB:=.cells [.int .i64 4,.int .i64 n,.str []] false [] (some 27)
def vZ:SB:=.cells [.int .i64 0,.int .i64 0,.str []] false [] (some 27)
def ckT:Nat→Option Nat
 | 0=>some 0
 | _ + 1=>none
def SS.w3 (s:SS) (cs:List SV):SS:=(s.1,⟨s.2.m.upd 3 (some (.row cs (some 9))),s.2.nx,s.2.x⟩)
def hT (l:Obs) (m:Int):HX:=⟨some (1,hZ l m),0,[],[],[]⟩
def tB (r:Nat) (ck:Option Nat):List (Nat × SV):=[(2,.bool false),(3,.bool true),(4,.ptr 2 0),(6,.sl 3 0 r 1 ck),(7,.ptr 4 0)]
def s1 (x:Int) (i r:Nat) (cd:Nat→Int):SS:=(mkT ((0,.int .i64 x) :: (5,.sl 12 0 8 1 (some 8)) :: (8,.int .i64 (Int.ofNat i)) :: tB r (ckT r)),⟨mkT [(2,wldAt 1 []),(4,i8 cd),(12,allM)],13,hT (lZ [] []) 20⟩)
def sT (p:Int) (r:Nat) (ck:Option Nat) (cd:Nat→Int) (l:Obs) (m:Int):SS:=(mkT ((9,.int .i64 p) :: tB r ck),⟨mkT [(2,wldAt 1 []),(4,i8 cd)],40,hT l m⟩)
def sCl (p:Int) (r:Nat) (ck:Option Nat) (cd:Nat→Int) (l:Obs) (m c:Int):SS:=(mkT ((9,.int .i64 p) :: (10,.ptr 5 0) :: tB r ck),⟨mkT [(2,wldAt 1 []),(4,i8 cd),(5,vM c)],40,hT l m⟩)
structure Lt where
 r:Nat
 ck:Option Nat
 cd:Nat→Int
 kk:Nat→Int
 vk:Nat→Int
 vn:Nat→Int
 vs:Nat→List UInt8
def Lt.set (w:Lt) (i:Nat) (a b c:Int) (s:List UInt8):Lt:=⟨w.r,w.ck,w.cd,updS w.kk i a,updS w.vk i b,updS w.vn i c,updS w.vs i s⟩
def actL (w:Lt) (p i k j:Nat):List SV:=bif Nat.blt j i then (bif Nat.testBit k j
  then [.int .i64 3,.int .i64 (w.cd j),.int .i64 (aftS j),.int .i64 0,.int .i64 0,.str [],.int .i64 0,.int .i64 0,.str [],.sl (20 + 2 * j) 0 p 3 none,.sl (21 + 2 * j) 6 0 3 none]
  else [.int .i64 (w.kk j),.int .i64 0,.int .i64 0,.int .i64 (w.vk j),.int .i64 (w.vn j),.str (w.vs j),.int .i64 0,.int .i64 0,.str [],.nils,.nils])
 else [.int .i64 0,.int .i64 0,.int .i64 0,.int .i64 0,.int .i64 0,.str [],.int .i64 0,.int .i64 0,.str [],.nils,.nils]
def argS (p:Nat) (o:Int):SB:=.cells (bif Nat.beq p 1 then [.int .i64 4,.int .i64 o,.str []] else [.int .i64 4,.int .i64 o,.str [],.int .i64 2,.int .i64 1,.str []]) false [] (some 27)
def itS (p:Nat):SB:=.cells [.int .i64 2,.int .i64 (Int.ofNat p),.str [],.int .i64 2,.int .i64 0,.str []] false [] (some 27)
def rowsS (p i k:Nat) (o:Int):List (Nat × SB):=(List.range 8).flatMap fun j=>bif Nat.blt j i && Nat.testBit k j then [(20 + 2 * j,argS p o),(21 + 2 * j,itS p)] else []
def memS (w:Lt) (p i k:Nat) (o:Int):List (Nat × SB):=(2,wldAt 1 []) :: (4,i8 w.cd) :: (6,vM o) :: (7,.cells ((List.range 8).flatMap (actL w p i k)) false [] (some 42)) :: rowsS p i k o
def sA (w:Lt) (p i k:Nat) (l:Obs) (m o:Int):SS:=(mkT ((9,.int .i64 (Int.ofNat p)) :: (11,.ptr 6 0) :: (12,.ptr 7 0) :: tB w.r w.ck),⟨mkT (memS w p i k o),40,hT l m⟩)
def sK (w:Lt) (p i k:Nat) (l:Obs) (m o:Int):SS:=(mkT ((9,.int .i64 (Int.ofNat p)) :: (11,.ptr 6 0) :: (12,.ptr 7 0) :: (13,.ptr 8 0) :: (14,.ptr 9 0) :: (15,.int .i64 (Int.ofNat i)) :: tB w.r w.ck),⟨mkT ((8,i8 (tkS (Int.ofNat p))) :: (9,i8 aftS) :: memS w p 8 k o),40,hT l m⟩)
def actV (k a n:Int):SB:=.cells [.int .i64 k,.int .i64 0,.int .i64 0,.int .i64 a,.int .i64 n,.str [],.int .i64 0,.int .i64 0,.str [],.nils,.nils] false [] (some 32)
def sZ (p:Int) (r:Nat) (ck:Option Nat) (cd:Nat→Int) (x:List (Nat × SV)) (y:List (Nat × SB)) (l:Obs) (m o:Int):SS:=(mkT (x++(9,.int .i64 p) :: (11,.ptr 6 0) :: tB r ck),⟨mkT (y++[(2,wldAt 1 []),(4,i8 cd),(6,vM o)]),40,hT l m⟩)
abbrev oIn (c:Int):Ob:=⟨6,sC1,0,[vr c],[]⟩
def fnO (p:Int) (q:Int):Ob:=⟨4,[102],q,[vnum p,vnum 0],[]⟩
def mks (p:Nat):Nat→List Nat
 | 0=>[0]
 | i + 1=>bif Nat.beq (bif Nat.beq i 5 then p else bif Nat.beq i 1 || Nat.beq i 2 || Nat.beq i 4 then 2 else 1) p then mks p i++(mks p i).map (· + 2 ^ i) else mks p i
def mkA (p i:Nat) (b:Bool):List Nat:=(mks p 8).filter fun k=>Nat.testBit k i == b
abbrev fCl:Nat:=15
noncomputable abbrev nCl:Nat:=Tryz.f15.ntmps
noncomputable def cCl:Code:=match Tryz.f15.body with
 | some c=>c
 | none=>.skip
noncomputable def kCl:List Code:=flatC cCl
noncomputable def bCl:Code:=unLoop (atC kCl 3)
noncomputable def k1Cl:List Code:=flatC bCl
theorem kCl_eq:flatC cCl=kCl.take 3++([.block 0 (.loop bCl)]++kCl.drop 4):=by kernel_rfl
def cI (p:Int) (r:Nat) (g:Nat→List UInt8) (h:Hp):SS:=(initT [.ptr 2 0,.str sC1,.nils,.sl 0 0 r 1 (ckT r),.int .i64 p] 0 .e,⟨mkT [(0,.row (rwS g r) (some 9)),(2,wldAt 1 [])],3,⟨some (1,h),0,[],[],[]⟩⟩)
def cS (p:Int) (r i:Nat) (g:Nat→List UInt8) (l:Obs) (m s:Int):SS:=(mkT [(0,.ptr 2 0),(1,.str sC1),(2,.nils),(3,.sl 0 0 r 1 (ckT r)),(4,.int .i64 p),(10,.ptr 3 0),(11,.ptr 4 0),(12,.int .i64 (Int.ofNat i))],⟨mkT [(0,.row (rwS g r) (some 9)),(2,wldAt 1 []),(3,vZ),(4,vM s)],5,hT l m⟩)
def cZ (r:Nat) (g:Nat→List UInt8) (l:Obs) (m c:Int):SS:=(mkT [(10,.ptr 3 0)],⟨mkT [(0,.row (rwS g r) (some 9)),(2,wldAt 1 []),(3,vM c)],4,hT l m⟩)
def prC:List Nat:=(List.range 9).flatMap fun r=>(List.range r).map fun i=>r * 16 + i
def prA:List Nat:=(List.range 8).flatMap fun i=>(List.range (i + 1)).map fun r=>i * 16 + r
abbrev oSp (d:Row):Ob:=⟨3,[],0,[],d⟩
def qFind (o b:Nat) (l:Obs) (n m:Int) (s:List UInt8) (x:V) (t:Bool):TE:=(o,.res (vt x t) (hZ l n),tRes xFind b (hZ l n) [(vr m).sv,.str s] (vt x t) (hZ l n))
def qSubF (o b:Nat) (l:Obs) (n x y:Int):TE:=(o,.res (.bool false) (hZ l n),tRes xSub b (hZ l n) [(vr x).sv,(vr y).sv] (.bool false) (hZ l n))
def EP:Type:={e:TE // e.2.2}
def plT (l:List EP):TL:=l.map Subtype.val
theorem plT_ok:∀ l:List EP,(plT l).ok
 | []=>trivial
 | e :: t=>And.intro e.2 (plT_ok t)
def qBit (o:Nat) (x:Int) (i:Nat) (b:Int):TE:=qI o (some (.int .i64 (andI (Int.fdiv x (2 ^ i)) 1))) (.int .i64 b)
theorem zItems {l:Obs} {n m:Int} {o:Ob} (e:get l m=some o) {xs:List V} (h:o.items=xs):(hZ l n).items (vr m)=xs:=by unfold Hp.items;rw [of_vr,e];exact h
theorem spNV (o:Int):binV Tryz.prog .neq 27 false (vr o).sv (vr o).sv=some (.bool false):=by
 have key:∃ F:Bool→Option SV,binV Tryz.prog .neq 27 false (vr o).sv (vr o).sv=F (o == o)∧F true=some (.bool false) :=
  ⟨fun b=>match (match some b with | some true=>some true | some false=>some false | none=>none) with | some r=>some (.bool (!r)) | none=>none,by kernel_rfl,rfl⟩
 obtain ⟨F,h1,h2⟩:=key
 rw [h1,beq_iff_eq.2 rfl,h2]
structure Fc (z:Obs) (n c:Int) (u:Nat) (d:Row):Prop where
 H:HJ (lZ [] z) n u
 hu:u + 10≤uMax
 hc:get (lZ [] z) c=some (oCl sC1 d)
structure Fx (z:Obs) (n c o:Int) (u:Nat) (d:Row):Prop extends Fc z n c u d where
 ho:get (lZ [] z) o=some (oIn c)
abbrev Wy (d:Row) (i:Nat) (f:Int):Prop:=W.get d (vstr (nmS i))=some (vr f)
abbrev Wn (d:Row) (s:List UInt8):Prop:=W.get d (vstr s)=none
abbrev Fy (z:Obs) (f p q:Int):Prop:=get (lZ [] z) f=some (fnO p q)
section
variable {z:Obs} {n c o f p q:Int} {u i:Nat} {d:Row} {s:List UInt8} (Y:Fc z n c u d) (X:Fx z n c o u d) (t:Nat)
def pC:EP:=⟨qKind t 1 (lZ [] z) n c 5,zKind Y.hc rfl⟩
def pCi:EP:=⟨qItems t (lZ [] z) n c [],zItems Y.hc rfl⟩
def pCn:EP:=⟨qName t 1 (lZ [] z) n c sC1,zName Y.hc rfl⟩
def pCs (h:c≠2):EP:=⟨qSubF t 1 (lZ [] z) n c 2,zSubN Y.hc h⟩
def pM:EP:=⟨qMk t (lZ [] z) n 6 sC1 0 [vr c],tMk Y.H (Nat.le_trans (Nat.le_add_right _ _) Y.hu) ⟨by decide,by decide⟩ (by simp [uMax])⟩
def pU (h:Wn d s):EP:=⟨qFind t 1 (lZ [] z) n c s V.nil false,zFindN Y.hc h⟩
def pF (h:Wy d i f):EP:=⟨qFind t 1 (lZ [] z) n c (nmS i) (vr f) true,zFind Y.hc h⟩
def pG (_:Fc z n c u d) (t:Nat) (h:Fy z f p q):EP:=⟨qKind t 1 (lZ [] z) n f 4,zKind h rfl⟩
def pI (_:Fc z n c u d) (t:Nat) (h:Fy z f p q):EP:=⟨qItems t (lZ [] z) n f [vnum p,vnum 0],zItems h rfl⟩
def pN (_:Fc z n c u d) (t:Nat) (h:Fy z f p q):EP:=⟨qNum t 1 (lZ [] z) n f q,zNum h rfl⟩
def pO:EP:=⟨qKind t 1 (lZ [] z) n o 6,zKind X.ho rfl⟩
def pA:EP:=⟨qAt t 1 (lZ [] z) n o 0 (vr c) true,zAt X.ho (i:=0) rfl⟩
def pOi:EP:=⟨qItems t (lZ [] z) n o [vr c],zItems X.ho rfl⟩
def pOn:EP:=⟨qName t 1 (lZ [] z) n o sC1,zName X.ho rfl⟩
def pR (t2 t3:Nat):List EP:=[
 ⟨(t,.res (vr (n + 1)).sv (hZ (e1 (lZ [] z) n []) (n + 1)),mkP (hZ (lZ [] z) n) 2 [] 0 [] (vr (n + 1)).sv (hZ (e1 (lZ [] z) n []) (n + 1))),xE1 Y.H (Nat.le_trans (Nat.add_le_add_left (by decide) _) Y.hu) (by simp)⟩,
 ⟨(t2,.res (vr (n + 1 + 1)).sv (hZ (e2 (lZ [] z) n [] sTE 9 []) (n + 1 + 1)),mkP (hZ (e1 (lZ [] z) n []) (n + 1)) 6 sTE 0 [vr 9] (vr (n + 1 + 1)).sv (hZ (e2 (lZ [] z) n [] sTE 9 []) (n + 1 + 1))),xE2 Y.H (Nat.le_trans (Nat.add_le_add_left (by decide) _) Y.hu) (by simp)⟩,
 ⟨qPut t3 1 (e2 (lZ [] z) n [] sTE 9 []) (n + 1 + 1) (n + 1 + 1) (vstr sArgs) (vr (n + 1)) (e3 (lZ [] z) n [] sTE 9),xE3 Y.H (Nat.le_trans (Nat.add_le_add_left (by decide) _) Y.hu) (by simp)⟩]
variable {x:Int}
def pq (h:¬ x=3):EP:=⟨qI t (some (.bool (eqI x 3))) (.bool false),o_neq h⟩
def pgt (h:0 < x):EP:=⟨qI t (some (.bool (ltI 0 x))) (.bool true),o_lt h⟩
def pgf (h:¬ 0 < x):EP:=⟨qI t (some (.bool (ltI 0 x))) (.bool false),o_nlt h⟩
def pne (x:Int):EP:=⟨qI t (some (.bool (not (eqI x x)))) (.bool false),o_nne rfl⟩
def pnv (o:Int):EP:=⟨qI t (binV Tryz.prog .neq 27 false (vr o).sv (vr o).sv) (.bool false),spNV o⟩
end
def zE (z:Obs) (n:Int):Obs:=z++[(n + 1,o1 [])]++[(n + 1 + 1,o2 sTE 9 [(vstr sArgs,vr (n + 1))])]
def runP (p j:Nat):Bool:=match j with
 | 0=>Nat.beq p 1
 | 1=>Nat.beq p 2
 | 2=>Nat.beq p 2
 | 3=>Nat.beq p 1
 | 4=>Nat.beq p 2
 | 5=>true
 | _=>Nat.beq p 1
abbrev v4:Live:=[(1,1),(2,2),(3,3),(4,4)]
def vS (p i:Nat):Live:=v4++((6,6) :: (7,7) :: ((List.range i).filter (runP p)).flatMap fun j=>[(20 + 2 * j,20 + 2 * j),(21 + 2 * j,21 + 2 * j)])
theorem vS_3 (p i:Nat) (t:Live):(3,3)∈vS p i++t:=by simp [vS]
abbrev k6:List Nat:=[9,2,3,4,6,7]
abbrev kA:List Nat:=11 :: 12 :: k6
abbrev kK:List Nat:=13 :: 14 :: 15 :: kA
noncomputable def cdS:Nat→List Code
 | 0=>(kbSp.drop 3).take 1
 | 1=>(kbSp.drop 4).take 1
 | 2=>(kbSp.drop 5).take 1
 | 3=>(kbSp.drop 6).take 1
 | 4=>(kbSp.drop 7).take 1
 | 5=>(kbSp.drop 8).take 2
 | 6=>(kbSp.drop 10).take 1
 | _=>(kbSp.drop 11).take 1
abbrev QY (rs:List SV) (live:Live) (keep:List Nat) (l:List Code) (is:List Nat) (s s2:Nat→SS) (pl:List EP):Prop:=QA (foW fo0 3 rs) fSp nSp live keep 40 l is s s2 .normal fun _=>plT pl
abbrev QR (rs:List SV) (w:Lt) (p i:Nat) (live:Live) (z:Obs) (n o:Int) (pl:List EP):Prop:=QY rs (vS p i++live) kA (cdS i) (mks p i) (fun k=>sA w p i k (lZ [] z) n o) (fun k=>sA w p (i + 1) (k + 2 ^ i) (lZ [] z) n o) pl
abbrev QN (rs:List SV) (w:Lt) (p i:Nat) (z:Obs) (n o:Int) (z':Obs) (n':Int) (a v1 v2:Int) (s:List UInt8) (pl:List EP):Prop:=QY rs (vS p i++[]) kA (cdS i) (mks p i) (fun k=>sA w p i k (lZ [] z) n o) (fun k=>sA (w.set i a v1 v2 s) p (i + 1) k (lZ [] z') n' o) pl
abbrev QL (rs:List SV) (w:Lt) (p i:Nat) (b:Bool) (l:Obs) (m o:Int) (pl:List EP):Prop:=QY rs (vS p 8++[(8,8),(9,9)]) kK k4Sp (mkA p i b) (fun k=>sK w p i k l m o) (fun k=>sK w p (i + 1) k l m o) pl
end
end Go.Proofs.YtlbcbikplfocfaaGreatDoor.W.E
