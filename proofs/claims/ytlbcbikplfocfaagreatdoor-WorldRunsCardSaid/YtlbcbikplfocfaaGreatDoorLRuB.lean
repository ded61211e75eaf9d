/- LRuB -/
import Derived.Test.YtlbcbikplfocfaaGreatDoorPart28
set_option linter.unusedVariables false
set_option linter.unusedSimpArgs false
namespace Go.Proofs.YtlbcbikplfocfaaGreatDoor.W.E
section
set_option maxRecDepth 100000
open Go.RowKit
abbrev fRu:Nat:=3
noncomputable abbrev nRu:Nat:=Tryz.f3.ntmps
noncomputable def cRu:Code:=match Tryz.f3.body with
 | some c=>c
 | none=>.skip
noncomputable def kRu:List Code:=flatC cRu
noncomputable abbrev rsRu:Array ResultVar:=Tryz.f3.results
def unThen:Code→Code
 | .cond _ a _=>a
 | c=>c
noncomputable def kbRu:List Code:=flatC (unThen (atC kRu 13))
noncomputable def bRu:Code:=unLoop (atC kRu 22)
noncomputable def k1Ru:List Code:=flatC bRu
theorem kRu_end:kRu.drop 15=(kRu.drop 15).take 7++([.block 2 (.loop bRu)]++kRu.drop 23):=by kernel_rfl
theorem kbRu_eq:flatC (unThen (atC kRu 13))=kbRu.take 4++kbRu.drop 4:=by kernel_rfl
abbrev fFu:Nat:=9
noncomputable abbrev nFu:Nat:=Tryz.f9.ntmps
noncomputable def cFu:Code:=match Tryz.f9.body with
 | some c=>c
 | none=>.skip
noncomputable def kFu:List Code:=flatC cFu
noncomputable def b1Fu:Code:=unLoop (atC kFu 3)
noncomputable def k1Fu:List Code:=flatC b1Fu
noncomputable def b2Fu:Code:=unLoop (atC kFu 5)
noncomputable def k2Fu:List Code:=flatC b2Fu
theorem kFu_eq:flatC cFu=kFu.take 3++([.block 0 (.loop b1Fu)]++((kFu.drop 4).take 1++([.block 2 (.loop b2Fu)]++kFu.drop 6))):=by kernel_rfl
def hT (l:Obs) (m:Int):HX:=⟨some (1,hZ l m),0,[],[],[]⟩
def vM (n:Int):SB:=.cells [.int .i64 4,.int .i64 n,.str []] false [] (some 27)
def vZ:SB:=.cells [.int .i64 0,.int .i64 0,.str []] false [] (some 27)
abbrev tyV:Option Nat:=some 27
def rwV (g:Nat→V) (r:Nat):List SV:=(List.range r).flatMap fun j=>(g j).svc
def rwL (g:Nat→V) (r:Nat):List V:=(List.range r).map g
def rwK (k v:Nat→Int) (r:Nat):List SV:=(List.range r).flatMap fun j=>[.int .i64 (k j),.int .i64 (v j),.str []]
def ckF (r:Nat):Option Nat:=bif Nat.beq r 3 then some 3 else none
def tF (d c:Int) (r:Nat):List (Nat × SV):=[(0,.ptr 2 0),(3,.int .i64 d),(4,.int .i64 c),(10,.ptr 3 0),(11,.sl 4 0 r 3 (ckF r))]
def mF (rs:List SV):T SB:=mkT [(2,wldAt 1 []),(3,vZ),(4,.row rs tyV)]
def fI (p d c:Int) (h:Hp):SS:=(initT [.ptr 2 0,.int .i64 5,.int .i64 p,.int .i64 d,.int .i64 c] 0 .e,⟨mkT [(2,wldAt 1 [])],3,⟨some (1,h),0,[],[],[]⟩⟩)
def f1 (d c:Int) (r i:Nat) (rs:List SV) (l:Obs) (m:Int):SS:=(mkT ((12,.int .i64 (Int.ofNat i)) :: tF d c r),⟨mF rs,5,hT l m⟩)
def f2 (d c:Int) (r j:Nat) (rs:List SV) (l:Obs) (m:Int):SS:=(mkT ((13,.int .i64 (Int.ofNat j)) :: tF d c r),⟨mF rs,5,hT l m⟩)
def fX (d c:Int) (r:Nat) (rs:List SV) (l:Obs) (m:Int):SS:=(mkT (tF d c r),⟨mF rs,5,hT l m⟩)
def fZ (l:Obs) (m x:Int):SS:=(mkT [(10,.ptr 3 0)],⟨mkT [(2,wldAt 1 []),(3,vM x)],4,hT l m⟩)
abbrev oCe (n:Int):Ob:=⟨10,[],0,[vnum n],[]⟩
abbrev oFn (q:Int) (xs:List V):Ob:=⟨4,[102],q,xs,[]⟩
def tA (p d c n:Int):List (Nat × SV):=[(0,.int .i64 p),(7,.bool true),(8,.ptr 2 0),(9,.int .i64 d),(10,.int .i64 c),(11,.int .i64 n)]
def s0 (x y0 y1 y2:Int) (b:Bool):SS:=(mkT [(0,.int .i64 x),(2,.bool b),(4,.ptr 3 0),(7,.bool true),(8,.ptr 2 0)],⟨mkT [(2,wldAt 1 []),(3,.cells [.int .i64 y0,.int .i64 y1,.int .i64 y2] false [] (some 22))],4,hT (lZ [] []) 20⟩)
def s1 (p d c n:Int) (b:Bool):SS:=(mkT ((2,.bool b) :: tA p d c n),⟨mkT [(2,wldAt 1 [])],3,hT (lZ [] []) 20⟩)
def s2 (p d c n:Int) (b:Bool) (F:Int) (l:Obs) (m:Int):SS:=(mkT ((12,.ptr 3 0) :: (2,.bool b) :: tA p d c n),⟨mkT [(2,wldAt 1 []),(3,vM F)],4,hT l m⟩)
def s3 (x:List (Nat × SV)) (p d c n:Int) (b:Bool) (r:Nat) (ck:Option Nat) (F:Int) (l:Obs) (m:Int):SS:=(mkT (x++(12,.ptr 3 0) :: (13,.sl 4 0 r 3 ck) :: (14,.ptr 5 0) :: (2,.bool b) :: tA p d c n),⟨mkT [(2,wldAt 1 []),(3,vM F),(5,vM F)],6,hT l m⟩)
def s3b (p d c n:Int) (r:Nat) (ck:Option Nat) (O Bo:Int) (l:Obs) (m:Int):SS:=(mkT ((13,.sl 4 0 r 3 ck) :: (14,.ptr 5 0) :: (16,.ptr 3 0) :: tA p d c n),⟨mkT [(2,wldAt 1 []),(3,vM O),(5,vM Bo)],6,hT l m⟩)
def s4 (p d c n:Int) (r:Nat) (ck:Option Nat) (C:Int) (l:Obs) (m:Int):SS:=(mkT ((13,.sl 4 0 r 3 ck) :: (14,.ptr 5 0) :: tA p d c n),⟨mkT [(2,wldAt 1 []),(5,vM C)],6,hT l m⟩)
def actB (k x:Int):SB:=.cells [.int .i64 k,.int .i64 0,.int .i64 0,.int .i64 4,.int .i64 x,.str [],.int .i64 0,.int .i64 0,.str [],.nils,.nils] false [] (some 32)
def actR (q:Int) (a:SV) (d c:Nat):SB:=.cells [.int .i64 3,.int .i64 q,.int .i64 0,.int .i64 0,.int .i64 0,.str [],.int .i64 0,.int .i64 0,.str [],a,.sl 8 (6 + d * 3) c 3 none] false [] (some 32)
def tC (p d c:Int) (r:Nat) (ck:Option Nat):List (Nat × SV):=[(0,.int .i64 p),(7,.bool true),(8,.ptr 2 0),(9,.int .i64 d),(10,.int .i64 c),(13,.sl 4 0 r 3 ck),(17,.ptr 6 0)]
def s5f (p d c:Int) (r:Nat) (ck:Option Nat) (l:Obs) (m:Int):SS:=(mkT (tC p d c r ck),⟨mkT [(2,wldAt 1 []),(6,actB 2 (m + 1 + 1))],7,hT (e3 l m [] [84,121,112,101,69,114,114,111,114] 9) (m + 1 + 1)⟩)
def s5 (p:Int) (d c:Nat) (cc:Int) (r:Nat) (ck:Option Nat) (q:Int) (a:SV) (l:Obs) (m:Int):SS:=(mkT (tC p (Int.ofNat d) cc r ck),⟨mkT [(2,wldAt 1 []),(6,actR q a d c)],9,hT l m⟩)
def s5z (p:Int) (d c:Nat) (cc:Int) (r:Nat) (ck:Option Nat) (q:Int) (l:Obs) (m:Int):SS:=(mkT (tC p (Int.ofNat d) cc r ck),⟨mkT [(2,wldAt 1 []),(6,actR q (.emp 7 3) d c),(7,.emp)],9,hT l m⟩)
def s6 (d c i:Nat) (q:Int) (a:SV) (l:Obs) (m:Int):SS:=(mkT [(7,.bool true),(8,.ptr 2 0),(10,.int .i64 (Int.ofNat c)),(17,.ptr 6 0),(19,.int .i64 (Int.ofNat i))],⟨mkT [(2,wldAt 1 []),(6,actR q a d c)],9,hT l m⟩)
def SS.wE (s:SS):SS:=(s.1,⟨s.2.m.upd 7 (some .emp),s.2.nx,s.2.x⟩)
def s7 (l:Obs) (m:Int):SS:=(mkT [(7,.bool true),(8,.ptr 2 0)],⟨mkT [(2,wldAt 1 [])],3,hT l m⟩)
def qLt (o:Nat) (x y:Int) (b:Bool):TE:=qI o (some (.bool (ltI x y))) (.bool b)
def qInc (o i:Nat):TE:=qI o (some (.int .i64 (wrapF .i64 (Int.add (Int.ofNat i) 1)))) (.int .i64 (Int.ofNat (i + 1)))
def qSubI (o:Nat) (x y z:Int):TE:=qI o (some (.int .i64 (wrapF .i64 (Int.sub x y)))) (.int .i64 z)
def qSlL (o b off n lo n2:Nat) (t:Nat) (x:Operand):TE:=qI o (sliceV Tryz.prog (mkT [(t,.int .i64 (Int.ofNat lo))]) 29 (.sl b off n 3 none) (some x) none none) (.sl b (off + lo * 3) n2 3 none)
def qSlH (o b off n hi:Nat) (t:Nat):TE:=qI o (sliceV Tryz.prog (mkT [(t,.int .i64 (Int.ofNat hi))]) 29 (.sl b off n 3 none) none (some (.tmp t)) none) (.sl b off hi 3 none)
abbrev QOB (ext:ExtT) (fo:Nat→Option (List SV)) (live:Nat→Live) (keep:List Nat) (nx:Nat) (oq:Nat→List Nat) (bs:Nat→List SB) (l:List Code) (is:List Nat) (s s2:Nat→SS) (x:Ex) (tl:Nat→TL):Prop :=
 (is.map fun i=>outO (live i) keep nx (oq i) (goX ext fo fRu nRu l ((s i).tell (tl i).sc)))=is.map fun i=>outP x (s2 i).1 (s2 i).2 (oqL (live i) (bs i)) ((tl i).ps []) (goX ext fo fRu nRu l ((s i).tell (tl i).sc))
theorem QOB.at {ext:ExtT} {fo:Nat→Option (List SV)} {live:Nat→Live} {keep:List Nat} {nx:Nat} {oq:Nat→List Nat} {bs:Nat→List SB} {l:List Code} {is:List Nat} {s s2:Nat→SS} {x:Ex} {tl:Nat→TL} (h:QOB ext fo live keep nx oq bs l is s s2 x tl) {i:Nat} (hi:i∈is):QO ext fo fRu nRu (live i) keep nx (oq i) (bs i) l (s i) (s2 i) x (tl i):=List.map_inj_left.1 h i hi
def ckN:Nat→Option Nat
 | 0=>some 0
 | _ + 1=>none
def ckB:Nat→Option Nat
 | 0=>some 1
 | _ + 1=>none
def gN (j:Nat):V:=vnum (Int.ofNat j)
def gB (O:Int):Nat→V
 | 0=>vr O
 | j + 1=>vnum (Int.ofNat j)
end
end Go.Proofs.YtlbcbikplfocfaaGreatDoor.W.E
