/- LBuB LBuP -/
import Derived.Test.YtebdknkgplonmaaGreatDoorPart27
set_option linter.unusedVariables false
set_option linter.unusedSimpArgs false
namespace Go.Proofs.YtebdknkgplonmaaGreatDoor.W.E
section
set_option maxRecDepth 100000
open Go.RowKit
def bNames:List (List UInt8):=[[112,114,105,110,116],[108,101,110],[114,97,110,103,101],[115,116,114],[114,101,112,114],[105,110,116],[105,115,105,110,115,116,97,110,99,101],[105,116,101,114],[110,101,120,116],[108,105,115,116],[111,114,100],[99,104,114],[108,105,118,101],[99,111,108,108,101,99,116],[119,101,97,107],[100,101,114,101,102]]
def bName (i:Nat):List UInt8:=match bNames[i]? with
 | some s=>s
 | none=>[]
noncomputable def cBu:Code:=match Tryz.f10.body with
 | some c=>c
 | none=>.skip
noncomputable def lBu:List Code:=flatC cBu
def unLoop:Code→Code
 | .block _ (.loop c)=>c
 | c=>c
def unBlock:Code→Code
 | .block _ c=>c
 | c=>c
def atC (l:List Code) (k:Nat):Code:=match l[k]? with
 | some c=>c
 | none=>.skip
noncomputable def preBu:List Code:=lBu.take 11
noncomputable def bodyBu:Code:=unLoop (atC lBu 11)
noncomputable def sufBu:List Code:=lBu.drop 12
noncomputable def lbBu:List Code:=flatC bodyBu
noncomputable def inBu:List Code:=flatC (unBlock (atC lbBu 2))
theorem lBu_eq:flatC cBu=preBu++([.block 0 (.loop bodyBu)]++sufBu):=by kernel_rfl
theorem lbBu_eq:flatC bodyBu=lbBu.take 2++([.block 1 (unBlock (atC lbBu 2))]++lbBu.drop 3):=by kernel_rfl
theorem inBu_eq:flatC (unBlock (atC lbBu 2))=inBu.take 1++inBu.drop 1:=by kernel_rfl
def mkT {α:Type}:List (Nat × α)→T α
 | []=>.e
 | p :: t=>(mkT t).upd p.1 (some p.2)
def manyC:Nat→Nat→List SV
 | _,0=>[]
 | j,m + 1=>.int .i64 2 :: .int .i64 (Int.ofNat j) :: .str [] :: manyC (j + 1) m
def sBu (m:Nat) (i:Nat) (kn:Bool) (t out:List UInt8) (h:Hp):T SV × St HX :=
  (mkT [(1,.str t),(5,.bool true),(6,.ptr 1 0),(7,.sl 2 0 16 1 none),(8,.sl 3 0 16 1 (some 16)),(9,.bool kn),(10,.sl 4 0 m 3 none),(11,.int .i64 (Int.ofNat i))],
   ⟨mkT [(1,.cells [.ptr 0 0,.int .i64 4,.int .i64 19,.str [],.int .i64 4,.int .i64 20,.str [],.str out] false [] (some 58)),(2,.cells (bNames.map SV.str) false [] (some 9)),(3,.cells (bNames.map SV.str) false [] (some 9)),(4,.cells (manyC 0 m) false [] (some 27))],5,⟨some (0,h),0,[],[],[]⟩⟩)
abbrev keepBu:List Nat:=[1,5,6,7,8,9,10,11]
abbrev liveBu:Live:=[(0,0),(1,1),(2,2),(3,3),(4,4)]
def hBu:Hp:=((hpBoot hp0).1.make 12 [109,97,105,110] 0 []).1
def exBu (h:Hp):Hp:=(((h.make 2 [] 0 []).1.make 6 [84,121,112,101,69,114,114,111,114] 0 [⟨4,9,[]⟩]).1.put ((h.make 2 [] 0 []).1.make 6 [84,121,112,101,69,114,114,111,114] 0 [⟨4,9,[]⟩]).2 ⟨3,0,[97,114,103,115]⟩ (h.make 2 [] 0 []).2).1
def exsBu:Nat→Hp
 | 0=>hBu
 | n + 1=>exBu (exsBu n)
def withSc (p:T SV × St HX) (s:List (Nat × Sc)):St HX:=⟨p.2.m,p.2.nx,⟨p.2.x.h,0,s,[],[]⟩⟩
abbrev fBu:Nat:=10
noncomputable abbrev nBu:Nat:=Tryz.f10.ntmps
noncomputable abbrev goBu (l:List Code) (tm:T SV) (st:St HX):ExR HX:=runL extL 100000 100 fBu nBu l tm st
def minE (s:List UInt8):SV:=.int .i64 (if (20:Int) < Int.ofNat s.length then 20 else Int.ofNat s.length)
def sliceE (s:List UInt8) (q:Nat):Option SV:=match bounds3 ((T.e:T SV).upd 0 (some (.int .i64 (Int.ofNat q)))) s.length (some s.length) none (some (.tmp 0)) none with
 | some (l,h,_)=>some (.str ((s.drop l).take (h - l)))
 | none=>none
end
section
set_option maxRecDepth 100000
open Go.RowKit
abbrev scPre (q:Nat) (t:List UInt8) (k:Int):List (Nat × Sc):=[(194,.val (.int .i64 (Int.ofNat q))),(195,.val (.str t)),(200,.val (.int .i64 k))]
abbrev psPre (n:Int) (s t:List UInt8) (q:Nat) (k:Int):List Prop:=[some (SV.int .i64 (modI n 9))=some (SV.int .i64 k),sliceE s q=some (SV.str t),some (minE s)=some (SV.int .i64 (Int.ofNat q))]
noncomputable abbrev gPre (m:Nat) (k:Int) (n:Int) (s t:List UInt8) (q:Nat):ExR HX:=goBu preBu (initT [.int .i64 n,.str s] 0 .e) (st0 (scPre q t k))
abbrev RPre (pm m:Nat) (k:Int) (n:Int) (s t:List UInt8) (q:Nat):Prop:=outC [(0,0),(1,1),(50,2),(51,3),(pm,4)] keepBu 5 (gPre m k n s t q)=outD .normal (sBu m 0 false t [] hBu).1 (sBu m 0 false t [] hBu).2 (psPre n s t q k) (gPre m k n s t q)
theorem preBu4 (n:Int) (s t:List UInt8) (q:Nat):RPre 68 4 0 n s t q:=by delta RPre;kernel_rfl
theorem preBu5 (n:Int) (s t:List UInt8) (q:Nat):RPre 72 5 1 n s t q:=by delta RPre;kernel_rfl
theorem preBu6 (n:Int) (s t:List UInt8) (q:Nat):RPre 76 6 2 n s t q:=by delta RPre;kernel_rfl
theorem preBu7 (n:Int) (s t:List UInt8) (q:Nat):RPre 80 7 3 n s t q:=by delta RPre;kernel_rfl
theorem preBu8 (n:Int) (s t:List UInt8) (q:Nat):RPre 84 8 4 n s t q:=by delta RPre;kernel_rfl
theorem preBu9 (n:Int) (s t:List UInt8) (q:Nat):RPre 88 9 5 n s t q:=by delta RPre;kernel_rfl
theorem preBu10 (n:Int) (s t:List UInt8) (q:Nat):RPre 92 10 6 n s t q:=by delta RPre;kernel_rfl
theorem preBu11 (n:Int) (s t:List UInt8) (q:Nat):RPre 96 11 7 n s t q:=by delta RPre;kernel_rfl
theorem preBu12 (n:Int) (s t:List UInt8) (q:Nat):RPre 100 12 8 n s t q:=by delta RPre;kernel_rfl
end
end Go.Proofs.YtebdknkgplonmaaGreatDoor.W.E
