/- LPrB -/
import Derived.Test.YtlbcbikplfocfaaGreatDoorPart28
import Derived.Test.YtlbcbikplfocfaaGreatDoorPart27
set_option linter.unusedVariables false
set_option linter.unusedSimpArgs false
namespace Go.Proofs.YtlbcbikplfocfaaGreatDoor.W.E
section
set_option maxRecDepth 100000
open Go.RowKit
abbrev fPr:Nat:=5
noncomputable abbrev nPr:Nat:=Tryz.f5.ntmps
noncomputable abbrev rsPr:Array ResultVar:=Tryz.f5.results
noncomputable def cPr:Code:=match Tryz.f5.body with
 | some c=>c
 | none=>.skip
noncomputable def kPr:List Code:=flatC cPr
noncomputable def b1Pr:Code:=unLoop (atC kPr 7)
noncomputable def k1Pr:List Code:=flatC b1Pr
noncomputable def kxPr:List Code:=flatC (unBlock (atC k1Pr 2))
noncomputable def b2Pr:Code:=unLoop (atC kxPr 3)
noncomputable def k2Pr:List Code:=flatC b2Pr
noncomputable def kyPr:List Code:=flatC (unBlock (atC k2Pr 2))
noncomputable def b3Pr:Code:=unLoop (atC kyPr 6)
noncomputable def k3Pr:List Code:=flatC b3Pr
theorem kPr_eq:flatC cPr=kPr.take 7++([.block 0 (.loop b1Pr)]++kPr.drop 8):=by kernel_rfl
theorem k1Pr_eq:flatC b1Pr=k1Pr.take 2++([.block 1 (unBlock (atC k1Pr 2))]++k1Pr.drop 3):=by kernel_rfl
theorem kxPr_eq:flatC (unBlock (atC k1Pr 2))=kxPr.take 3++([.block 2 (.loop b2Pr)]++((kxPr.drop 4).take 1++kxPr.drop 5)):=by kernel_rfl
theorem k2Pr_eq:flatC b2Pr=k2Pr.take 2++([.block 3 (unBlock (atC k2Pr 2))]++k2Pr.drop 3):=by kernel_rfl
theorem kyPr_eq:flatC (unBlock (atC k2Pr 2))=kyPr.take 3++((kyPr.drop 3).take 2++((kyPr.drop 5).take 1++([.block 4 (.loop b3Pr)]++kyPr.drop 7))):=by kernel_rfl
abbrev tyV:Option Nat:=some 27
abbrev sPrint:List UInt8:=[112,114,105,110,116]
abbrev eMem:List UInt8:=[77,101,109,111,114,121,69,114,114,111,114]
def hP (l:Obs) (m:Int):HX:=⟨some (8,hZ l m),0,[],[],[]⟩
def vT (k q:Nat):SV:=match k with
 | 0=>.nils
 | 1=>.we
 | _ + 2=>.sl 7 0 q 1 none
def gP (t:Nat→List UInt8):Nat→V
 | 0=>⟨5,0,sPrint⟩
 | j + 1=>⟨3,0,t j⟩
def rwP (t:Nat→List UInt8) (r:Nat):List SV:=(List.range r).flatMap fun j=>(gP t j).svc
def ckP:Nat→Option Nat
 | 0=>some 1
 | _ + 1=>none
def tP (k q n i:Nat) (out:List UInt8):List (Nat × SV):=[(0,.sl 0 0 n 1 none),(1,vT k q),(5,.bool true),(6,.ptr 9 0),(7,.str out),(8,.int .i64 (Int.ofNat i))]
def tR (j:Nat) (line:List UInt8):List (Nat × SV):=[(9,.str line),(10,.sl 10 0 (j + 1) 3 (ckP j))]
def mP (out:List UInt8) (t:Nat→List UInt8) (j:Nat):T SB:=mkT [(9,wldAt 8 out),(10,.row (rwP t (j + 1)) tyV)]
def p1 (k q n i:Nat) (out:List UInt8) (l:Obs) (m:Int):SS:=(mkT (tP k q n i out),⟨mkT [(9,wldAt 8 out)],10,hP l m⟩)
def p2 (k q n i:Nat) (out:List UInt8) (j:Nat) (line:List UInt8) (t:Nat→List UInt8) (l:Obs) (m:Int):SS:=(mkT ((11,.int .i64 (Int.ofNat j)) :: tR j line++tP k q n i out),⟨mP out t j,11,hP l m⟩)
def p2x (k q n i:Nat) (out:List UInt8) (j:Nat) (line:List UInt8) (t:Nat→List UInt8) (l:Obs) (m:Int):SS:=(mkT (tR j line++tP k q n i out),⟨mP out t j,11,hP l m⟩)
def p3 (x:List (Nat × SV)) (k q n i:Nat) (out:List UInt8) (j:Nat) (line:List UInt8) (t:Nat→List UInt8) (s one:List UInt8) (h:Nat) (l:Obs) (m:Int):SS:=(mkT (x++(12,.str s) :: (13,.str one) :: (14,.int .i64 (Int.ofNat h)) :: (11,.int .i64 (Int.ofNat j)) :: tR j line++tP k q n i out),⟨mP out t j,11,hP l m⟩)
def p2b (k q n i:Nat) (out:List UInt8) (j:Nat) (line:List UInt8) (t:Nat→List UInt8) (s:List UInt8) (l:Obs) (m:Int):SS:=(mkT ((11,.int .i64 (Int.ofNat j)) :: (9,.str line) :: (10,.sl 10 0 (j + 2) 3 none) :: tP k q n i out),⟨mkT [(9,wldAt 8 out),(10,.row (rwP t (j + 1)++(⟨3,0,s⟩:V).svc) tyV)],11,hP l m⟩)
def actN:SB:=.cells [.int .i64 1,.int .i64 0,.int .i64 0,.int .i64 0,.int .i64 0,.str [],.int .i64 0,.int .i64 0,.str [],.nils,.nils] false [] (some 32)
def actB (x:Int):SB:=.cells [.int .i64 2,.int .i64 0,.int .i64 0,.int .i64 4,.int .i64 x,.str [],.int .i64 0,.int .i64 0,.str [],.nils,.nils] false [] (some 32)
def p5 (k q n i:Nat) (out line out2:List UInt8) (a:SB) (l:Obs) (m:Int):SS:=(mkT ((9,.str line) :: (16,.ptr 10 0) :: tP k q n i out),⟨mkT [(9,wldAt 8 out2),(10,a)],11,hP l m⟩)
def pJoin (vs:List SV) (m:T SB) (_:Nat) (h:Option (Nat × Hp)) (s:Sc):Option Prop:=match vs with
 | [.sl b off n 1 _,.str sep]=>match m.get b with
  | some (.cells cs _ _ _)=>bif Nat.ble (off + n) cs.length && Nat.ble n 1000000000 then (match toSs ((cs.drop off).take n) with
   | some l=>match s with
    | .res (.str J) h'=>match h with
     | some p=>some ((Lib.join l sep=J∧J.length≤1000000000)∧p.2=h')
     | none=>none
    | _=>none
   | none=>none) else none
  | _=>none
 | _=>none
theorem pJoin_ok:∀ vs m nx h s p,pJoin vs m nx h s=some p→p→xJoin vs ⟨m,nx,⟨h,0,[],[],[]⟩⟩=toldS s ⟨m,nx,⟨h,0,[],[],[]⟩⟩:=by
 intro vs m nx h s p hp hq
 unfold pJoin at hp
 split at hp
 ·rename_i b off n ck sep
  split at hp
  ·rename_i cs ro sib ty hm
   cases hc:Nat.ble (off + n) cs.length && Nat.ble n 1000000000 with
   | false=>rw [hc] at hp;cases hp
   | true =>
    rw [hc,cond_true] at hp
    split at hp
    ·rename_i l hl
     split at hp
     ·rename_i J h'
      split at hp
      ·rename_i p0
       cases hp
       obtain ⟨⟨q1,q2⟩,q3⟩:=hq
       subst q3
       show (match m.get b with
        | some (.cells cs _ _ _)=>bif Nat.ble (off + n) cs.length && Nat.ble n 1000000000 then match toSs ((cs.drop off).take n) with
         | some l=>let r:=Lib.join l sep;bif Nat.ble r.length 1000000000 then some (SV.str r,(⟨m,nx,⟨some p0,0,[],[],[]⟩⟩:St HX)) else none
         | none=>none
         else none
        | _=>none)=_
       rw [hm]
       simp only [hc,cond_true,hl,q1,Nat.ble_eq_true_of_le q2]
       rfl
      ·cases hp
     ·cases hp
    ·cases hp
  ·cases hp
 ·cases hp
def extJ:ExtT:=fun f=>bif Nat.beq f 300 then some (xToldG xJoin pJoin) else extS f
theorem extJ_ok:∀ f h,extJ f=some h→extP f h:=extS_one (x:=xJoin) (extS_told (by kernel_rfl) pJoin_ok) extS_ok
def qJoin (o:Nat) (ls:List (List UInt8)) (J:List UInt8) (l:Obs) (m:Int):TE:=(o,.res (.str J) (hZ l m),(Lib.join ls [32]=J∧J.length≤1000000000)∧hZ l m=hZ l m)
def qLt (o:Nat) (x y:Int) (b:Bool):TE:=qI o (some (.bool (ltI x y))) (.bool b)
def qInc (o i:Nat):TE:=qI o (some (.int .i64 (wrapF .i64 (Int.add (Int.ofNat i) 1)))) (.int .i64 (Int.ofNat (i + 1)))
def qApp (o:Nat) (s t u:List UInt8):TE:=qI o (binS .add s t) (.str u)
def qLnS (o:Nat) (v:SV) (n:Nat):TE:=qI o (lenV Tryz.prog 38 v) (.int .i64 (Int.ofNat n))
def qRow0 (o n i:Nat):TE:=qI o (indexAddrV Tryz.prog 46 (.sl 0 0 n 1 none) (.int .i64 (Int.ofNat i))) (.ptr 0 i)
def qRow1 (o:Nat) (v:SV) (i j:Nat):TE:=qI o (indexAddrV Tryz.prog 38 v (.int .i64 (Int.ofNat j))) (.ptr (i + 1) j)
def qRow7 (o q i:Nat):TE:=qI o (indexAddrV Tryz.prog 47 (.sl 7 0 q 1 none) (.int .i64 (Int.ofNat i))) (.ptr 7 i)
def qLd (o:Nat) (cs:List SV) (i:Nat) (v:SV):TE:=qI o (cs[i]?) v
def minP (s:List UInt8):SV:=.int .i64 (if (200:Int) < Int.ofNat s.length then 200 else Int.ofNat s.length)
def sliceP (s:List UInt8) (q:Nat):Option SV:=match bounds3 ((T.e:T SV).upd 0 (some (.int .i64 (Int.ofNat q)))) s.length (some s.length) none (some (.tmp 0)) none with
 | some (a,b,_)=>some (.str ((s.drop a).take (b - a)))
 | none=>none
def vP:Live:=[(0,0),(1,1),(2,2),(3,3),(4,4),(5,5),(6,6),(7,7),(8,8),(9,9)]
abbrev kP:List Nat:=[0,1,5,6,7,8]
abbrev k3s:List Nat:=[0,1,2]
def k3n (lo n:Nat):List Nat:=(List.range' lo n).flatMap fun x=>[x * 4,x * 4 + 1,x * 4 + 2]
end
end Go.Proofs.YtlbcbikplfocfaaGreatDoor.W.E
