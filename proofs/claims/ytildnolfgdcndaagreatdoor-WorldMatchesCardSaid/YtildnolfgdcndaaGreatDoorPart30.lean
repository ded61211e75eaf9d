/- EvMt LMaQ -/
import Derived.Test.YtildnolfgdcndaaGreatDoorPart26
import Derived.Test.YtildnolfgdcndaaGreatDoorMat
import Derived.Test.YtildnolfgdcndaaGreatDoorPart28
set_option linter.unusedVariables false
set_option linter.unusedSimpArgs false
namespace Go.Proofs.YtildnolfgdcndaaGreatDoor.W.E
section
set_option maxRecDepth 100000
open Go.RowKit
def xMatches:ExtF:=fun vs st=>match vs with
 | [p,a0,a1,a2]=>(match heapAt st.x p with | some h=>(match toV a0 with | some x0=>(match toV a1 with | some x1=>(match toV a2 with | some x2=>(bif (h.candO x2).all (h.ftIsClass x0) then some (.tup [.bool (h.matchO x0 x1 x2),excSV Exc.nil],st) else none) | none=>none) | none=>none) | none=>none) | none=>none)
 | _=>none
theorem xMatches_ok:ExtOk 139 xMatches:=fun w0 vs st v st' h=>by
 unfold xMatches at h
 split at h
 ·rename_i p a0 a1 a2
  split at h
  ·rename_i hh hq
   split at h
   ·rename_i y0 e0
    split at h
    ·rename_i y1 e1
     split at h
     ·rename_i y2 e2
      cases hc:(hh.candO y2).all (hh.ftIsClass y0) with
      | false=>rw [hc] at h;cases h
      | true =>
       rw [hc,cond_true] at h
       cases h
       refine ext_reader fun e w F us hR hvs=>?_
       obtain ⟨uq,us,rfl,q,hvs⟩:=vrs_cons hvs
       obtain ⟨uq0,us,rfl,q0,hvs⟩:=vrs_cons hvs
       obtain ⟨uq1,us,rfl,q1,hvs⟩:=vrs_cons hvs
       obtain ⟨uq2,us,rfl,q2,hvs⟩:=vrs_cons hvs
       cases vrs_nil hvs
       obtain ⟨b,c,F0,g1,k,rfl⟩:=heapAt_ok hq hR q
       obtain rfl:=toV_ok e0 q0
       obtain rfl:=toV_ok e1 q1
       obtain rfl:=toV_ok e2 q2
       exact ⟨_,.tup (.cons (.bool _) (.cons (excSV_ok _ _) .nil)),matchO_any w c hh F0 k.hr y0 y1 y2 hc⟩
     ·cases h
    ·cases h
   ·cases h
  ·cases h
 ·cases h
end
section
set_option maxRecDepth 100000
open Go.RowKit
def nmC (i:Nat):List UInt8:=([[69,120,99,101,112,116,105,111,110],[76,111,111,107,117,112,69,114,114,111,114],[73,110,100,101,120,69,114,114,111,114],[75,101,121,69,114,114,111,114],[65,114,105,116,104,109,101,116,105,99,69,114,114,111,114],[90,101,114,111,68,105,118,105,115,105,111,110,69,114,114,111,114],[79,118,101,114,102,108,111,119,69,114,114,111,114],[84,121,112,101,69,114,114,111,114],[86,97,108,117,101,69,114,114,111,114],[78,97,109,101,69,114,114,111,114],[85,110,98,111,117,110,100,76,111,99,97,108,69,114,114,111,114],[65,116,116,114,105,98,117,116,101,69,114,114,111,114],[83,116,111,112,73,116,101,114,97,116,105,111,110],[82,117,110,116,105,109,101,69,114,114,111,114],[82,101,99,117,114,115,105,111,110,69,114,114,111,114],[65,115,115,101,114,116,105,111,110,69,114,114,111,114],[77,101,109,111,114,121,69,114,114,111,114]]:List (List UInt8)).getD i []
def bsC (i:Nat):Nat:=[17,0,1,1,0,4,4,0,0,0,9,0,0,0,13,0,0].getD i 17
def clC (i:Nat):Int:=Int.ofNat (i + 2)
def comesC:Nat→Nat→Nat→Bool
 | 0,_,_=>false
 | f + 1,i,j=>bif Nat.beq i 17 then false else bif Nat.beq i j then true else comesC f (bsC i) j
section
variable {z:Obs} {n:Int}
theorem subC_all (z:Obs) (n:Int):((List.range 17).all fun i=>(List.range 17).all fun j=>(hZ (lZ [] z) n).subO (vr (clC i)) (vr (clC j)) == comesC 9 i j)=true:=by kernel_rfl
theorem isC_all (z:Obs) (n:Int):((List.range 17).all fun i=>(hZ (lZ [] z) n).ftIsClass (vr 19) (vr (clC i)) && (decide ((hZ (lZ [] z) n).kind (vr (clC i))=5)))=true:=by kernel_rfl
theorem subC {i j:Nat} (hi:i < 17) (hj:j < 17):(hZ (lZ [] z) n).subO (vr (clC i)) (vr (clC j))=comesC 9 i j:=by
 have h:=List.all_eq_true.1 (List.all_eq_true.1 (subC_all z n) i (List.mem_range.2 hi)) j (List.mem_range.2 hj)
 exact eq_of_beq h
theorem isC {i:Nat} (hi:i < 17):(hZ (lZ [] z) n).ftIsClass (vr 19) (vr (clC i))=true∧(hZ (lZ [] z) n).kind (vr (clC i))=5:=by
 have h:=List.all_eq_true.1 (isC_all z n) i (List.mem_range.2 hi)
 simp only [Bool.and_eq_true,decide_eq_true_eq] at h
 exact h
variable {i:Nat} {m:Int} {o:Ob}
theorem ofC (hi:i < 17) (e:get (lZ [] z) m=some o) (hk:o.kind=6) (ho:o.items=[vr (clC i)]):(hZ (lZ [] z) n).ofI (vr m)=(vr (clC i),true):=by
 have h1:(hZ (lZ [] z) n).kind (vr m)=6:=by unfold Hp.kind;rw [of_vr,e];exact hk
 have h2:(hZ (lZ [] z) n).at (vr m) 0=(vr (clC i),true):=by
  unfold Hp.at;rw [of_vr,e]
  simp only [ho];rfl
 have h3:(hZ (lZ [] z) n).isClass (vr (clC i))=true:=by unfold Hp.isClass;rw [(isC hi).2];rfl
 unfold Hp.ofI
 rw [h1,h2,if_pos ⟨rfl,h3⟩]
theorem match1 (hi:i < 17) (e:get (lZ [] z) m=some o) (hk:o.kind=6) (ho:o.items=[vr (clC i)]) {j:Nat} (hj:j < 17) :
  ((hZ (lZ [] z) n).candO (vr (clC j))).all ((hZ (lZ [] z) n).ftIsClass (vr 19))=true∧(hZ (lZ [] z) n).matchO (vr 19) (vr m) (vr (clC j))=comesC 9 i j:=by
 have hc:(hZ (lZ [] z) n).candO (vr (clC j))=[vr (clC j)]:=by unfold Hp.candO;rw [(isC hj).2,if_neg (by decide)]
 refine ⟨by rw [hc];simp [(isC hj).1],?_⟩
 unfold Hp.matchO hitM
 rw [hc,ofC hi e hk ho]
 simp only [(isC hi).1,Bool.and_self,List.any_cons,List.any_nil,Bool.or_false,Bool.true_and]
 exact subC hi hj
theorem match2 (hi:i < 17) (e:get (lZ [] z) m=some o) (hk:o.kind=6) (ho:o.items=[vr (clC i)]) {j:Nat} (hj:j < 17) {p:Int} {q:Ob} (e2:get (lZ [] z) p=some q) (hk2:q.kind=2) (hq:q.items=[vr (clC j),vr (clC 15)]) :
  ((hZ (lZ [] z) n).candO (vr p)).all ((hZ (lZ [] z) n).ftIsClass (vr 19))=true∧(hZ (lZ [] z) n).matchO (vr 19) (vr m) (vr p)=(comesC 9 i j || comesC 9 i 15):=by
 have hc:(hZ (lZ [] z) n).candO (vr p)=[vr (clC j),vr (clC 15)]:=by
  have h1:(hZ (lZ [] z) n).kind (vr p)=2:=by unfold Hp.kind;rw [of_vr,e2];exact hk2
  unfold Hp.candO Hp.items
  rw [h1,if_pos rfl,of_vr,e2];exact hq
 refine ⟨by rw [hc];simp [(isC hj).1,(isC (z:=z) (n:=n) (show 15 < 17 by decide)).1],?_⟩
 unfold Hp.matchO hitM
 rw [hc,ofC hi e hk ho]
 simp only [(isC hi).1,Bool.and_self,List.any_cons,List.any_nil,Bool.or_false,Bool.true_and]
 rw [subC hi hj,subC hi (by decide)]
end
def extMt:ExtT:=fun f=>bif Nat.beq f 139 then some (xTold xMatches) else extS f
theorem extMt_ok:∀ f h,extMt f=some h→extP f h :=
 extS_one (x:=xMatches) ⟨callable_of (by kernel_rfl),xTold_ok xMatches_ok⟩ extS_ok
def qMat (o b:Nat) (l:Obs) (n m:Int) (c:V) (r:Bool):TE:=(o,.res (.tup [.bool r,excSV Exc.nil]) (hZ l n),tRes xMatches b (hZ l n) [(vr 19).sv,(vr m).sv,c.sv] (.tup [.bool r,excSV Exc.nil]) (hZ l n))
theorem zMat {b:Nat} {l:Obs} {n m:Int} {c:V} {r:Bool} (h:((hZ l n).candO c).all ((hZ l n).ftIsClass (vr 19))=true∧(hZ l n).matchO (vr 19) (vr m) c=r):tRes xMatches b (hZ l n) [(vr 19).sv,(vr m).sv,c.sv] (.tup [.bool r,excSV Exc.nil]) (hZ l n):=fun mm nx=>by
 obtain ⟨h1,rfl⟩:=h
 simp only [xMatches,heapAt_b,toV_sv,h1,cond_true];rfl
end
end Go.Proofs.YtildnolfgdcndaaGreatDoor.W.E
