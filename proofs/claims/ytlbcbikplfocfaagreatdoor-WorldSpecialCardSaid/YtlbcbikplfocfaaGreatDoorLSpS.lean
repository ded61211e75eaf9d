/- LSpS -/
import Derived.Test.YtlbcbikplfocfaaGreatDoorLSpR
set_option linter.unusedVariables false
set_option linter.unusedSimpArgs false
namespace Go.Proofs.YtlbcbikplfocfaaGreatDoor.W.E
section
set_option maxRecDepth 100000
open Go.RowKit
abbrev okSp (l:List Code):Prop:=(l.all fun c=>planOkC (plan fSp) c)=true
theorem mkOk:∀ p∈[1,2],∀ i,i < 8→∀ k∈mks p i,(runP p i=true→k + 2 ^ i∈mks p (i + 1)∧∀ j,j < i + 1→Nat.testBit (k + 2 ^ i) j=(decide (j=i) || Nat.testBit k j))∧k∈mks p (i + 1)∧Nat.testBit k i=false:=by decide +kernel
theorem nmS_inj:∀ i,i < 8→∀ j,j < 8→nmS i=nmS j→i=j:=by decide +kernel
theorem nmS_ini:∀ i,i < 8→nmS i≠sIni:=by decide +kernel
theorem mem_mkA {p i k:Nat} {t:Bool} (h:k∈mks p 8) (hb:Nat.testBit k i=t):k∈mkA p i t:=List.mem_filter.2 ⟨h,by rw [hb];simp⟩
structure Nm (b:Nat→Bool) (i r:Nat) (g:Nat→List UInt8) (cd:Nat→Int):Prop where
 le:r≤i
 on:∀ j,j < i→b j=true→∃ q,q < r∧cd j=Int.ofNat (q + 1)∧g q=nmS j
 off:∀ j,b j=false∨i≤j→cd j=0
 src:∀ q,q < r→∃ j,j < i∧b j=true∧g q=nmS j∧cd j=Int.ofNat (q + 1)
theorem Nm.zero (b:Nat→Bool) (g:Nat→List UInt8):Nm b 0 0 g (fun _=>0):=⟨Nat.le_refl _,nofun,fun _ _=>rfl,nofun⟩
theorem updS_same {α:Type} (f:Nat→α) (i:Nat) (x:α):updS f i x i=x:=by simp [updS]
theorem updS_ne {α:Type} (f:Nat→α) {i j:Nat} (x:α) (h:j≠i):updS f i x j=f j:=by
 unfold updS
 rw [bne_of h];rfl
theorem Nm.set {b:Nat→Bool} {i r:Nat} {g:Nat→List UInt8} {cd:Nat→Int} (h:Nm b i r g cd) (hb:b i=true):Nm b (i + 1) (r + 1) (updS g r (nmS i)) (updS cd i (Int.ofNat (r + 1))):=by
 have hle:=h.le
 refine ⟨by omega,fun j hj hbj=>?_,fun j hj=>?_,fun q hq=>?_⟩
 ·by_cases e:j=i
  ·subst e
   exact ⟨r,by omega,updS_same ..,updS_same ..⟩
  ·obtain ⟨q,h1,h2,h3⟩:=h.on j (by omega) hbj
   exact ⟨q,by omega,by rw [updS_ne _ _ e,h2],by rw [updS_ne _ _ (by omega),h3]⟩
 ·have e:j≠i:=fun q=>by
   subst q
   rcases hj with hj | hj
   ·rw [hb] at hj;cases hj
   ·omega
  rw [updS_ne _ _ e]
  exact h.off j (hj.elim .inl fun h=>.inr (by omega))
 ·by_cases e:q=r
  ·subst e
   exact ⟨i,by omega,hb,updS_same ..,updS_same ..⟩
  ·obtain ⟨j,h1,h2,h3,h4⟩:=h.src q (by omega)
   exact ⟨j,by omega,h2,by rw [updS_ne _ _ e,h3],by rw [updS_ne _ _ (by omega),h4]⟩
theorem Nm.skip {b:Nat→Bool} {i r:Nat} {g:Nat→List UInt8} {cd:Nat→Int} (h:Nm b i r g cd) (hb:b i=false):Nm b (i + 1) r g cd:=by
 have hle:=h.le
 refine ⟨by omega,fun j hj hbj=>?_,fun j hj=>h.off j (hj.elim .inl fun h=>.inr (by omega)),fun q hq=>?_⟩
 ·have e:j≠i:=by rintro rfl;rw [hb] at hbj;cases hbj
  exact h.on j (by omega) hbj
 ·obtain ⟨j,h1,h2⟩:=h.src q hq
  exact ⟨j,by omega,h2⟩
theorem Nm.inj {b:Nat→Bool} {r:Nat} {g:Nat→List UInt8} {cd:Nat→Int} (h:Nm b 8 r g cd):∀ j,j < r→∀ j',j' < r→g j=g j'→j=j':=fun j hj j' hj' e=>by
 obtain ⟨a,a1,a2,a3,a4⟩:=h.src j hj
 obtain ⟨a',a1',a2',a3',a4'⟩:=h.src j' hj'
 have:=nmS_inj a a1 a' a1' (by rw [← a3,← a3',e])
 subst this
 rw [a4] at a4'
 simp only [Int.ofNat_eq_natCast] at a4'
 omega
theorem rwS_set (g:Nat→List UInt8) (r:Nat) (x:List UInt8):rwS (updS g r x) (r + 1)=rwS g r++[.str x]:=by
 unfold rwS
 rw [List.range_succ,List.map_append]
 congr 1
 ·refine List.map_congr_left fun j hj=>?_
  rw [updS_ne _ _ (by have:=List.mem_range.1 hj;omega)]
 ·simp [updS_same]
theorem rwS_plain (g:Nat→List UInt8) (r:Nat):∀ v∈rwS g r,v.plain=true:=fun v hv=>by
 obtain ⟨j,-,rfl⟩:=List.mem_map.1 hv
 rfl
structure InC (b:Nat→Bool) (p:Int) (cd fn:Nat→Int) (c:Int) (D:Row) (l:Obs):Prop where
 cls:get l c=some (oCl sC1 D)
 on:∀ i,i < 8→b i=true→W.get D (vstr (nmS i))=some (vr (fn i))∧get l (fn i)=some (fnO p (cd i))
 off:∀ i,i < 8→b i=false→W.get D (vstr (nmS i))=none
 ini:W.get D (vstr sIni)=none
 ne2:c≠2
theorem InC.app {b:Nat→Bool} {p:Int} {cd fn:Nat→Int} {c:Int} {D:Row} {l:Obs} (h:InC b p cd fn c D l) (t:Obs):InC b p cd fn c D (l++t) :=
 ⟨get_app_l h.cls,fun i hi hb=>⟨(h.on i hi hb).1,get_app_l (h.on i hi hb).2⟩,h.off,h.ini,h.ne2⟩
theorem InC.of {b:Nat→Bool} {r:Nat} {g:Nat→List UInt8} {cd:Nat→Int} (h:Nm b 8 r g cd) {l:Obs} {n:Int} {u:Nat} (H:HJ l n u) (hn:2≤n) (p:Int):InC b p cd (fun i=>mC n ((cd i).toNat - 1) + 1) (cD n r) (Dr n g r) (lD l n p g r):=by
 have inj:=h.inj
 have h8:=h.le
 refine ⟨get_last (HJ.lT h8 inj H p) _,fun i hi hb=>?_,fun i hi hb=>?_,?_,?_⟩
 ·obtain ⟨q,q1,q2,q3⟩:=h.on i hi hb
  have e:(cd i).toNat - 1=q:=by rw [q2];simp
  simp only [e]
  exact ⟨by rw [← q3];exact Dr_get inj q1 (Nat.le_refl _),by rw [q2];exact get_app_l (get_app_l (lC_fn H p q1))⟩
 ·refine Dr_none fun q hq e=>?_
  obtain ⟨j,a1,a2,a3,a4⟩:=h.src q hq
  have:=nmS_inj j a1 i hi (by rw [← a3,e])
  subst this
  rw [hb] at a2;cases a2
 ·refine Dr_none fun q hq e=>?_
  obtain ⟨j,a1,a2,a3,a4⟩:=h.src q hq
  exact nmS_ini j a1 (by rw [← a3,e])
 ·unfold cD;rw [mC_eq];omega
section
variable {w0:B0} (hH:Hd w0 fo0 0) {g:Nat→List UInt8} {r:Nat}
include hH in
theorem spFr {live:Live} {keep:List Nat} {nx:Nat} {l:List Code} {s s2:SS} {x:Ex} {tl:TL} (h:QT (foW fo0 3 (rwS g r)) fSp nSp live keep nx l s s2 x tl) (hp:okSp l) (ht:tl.ok)
  (h3:(3,3)∈live) (hm:s.2.m.get 3=none) {q:Nat} {ck:Option Nat} (ht0:s.1.get 6=some (.sl 3 0 q 1 ck)) :
  CodeL w0 nSp l (s.w3 (rwS g r)).1 (s.w3 (rwS g r)).2 (fun x' tm' st'=>x'=x∧tm'=(s2.w3 (rwS g r)).1∧st'=(s2.w3 (rwS g r)).2) :=
 QT.frame hH _ h hp ht spHid h3 (rwS_plain g r) hm (Nat.zero_le _) ht0
end
theorem mkT_none {α:Type} {b:Nat}:∀ {L:List (Nat × α)},(∀ q∈L,q.1≠b)→(mkT L).get b=none
 | [],_=>rfl
 | q :: t,h=>by
  show ((mkT t).upd q.1 (some q.2)).get b=none
  rw [T.upd_ne _ _ (Ne.symm (h q (List.mem_cons_self ..)))]
  exact mkT_none fun q hq=>h q (List.mem_cons_of_mem _ hq)
theorem rowsS_ne {p i k:Nat} {o:Int} {b:Nat} (hb:b < 20):∀ q∈rowsS p i k o,q.1≠b:=fun q hq=>by
 obtain ⟨j,-,hj⟩:=List.mem_flatMap.1 hq
 cases hc:(Nat.blt j i && Nat.testBit k j) with
 | false=>rw [hc] at hj;cases hj
 | true =>
  rw [hc] at hj
  simp only [cond_true,List.mem_cons,List.mem_nil_iff,or_false] at hj
  rcases hj with rfl | rfl
  ·show 20 + 2 * j≠b;omega
  ·show 21 + 2 * j≠b;omega
theorem memS_ne {w:Lt} {p i k:Nat} {o:Int}:∀ q∈memS w p i k o,q.1≠3:=fun q hq=>by
 simp only [memS,List.mem_cons] at hq
 rcases hq with rfl | rfl | rfl | rfl | hq
 ·show 2≠3;decide
 ·show 4≠3;decide
 ·show 6≠3;decide
 ·show 7≠3;decide
 ·exact rowsS_ne (by omega) q hq
theorem sA_3 {w:Lt} {p i k:Nat} {l:Obs} {m o:Int}:(sA w p i k l m o).2.m.get 3=none:=mkT_none memS_ne
theorem sK_3 {w:Lt} {p i k:Nat} {l:Obs} {m o:Int}:(sK w p i k l m o).2.m.get 3=none:=mkT_none fun q hq=>by
 simp only [List.mem_cons] at hq
 rcases hq with rfl | rfl | hq
 ·show 8≠3;decide
 ·show 9≠3;decide
 ·exact memS_ne q hq
def AInv (b:Nat→Bool) (p i r:Nat) (g:Nat→List UInt8) (cd fn:Nat→Int) (c o:Int) (D:Row) (U:Nat):PostE:=fun x tm st=>x=.normal∧∃ (w:Lt) (k:Nat) (z:Obs) (n:Int),(w.r=r∧w.ck=ckT r∧w.cd=cd)∧HJ (lZ [] z) n (U + 10 * i)∧InC b (Int.ofNat p) cd fn c D (lZ [] z)∧get (lZ [] z) o=some (oIn c)∧k∈mks p i ∧
 (∀ j,j < i→Nat.testBit k j=(b j && runP p j))∧(∀ j,j < i→Nat.testBit k j=false→w.kk j≠3)∧tm=((sA w p i k (lZ [] z) n o).w3 (rwS g r)).1∧st=((sA w p i k (lZ [] z) n o).w3 (rwS g r)).2
section
variable {b:Nat→Bool} {p i r:Nat} {g:Nat→List UInt8} {cd fn:Nat→Int} {c o:Int} {D:Row} {U:Nat} {w:Lt} {k:Nat} {z:Obs} {n:Int} (hp:p∈[1,2]) (hi:i < 8) (hw:w.r=r∧w.ck=ckT r∧w.cd=cd) (hk:k∈mks p i)
 (hb:∀ j,j < i→Nat.testBit k j=(b j && runP p j)) (hz:∀ j,j < i→Nat.testBit k j=false→w.kk j≠3) (I:InC b (Int.ofNat p) cd fn c D (lZ [] z)) (ho:get (lZ [] z) o=some (oIn c))
include hp hi hw hk hb hz I ho in
theorem AInv.run (H:HJ (lZ [] z) n (U + 10 * i)) (hr:runP p i=true) (hbi:b i=true):AInv b p (i + 1) r g cd fn c o D U .normal ((sA w p (i + 1) (k + 2 ^ i) (lZ [] z) n o).w3 (rwS g r)).1 ((sA w p (i + 1) (k + 2 ^ i) (lZ [] z) n o).w3 (rwS g r)).2:=by
 obtain ⟨m1,m2⟩:=(mkOk p hp i hi k hk).1 hr
 have hx:∀ j,j < i + 1→Nat.testBit (k + 2 ^ i) j=(b j && runP p j):=fun j hj=>by
  rw [m2 j hj]
  by_cases e:j=i
  ·subst e;rw [hbi,hr];simp
  ·rw [decide_eq_false e,Bool.false_or];exact hb j (by omega)
 refine ⟨rfl,w,k + 2 ^ i,z,n,hw,H.up (by omega),I,ho,m1,hx,fun j hj h=>?_,rfl,rfl⟩
 rw [m2 j hj] at h
 by_cases e:j=i
 ·rw [decide_eq_true e,Bool.true_or] at h;cases h
 ·rw [decide_eq_false e,Bool.false_or] at h;exact hz j (by omega) h
include hp hi hw hk hb hz in
theorem AInv.non {z':Obs} {n':Int} (H:HJ (lZ [] z') n' (U + 10 * i + 10)) (I:InC b (Int.ofNat p) cd fn c D (lZ [] z')) (ho:get (lZ [] z') o=some (oIn c)) (hrb:(b i && runP p i)=false) {a:Int} (ha:a≠3) (v1 v2:Int) (s:List UInt8) :
  AInv b p (i + 1) r g cd fn c o D U .normal ((sA (w.set i a v1 v2 s) p (i + 1) k (lZ [] z') n' o).w3 (rwS g r)).1 ((sA (w.set i a v1 v2 s) p (i + 1) k (lZ [] z') n' o).w3 (rwS g r)).2:=by
 obtain ⟨-,m1,m2⟩:=mkOk p hp i hi k hk
 refine ⟨rfl,w.set i a v1 v2 s,k,z',n',hw,H.up (by omega),I,ho,m1,fun j hj=>?_,fun j hj h=>?_,rfl,rfl⟩
 ·by_cases e:j=i
  ·subst e;rw [m2,hrb]
  ·exact hb j (by omega)
 ·show updS w.kk i a j≠3
  by_cases e:j=i
  ·subst e;rw [updS_same];exact ha
  ·rw [updS_ne _ _ e];exact hz j (by omega) h
end
theorem lZ_zE (z:Obs) (n:Int):lZ [] (zE z n)=lZ [] z++[(n + 1,o1 [])]++[(n + 1 + 1,o2 sTE 9 [(vstr sArgs,vr (n + 1))])]:=by
 rw [lZ_app,lZ_app];rfl
theorem HJ.zE {z:Obs} {n:Int} {u:Nat} (H:HJ (lZ [] z) n u):HJ (lZ [] (E.zE z n)) (n + 1 + 1) (u + 5):=by
 rw [lZ_zE];exact H.e2 (by simp) (by simp)
theorem InC.zE {b:Nat→Bool} {p:Int} {cd fn:Nat→Int} {c:Int} {D:Row} {z:Obs} (h:InC b p cd fn c D (lZ [] z)) (n:Int):InC b p cd fn c D (lZ [] (E.zE z n)):=by
 rw [lZ_zE];exact (h.app _).app _
theorem get_zE {z:Obs} {m:Int} {o:Ob} (h:get (lZ [] z) m=some o) (n:Int):get (lZ [] (zE z n)) m=some o:=by
 rw [lZ_zE];exact get_app_l (get_app_l h)
def StepP (w0:B0) (b:Nat→Bool) (p i r:Nat) (g:Nat→List UInt8) (cd fn:Nat→Int) (c o:Int) (D:Row) (U:Nat):Prop:=∀ tm st,AInv b p i r g cd fn c o D U .normal tm st→CodeL w0 nSp (cdS i) tm st (AInv b p (i + 1) r g cd fn c o D U)
def LookP (w0:B0) (b:Nat→Bool) (p i r:Nat) (g:Nat→List UInt8):Prop:=∀ {w:Lt} {k:Nat} {l:Obs} {m o:Int},k∈mks p 8→Nat.testBit k i=(b i && runP p i)→(Nat.testBit k i=false→w.kk i≠3)→(b i=true→0 < w.cd i)∧(b i=false→¬ 0 < w.cd i) →
 CodeL w0 nSp k4Sp ((sK w p i k l m o).w3 (rwS g r)).1 ((sK w p i k l m o).w3 (rwS g r)).2 fun x tm st=>x=.normal∧tm=((sK w p (i + 1) k l m o).w3 (rwS g r)).1∧st=((sK w p (i + 1) k l m o).w3 (rwS g r)).2
abbrev NonP (rs:List SV) (w:Lt) (p i:Nat) (z:Obs) (n o:Int):Prop:=∃ z' n' a v1 v2 s pl,a≠3∧(z'=z∧n'=n∨z'=zE z n∧n'=n + 1 + 1)∧QN rs w p i z n o z' n' a v1 v2 s pl
section
variable {w0:B0} (hH:Hd w0 fo0 0) {b:Nat→Bool} {p i r:Nat} {g:Nat→List UInt8} {cd fn:Nat→Int} {c o:Int} {D:Row} {U:Nat} (hU:U + 200≤uMax) (hp:p∈[1,2]) (hi:i < 8) (hpl:okSp (cdS i))
include hH hp hi hpl in
theorem ANon {w:Lt} {k:Nat} {z:Obs} {n:Int} (hw:w.r=r∧w.ck=ckT r∧w.cd=cd) (hk:k∈mks p i) (hb:∀ j,j < i→Nat.testBit k j=(b j && runP p j)) (hz:∀ j,j < i→Nat.testBit k j=false→w.kk j≠3)
  (I:InC b (Int.ofNat p) cd fn c D (lZ [] z)) (ho:get (lZ [] z) o=some (oIn c)) (H:HJ (lZ [] z) n (U + 10 * i)) (hrb:(b i && runP p i)=false) (h:NonP (rwS g r) w p i z n o) :
  CodeL w0 nSp (cdS i) ((sA w p i k (lZ [] z) n o).w3 (rwS g r)).1 ((sA w p i k (lZ [] z) n o).w3 (rwS g r)).2 (AInv b p (i + 1) r g cd fn c o D U):=by
 obtain ⟨z',n',a,v1,v2,s,pl,ha,hz',hq⟩:=h
 refine (spFr hH (QA.at hq hk) hpl (plT_ok _) (vS_3 ..) sA_3 rfl).mono ?_
 rintro x tm st ⟨rfl,rfl,rfl⟩
 rcases hz' with ⟨rfl,rfl⟩ | ⟨rfl,rfl⟩
 ·exact AInv.non hp hi hw hk hb hz (H.up (by omega)) I ho hrb ha _ _ _
 ·exact AInv.non hp hi hw hk hb hz (H.zE.up (by omega)) (I.zE n) (get_zE ho n) hrb ha _ _ _
include hH hU hp hi hpl in
theorem AStepR (hr:runP p i=true) (h1:∀ {rs w z n c o u d f},Fx z n c o u d→Wy d i f→Fy z f (Int.ofNat p) (w.cd i)→∃ live pl,QR rs w p i live z n o pl) (h2:∀ {rs w z n c o u d},Fx z n c o u d→Wn d (nmS i)→NonP rs w p i z n o):StepP w0 b p i r g cd fn c o D U:=by
 rintro tm st ⟨-,w,k,z,n,hw,H,I,ho,hk,hb,hz,rfl,rfl⟩
 have X:Fx z n c o (U + 10 * i) D:=⟨⟨H,by omega,I.cls⟩,ho⟩
 cases hbi:b i with
 | true =>
  obtain ⟨a1,a2⟩:=I.on i hi hbi
  rw [← hw.2.2] at a2
  obtain ⟨live,pl,hq⟩:=h1 (rs:=rwS g r) X a1 a2
  refine (spFr hH (QA.at hq hk) hpl (plT_ok _) (vS_3 ..) sA_3 rfl).mono ?_
  rintro x tm st ⟨rfl,rfl,rfl⟩
  exact AInv.run hp hi hw hk hb hz I ho H hr hbi
 | false=>exact ANon hH hp hi hpl hw hk hb hz I ho H (by rw [hbi];rfl) (h2 X (I.off i hi hbi))
include hH hU hp hi hpl in
theorem AStepN (hr:runP p i=false) (h1:∀ {rs w z n c o u d f q},Fx z n c o u d→Wy d i f→Fy z f (Int.ofNat p) q→NonP rs w p i z n o) (h2:∀ {rs w z n c o u d},Fx z n c o u d→Wn d (nmS i)→NonP rs w p i z n o):StepP w0 b p i r g cd fn c o D U:=by
 rintro tm st ⟨-,w,k,z,n,hw,H,I,ho,hk,hb,hz,rfl,rfl⟩
 have X:Fx z n c o (U + 10 * i) D:=⟨⟨H,by omega,I.cls⟩,ho⟩
 refine ANon hH hp hi hpl hw hk hb hz I ho H (by rw [hr,Bool.and_false]) ?_
 cases hbi:b i with
 | true=>exact h1 X (I.on i hi hbi).1 (I.on i hi hbi).2
 | false=>exact h2 X (I.off i hi hbi)
end
theorem spPl4:okSp k4Sp:=by delta okSp;kernel_rfl
theorem ALook {w0:B0} (hH:Hd w0 fo0 0) {b:Nat→Bool} {p i r:Nat} {g:Nat→List UInt8} (h1:∀ {rs w l m o},0 < w.cd i→(runP p i=false→¬ w.kk i=3)→∃ pl,QL rs w p i (runP p i) l m o pl) (h2:∀ {rs w l m o},¬ 0 < w.cd i→¬ w.kk i=3→∃ pl,QL rs w p i false l m o pl):LookP w0 b p i r g:=by
 intro w k l m o hk hb hz hc
 have key:∀ {t:Bool},Nat.testBit k i=t→(∃ pl,QL (rwS g r) w p i t l m o pl)→CodeL w0 nSp k4Sp ((sK w p i k l m o).w3 (rwS g r)).1 ((sK w p i k l m o).w3 (rwS g r)).2 fun x tm st=>x=.normal∧tm=((sK w p (i + 1) k l m o).w3 (rwS g r)).1∧st=((sK w p (i + 1) k l m o).w3 (rwS g r)).2:=fun ht ⟨pl,hq⟩=>by
  refine (spFr hH (QA.at hq (mem_mkA hk ht)) spPl4 (plT_ok _) (vS_3 ..) sK_3 rfl).mono ?_
  rintro x tm st ⟨rfl,rfl,rfl⟩
  exact ⟨rfl,rfl,rfl⟩
 cases hbi:b i with
 | true =>
  rw [hbi,Bool.true_and] at hb
  exact key hb (h1 (hc.1 hbi) fun hr=>hz (by rw [hb,hr]))
 | false =>
  rw [hbi,Bool.false_and] at hb
  exact key hb (h2 (hc.2 hbi) (hz hb))
structure Tn (p:Nat):Prop where
 K:∀ rs w l m o,∃ t,QY rs (vS p 8++t) kK ((kbSp.drop 12).take 3) (mks p 8) (fun k=>sA w p 8 k l m o) (fun k=>sK w p 0 k l m o) []
 X:∀ rs w l m o,QA (foW fo0 3 rs) fSp nSp (v4++[(6,6)]) (11 :: k6) 40 k4Sp (mks p 8) (fun k=>sK w p 8 k l m o) (fun _=>sZ (Int.ofNat p) w.r w.ck w.cd [] [] l m o) (.exit 4) (fun _=>[])
 R:∀ g l l' m s,ClR (Int.ofNat p) g l l' m s
 mem:p∈[1,2]
 L:∀ {w0 b r g},Hd w0 fo0 0→∀ i,i < 8→LookP w0 b p i r g
 S:∀ {w0 b r g fn c o D U},Hd w0 fo0 0→U + 200≤uMax→∀ {cd} i,i < 8→StepP w0 b p i r g cd fn c o D U
end
end Go.Proofs.YtlbcbikplfocfaaGreatDoor.W.E
