/- EvY Sw6 Sw7 WldA Sw8 Sw9 SwA SwB -/
import Derived.Test.YtlbcbikplfocfaaGreatDoorPart20
import Derived.Test.YtlbcbikplfocfaaGreatDoorPart13
import Derived.Test.YtlbcbikplfocfaaGreatDoorPart19
import Derived.Test.YtlbcbikplfocfaaGreatDoorPart7
import Derived.Sort.LoopGhostIn
import Derived.Test.YtlbcbikplfocfaaGreatDoorPart12
import Derived.Test.YtlbcbikplfocfaaGreatDoorPart8
import Derived.Test.YtlbcbikplfocfaaGreatDoorPart10
import Derived.Laws.MakeOwn
import Derived.Test.YtlbcbikplfocfaaGreatDoorPart17
set_option linter.unusedVariables false
set_option linter.unusedSimpArgs false
namespace Go.Proofs.YtlbcbikplfocfaaGreatDoor.W.E
section
open Go.RowKit
def heldB (n:Int):List V→Bool
 | []=>false
 | x :: t=>(decide (x.k=4) && decide (x.n=n)) || heldB n t
theorem heldB_occ (n:Int):∀ l:List V,heldB n l=true↔0 < occ n l
 | []=>by simp [heldB,occ]
 | x :: t=>by
  rw [heldB,occ,Bool.or_eq_true,heldB_occ n t,Bool.and_eq_true,decide_eq_true_eq,decide_eq_true_eq]
  by_cases h:x.k=4∧x.n=n
  ·rw [if_pos h];simp [h];omega
  ·rw [if_neg h];simp [h]
abbrev Objs:=List (Int × Ob)
def supB (e vs:List V) (p:Int × Ob):Bool:=heldB p.1 e || heldB p.1 vs
def sweepS (e:List V) (s:Objs):Objs:=s.filter (supB e (s.flatMap fun p=>p.2.values))
def sweepL (e:List V):Nat→Objs→Objs
 | 0,s=>s
 | k + 1,s=>bif Nat.beq (sweepS e s).length s.length then s else sweepL e k (sweepS e s)
theorem filter_full {α:Type} {p:α→Bool}:∀ {l:List α},(l.filter p).length=l.length→l.filter p=l
 | [],_=>rfl
 | x :: t,h=>by
  rw [List.filter_cons] at h ⊢
  split at h
  ·rename_i hx
   rw [if_pos hx,filter_full (by simpa using h)]
  ·have:=List.length_filter_le p t
   simp only [List.length_cons] at h;omega
theorem sweepL_fix (e:List V):∀ (k:Nat) (s:Objs),s.length < k→sweepS e (sweepL e k s)=sweepL e k s
 | 0,s,h=>by omega
 | k + 1,s,h=>by
  unfold sweepL
  cases hb:Nat.beq (sweepS e s).length s.length with
  | true=>exact filter_full (Nat.eq_of_beq_eq_true hb)
  | false =>
   have hne:(sweepS e s).length≠s.length:=fun hh=>by rw [hh,Nat.beq_refl] at hb;cases hb
   have:=List.length_filter_le (supB e (s.flatMap fun p=>p.2.values)) s
   exact sweepL_fix e k _ (by unfold sweepS at *;omega)
theorem sweepL_filter (e:List V):∀ (k:Nat) (s:Objs),∃ q:Int × Ob→Bool,sweepL e k s=s.filter q
 | 0,s=>⟨fun _=>true,(List.filter_eq_self.2 fun _ _=>rfl).symm⟩
 | k + 1,s=>by
  unfold sweepL
  cases hb:Nat.beq (sweepS e s).length s.length with
  | true=>exact ⟨fun _=>true,(List.filter_eq_self.2 fun _ _=>rfl).symm⟩
  | false =>
   obtain ⟨q,hq⟩:=sweepL_filter e k (sweepS e s)
   exact ⟨fun p=>q p && supB e (s.flatMap fun p=>p.2.values) p,by rw [cond_false,hq,sweepS,List.filter_filter]⟩
theorem held_of {n:Int} {s:Objs} (h:heldB n (s.flatMap fun p=>p.2.values)=true):∃ p∈s,0 < occ n p.2.values:=by
 rw [heldB_occ,occ_pos] at h
 obtain ⟨x,hx,h1⟩:=h
 obtain ⟨p,hp,hxp⟩:=List.mem_flatMap.1 hx
 exact ⟨p,hp,occ_pos.2 ⟨x,hxp,h1⟩⟩
theorem held_to {n:Int} {s:Objs} {p:Int × Ob} (hp:p∈s) (h:0 < occ n p.2.values):heldB n (s.flatMap fun p=>p.2.values)=true:=by
 rw [heldB_occ,occ_pos]
 obtain ⟨x,hx,h1⟩:=occ_pos.1 h
 exact ⟨x,List.mem_flatMap.2 ⟨p,hp,hx⟩,h1⟩
theorem sweepL_sup {e:List V} {t:Objs} (ht:∀ p∈t,heldB p.1 e=true∨∃ q∈t,0 < occ p.1 q.2.values):∀ (k:Nat) (s:Objs),(∀ p∈t,p∈s)→∀ p∈t,p∈sweepL e k s
 | 0,s,h,p,hp=>h p hp
 | k + 1,s,h,p,hp=>by
  unfold sweepL
  cases hb:Nat.beq (sweepS e s).length s.length with
  | true=>exact h p hp
  | false =>
   refine sweepL_sup ht k _ (fun q hq=>?_) p hp
   refine List.mem_filter.2 ⟨h q hq,?_⟩
   unfold supB
   rw [Bool.or_eq_true]
   rcases ht q hq with h1 | ⟨r,hr,h1⟩
   ·exact .inl h1
   ·exact .inr (held_to (h r hr) h1)
def sweepM (h:Hp) (e:List V):Hp :=
 let a:=sweepL e (h.all.length + 1) h.all
 ⟨a,fun n=>(occ n (a.flatMap fun p=>p.2.values):Int),h.last⟩
theorem swept_eq {h h':Hp} {e:List V} (s:Swept h e h') (hnd:(h.all.map (·.1)).Nodup):h'=sweepM h e:=by
 obtain ⟨T,hT⟩:=s.sub
 obtain ⟨q,hq⟩:=sweepL_filter e (h.all.length + 1) h.all
 have hfix:=sweepL_fix e (h.all.length + 1) h.all (by omega)
 have hnd':=s.cons.nd
 have hall:h'.all=sweepL e (h.all.length + 1) h.all:=by
  rw [hT,hq]
  refine List.filter_congr fun p hp=>?_
  have m1:T p.1=true↔p∈h'.all:=by rw [hT,List.mem_filter];exact ⟨fun h=>⟨hp,h⟩,fun h=>h.2⟩
  have m2:q p=true↔p∈sweepL e (h.all.length + 1) h.all:=by rw [hq,List.mem_filter];exact ⟨fun h=>⟨hp,h⟩,fun h=>h.2⟩
  suffices p∈h'.all↔p∈sweepL e (h.all.length + 1) h.all by
   rw [Bool.eq_iff_iff,m1,m2];exact this
  constructor
  ·intro hp'
   refine sweepL_sup (t:=h'.all) (fun r hr=>?_) _ _ (fun r hr=>by rw [hT] at hr;exact (List.mem_filter.1 hr).1) p hp'
   rcases s.tight r.1 r.2 (mem_get hnd' hr) with h1 | h1
   ·exact .inl ((heldB_occ _ _).2 h1)
   ·right
    have:heldB r.1 (h'.all.flatMap fun p=>p.2.values)=true:=(heldB_occ _ _).2 h1
    exact held_of this
  ·intro hpA
   obtain ⟨o,ho⟩:=s.max (fun n=>∃ o,(n,o)∈sweepL e (h.all.length + 1) h.all) (fun n ⟨o,ho⟩=>by
    have hin:∀ r,r∈sweepL e (h.all.length + 1) h.all→r∈h.all:=fun r hr=>by rw [hq] at hr;exact (List.mem_filter.1 hr).1
    refine ⟨⟨o,mem_get hnd (hin _ ho)⟩,?_⟩
    rw [← hfix] at ho
    have:=(List.mem_filter.1 ho).2
    unfold supB at this
    rw [Bool.or_eq_true] at this
    rcases this with h1 | h1
    ·exact .inl ((heldB_occ _ _).1 h1)
    ·obtain ⟨r,hr,h2⟩:=held_of h1
     exact .inr ⟨r.1,r.2,⟨r.2,hr⟩,mem_get hnd (hin r hr),h2⟩) p.1 ⟨p.2,hpA⟩
   have h1:=get_mem ho
   have h2:(p.1,o)∈h.all:=by rw [hT] at h1;exact (List.mem_filter.1 h1).1
   have h3:=mem_get hnd h2
   have h4:=mem_get hnd (show (p.1,p.2)∈h.all from hp)
   rw [h3] at h4;cases h4
   exact h1
 have hrefs:h'.refs=fun n=>(occ n ((sweepL e (h.all.length + 1) h.all).flatMap fun p=>p.2.values):Int):=by
  funext n
  have:=s.cons.refs n
  rw [this]
  show ((occ n h'.vals:Nat):Int) + _=_
  simp only [occ,Hp.vals,hall]
  simp
 obtain ⟨a1,a2,a3⟩:=h'
 have hlast:=s.last
 simp only at hall hrefs hlast
 subst hall hrefs hlast
 rfl
def xSweep:ExtF:=fun vs st=>match vs with
 | [p,x]=>match heapAt st.x p with
  | some h=>match rowV st.m x with
   | some e=>bif Nat.ble h.all.length 1048576 then some (.int .i64 ((h.all.length:Int) - ((sweepM h e).all.length:Int)),st.wh (hnum st.x) (sweepM h e)) else none
   | none=>none
  | none=>none
 | _=>none
theorem HR.nd {w:World} {hp:Nat} {h:Hp} {F:Foot} (r:HR w hp h F):(h.all.map (·.1)).Nodup:=r.elim fun _ r=>r.nd
theorem xSweep_ok:ExtOk 74 xSweep:=fun w0 vs st v st' h=>by
 unfold xSweep at h
 split at h
 ·rename_i p x
  split at h
  ·rename_i hh hq
   split at h
   ·rename_i l hl
    cases hc:Nat.ble hh.all.length 1048576 with
    | false=>rw [hc] at h;cases h
    | true =>
     rw [hc,cond_true] at h;cases h
     have hc:=zB hc
     refine ext_writer (heapAt_x hq) fun e w F us c F0 hR hvs k=>?_
     obtain ⟨u,us,rfl,hu,hvs⟩:=vrs_cons hvs
     obtain ⟨u2,us,rfl,hu2,hvs⟩:=vrs_cons hvs
     cases vrs_nil hvs
     obtain ⟨b',c',F1,g1,k',rfl⟩:=heapAt_ok hq hR hu
     rw [heapAt_x hq] at g1;cases g1
     obtain ⟨z1,a1⟩:=k.at_;obtain ⟨z2,a2⟩:=k'.at_
     rw [a1] at a2;cases a2
     obtain ⟨r0,m0⟩:=rowV_ok hl hR hu2
     refine ⟨fun n=>rfl,.int .i64 _,.int _ _,(sweep_any w c hh F0 k.hr u2 l (Vx.less r0 k.sub) m0 ⟨fun n=>by rw [k.ok n];simp [occ],HR.nd k.hr⟩ hc).mono fun en w' ⟨h',q1,q2,q3⟩=>?_⟩
     have:=swept_eq q3 (HR.nd k.hr)
     subst this
     exact ⟨q1,q2⟩
   ·cases h
  ·cases h
 ·cases h
end
end Go.Proofs.YtlbcbikplfocfaaGreatDoor.W.E
namespace Go.Proofs.YtlbcbikplfocfaaGreatDoor.W
section
open Go Go.RowKit
section
variable {F:Fence} {n:Nat} {P:Program} {ops:Array Oper} {Q:Exit→Go.Act→World→Prop} {md:Region.Mode} {B:World→Prop} {o:Oper} {a:Go.Act} {v:Value}
variable {R R':Res} {w0:World} {F0:Foot} {O L:List Item} {X:List Fact} {k i:Nat} {T T':List Nat} {listed:Array Bool} {rest:List Oper}
end
section
variable {F:Fence} {n:Nat} {ops:Array Oper} {B:World→Prop} {o:Oper} {a:Go.Act}
end
end
section
open Go Go.RowKit
def obBl (x:Value):List Nat:=match x.ownBlock with | some b=>[b] | none=>[]
def rowF {α:Type} (enc:α→List Value) (e:TypeId) (sz:Nat) (x:Value) (l:List α):Fact:=⟨obBl x,true,true,fun w=>w.ownsRow 0 e sz x l.length (l.flatMap enc),fun w w' h hs hk=>by
 obtain ⟨h1,h2⟩:=h
 refine ⟨h1,?_⟩
 rcases h2 with h2 | ⟨g,cap,cur,rfl,h0,hg,r⟩
 ·exact .inl h2
 ·exact .inr ⟨g,cap,cur,rfl,h0,(hk g (by simp [obBl,Value.ownBlock])).trans hg,r⟩⟩
section
variable {F:Fence} {n:Nat} {P:Program} {ops:Array Oper} {Q:Exit→Go.Act→World→Prop} {md:Region.Mode} {B:World→Prop} {o:Oper} {a:Go.Act} {v:Value}
variable {R R':Res} {w0:World} {F0:Foot} {O L:List Item} {X:List Fact} {k i:Nat} {T T':List Nat} {listed:Array Bool} {rest:List Oper} {W W':World} {G:Foot}
theorem flat_len2 {α:Type} {enc:α→List Value} {sz:Nat} (hz:∀ x,(enc x).length=sz) (l:List α):(l.flatMap enc).length=l.length * sz:=by
 induction l with
 | nil=>simp
 | cons a t ih=>simp [List.flatMap_cons,ih,hz,Nat.add_mul,Nat.add_comm]
theorem SW.nilRow {α:Type} (enc:α→List Value) (e:TypeId) (sz:Nat) (h:SW R w0 F0 O L X W):SW R w0 F0 O L (rowF enc e sz (.slice none 0 0) [] :: X) W:=by
 obtain ⟨⟨G,hG⟩,hn⟩:=h
 obtain ⟨h1,h2⟩:=hG.learn (Wa:=W) hn (rowF enc e sz (.slice none 0 0) []) (World.ownsRow_nil W 0 e sz) hG.st.size (fun b hb=>by simp [rowF,obBl,Value.ownBlock] at hb) hG.ownLt fun y hy _=>hG.factLt y hy
 exact ⟨⟨G,h1⟩,h2⟩
theorem SW.regrow (hR:ROk w0 R) (h:SW R w0 F0 O L X W) (j:Nat) {x y:Fact} (hj:X[j]?=some x) (hx:x.new=true∧x.mine=true) (hy:y.p W') (hs:W.heap.size≤W'.heap.size) (ho:W'.os=W.os∧W'.tape=W.tape∧W'.output=W.output)
  (hk:∀ b,b < W.heap.size→b ∉ x.bl→W'.heap[b]?=W.heap[b]?) (hb:∀ b∈y.bl,b < W'.heap.size∧(b∈x.bl∨W.heap.size≤b)):SW R w0 F0 O L (X.set j y) W':=by
 obtain ⟨⟨G,hG⟩,hn⟩:=h
 have hxm:=List.mem_of_getElem? hj
 have hxf:=hG.fact x hxm
 have hjl:j < X.length:=(List.getElem?_eq_some_iff.1 hj).1
 have he:X[j]=x:=(List.getElem?_eq_some_iff.1 hj).2
 have hnx:∀ b∈x.bl,w0.heap.size≤b∧¬ G b∧b < W.heap.size:=fun b hbx=>⟨(hxf.2 b hbx).2.2 hx.1,(hxf.2 b hbx).1,(hxf.2 b hbx).2.1⟩
 have hdis:∀ i (hi:i < X.length),i≠j→∀ b∈X[i].bl,b ∉ x.bl:=fun i hi hij b hbi hbx=>by
  have hp:=List.pairwise_iff_getElem.1 hn.2.2
  rcases Nat.lt_or_gt_of_ne hij with hlt | hlt
  ·exact hp i j hi hjl hlt (.inr (by rw [he];exact hx.2)) b hbi (by rw [he];exact hbx)
  ·exact hp j i hjl hi hlt (.inl (by rw [he];exact hx.2)) b (by rw [he];exact hbx) hbi
 have hmem:∀ z∈X.set j y,z=y∨∃ i,∃ hi:i < X.length,i≠j∧z=X[i]:=fun z hz=>by
  obtain ⟨i,hi,rfl⟩:=List.getElem_of_mem hz
  rw [List.length_set] at hi
  rw [List.getElem_set]
  by_cases hij:j=i
  ·rw [if_pos hij];exact .inl rfl
  ·rw [if_neg hij];exact .inr ⟨i,hi,Ne.symm hij,rfl⟩
 refine ⟨⟨G,hR.keep _ _ _ hG.res hs fun b hb2=>hk b (hb2.elim (hG.st.lt b) fun h2=>Nat.lt_of_lt_of_le h2 hG.st.size) fun hbx=>hb2.elim (hnx b hbx).2.1 fun h2=>by have:=(hnx b hbx).1;omega,?_,?_,?_,?_⟩,hn.1,?_,?_⟩
 ·exact ⟨ho.1.trans hG.st.os,ho.2.1.trans hG.st.tape,ho.2.2.trans hG.st.output,Nat.le_trans hG.st.size hs,fun c hc hF=>(hk c (Nat.lt_of_lt_of_le hc hG.st.size) fun hbx=>by have:=(hnx c hbx).1;omega).trans (hG.st.block c hc hF),hG.st.foot,fun c hc=>Nat.lt_of_lt_of_le (hG.st.lt c hc) hs⟩
 ·exact fun p hp=>⟨(hk _ (block_lt (hG.out p hp).1) fun hbx=>by have:=(hnx _ hbx).1;have:=(hG.out p hp).2.2;omega).trans (hG.out p hp).1,(hG.out p hp).2⟩
 ·exact fun p hp=>⟨(hk _ (block_lt (hG.own p hp).1) fun hbx=>hn.2.1 x hxm _ hbx p hp rfl).trans (hG.own p hp).1,(hG.own p hp).2⟩
 ·intro z hz
  rcases hmem z hz with rfl | ⟨i,hi,hij,rfl⟩
  ·refine ⟨hy,fun b hbz=>?_⟩
   rcases (hb b hbz).2 with h2 | h2
   ·exact ⟨(hnx b h2).2.1,(hb b hbz).1,fun _=>(hnx b h2).1⟩
   ·exact ⟨fun hF=>by have:=hG.st.lt b hF;omega,(hb b hbz).1,fun _=>Nat.le_trans hG.st.size h2⟩
  ·have hf:=hG.fact _ (List.getElem_mem hi)
   exact ⟨X[i].ok _ _ hf.1 hs fun b hbi=>hk b (hf.2 b hbi).2.1 (hdis i hi hij b hbi),fun b hbi=>⟨(hf.2 b hbi).1,Nat.lt_of_lt_of_le (hf.2 b hbi).2.1 hs,(hf.2 b hbi).2.2⟩⟩
 ·intro z hz b hbz q hq
  rcases hmem z hz with rfl | ⟨i,hi,hij,rfl⟩
  ·rcases (hb b hbz).2 with h2 | h2
   ·exact hn.2.1 x hxm b h2 q hq
   ·exact Nat.ne_of_lt (Nat.lt_of_lt_of_le (block_lt (hG.own q hq).1) h2)
  ·exact hn.2.1 _ (List.getElem_mem hi) b hbz q hq
 ·have hyd:∀ i (hi:i < X.length),i≠j→∀ b∈y.bl,b ∉ X[i].bl:=fun i hi hij b hby hbi=>by
   rcases (hb b hby).2 with h2 | h2
   ·exact hdis i hi hij b hbi h2
   ·have:=((hG.fact _ (List.getElem_mem hi)).2 b hbi).2.1;omega
  refine List.pairwise_iff_getElem.2 fun i k hi hkk hik hm b hbi=>?_
  rw [List.length_set] at hi hkk
  rw [List.getElem_set] at hm hbi
  rw [List.getElem_set] at hm ⊢
  by_cases h1:j=i
  ·subst h1
   rw [if_pos rfl] at hbi
   rw [if_neg (by omega)]
   exact hyd k hkk (by omega) b hbi
  ·rw [if_neg h1] at hbi hm
   by_cases h2:j=k
   ·subst h2
    rw [if_pos rfl]
    exact fun hby=>hyd i hi (by omega) b hby hbi
   ·rw [if_neg h2] at hm ⊢
    exact List.pairwise_iff_getElem.1 hn.2.2 i k hi hkk hik hm b hbi
theorem own_form {w:World} {e:TypeId} {sz m:Nat} {v:Value} {xs:List Value} {base:Nat} (h:w.ownsRow base e sz v m xs):∃ p:Option Addr × Nat,v=.slice p.1 m p.2∧∀ b∈obBl v,b < w.heap.size:=by
 rcases h.2 with ⟨rfl,rfl⟩ | ⟨g,cap,cur,rfl,-,hg,-⟩
 ·exact ⟨(none,0),rfl,fun b hb=>by simp [obBl,Value.ownBlock] at hb⟩
 ·exact ⟨(some ⟨g,0,none⟩,cap),rfl,fun b hb=>by simp [obBl,Value.ownBlock] at hb;subst hb;exact block_lt hg⟩
abbrev slN (p:Option Addr × Nat) (m:Nat):Value:=.slice p.1 m p.2
theorem SW.append {α:Type} {enc:α→List Value} {t ty e:TypeId} {i:TypeInfo} {z:Value} {sz bytes:Nat} (hR:ROk w0 R) (ht:P.underlying t=some (.slice e)) (hi:P.info? e=some i) (hz:i.zero=some z) (hsize:i.size=sz) (hby:i.bytes=bytes) (hzs:z.cells.size=sz) (hsz:0 < sz)
  (henc:∀ x,(enc x).length=sz) (h1:∀ x,∀ u∈enc x,u.oneCell'=true) {x:Value} {l:List α} (j:Nat) (hj:X[j]?=some (rowF enc e sz x l)) (ad:Addr) (m c:Nat) (l2:List α) (hm:l2.length=m)
  (h:SW R w0 F0 O L X W) (hsrc:∀ q u,(l2.flatMap enc)[q]?=some u→W.cell? (ad.add q)=some u) (h63:l.length + m≤maxLen) (hbytes:(l.length + m) * bytes≤140737488355328) :
  ∃ p w',(Builtin.append_ #[t,t] ty #[x,.slice (some ad) m c]).run P W=.ok (slN p (l++l2).length) w'∧SW R w0 F0 O L (X.set j (rowF enc e sz (slN p (l++l2).length) (l++l2))) w':=by
 have hp:W.ownsRow 0 e sz x l.length (l.flatMap enc):=h.sb.elim fun G hG=>(hG.fact _ (List.mem_of_getElem? hj)).1
 obtain ⟨v',w',hr,ho,hgr,hnb⟩:=run_app (P:=P) W t ty e i z sz bytes ht hi hz hsize hby hzs hsz x l.length _ hp ad m c (l2.flatMap enc) (by rw [flat_len2 henc,hm]) hsrc (fun u hu=>by
  obtain ⟨y,-,hy⟩:=List.mem_flatMap.1 hu
  exact h1 y u hy) h63 hbytes
 have hlen:l.length + m=(l++l2).length:=by rw [List.length_append,hm]
 rw [hlen,← List.flatMap_append] at ho
 obtain ⟨p,rfl,hlt⟩:=own_form ho
 refine ⟨p,w',hr,h.regrow hR j hj ⟨rfl,rfl⟩ ho hgr.size ⟨hgr.os,hgr.tape,hgr.output⟩ (fun b hb hnx=>hgr.block b hb fun e2=>hnx ?_) (fun b hb=>⟨hlt b hb,?_⟩)⟩
 ·simp [rowF,obBl,← e2]
 ·rcases hnb with e2 | ⟨g,e2,hg⟩
  ·left
   simp only [rowF,obBl] at hb ⊢
   rw [← e2];exact hb
  ·right
   simp only [rowF,obBl] at hb
   rw [e2] at hb
   simp at hb
   omega
theorem wpIn_append {w w':World} {K:Go.Act→World→Prop} (hF:FWide F) (s x:Operand) (t:TypeId) (hop:o.op=.call { callee:=.builtin .append,args:=#[s,x],argTypes:=#[t,t] }) {v vx v':Value} (hs:a.eval s=v) (hx:a.eval x=vx)
  (hr:(Builtin.append_ #[t,t] o.type #[v,vx]).run P w=.ok v' w') (hk:K (a.put o.dst v') w'):o.wpIn F n P a w K Q:=by
 refine ⟨fun f _=>hF.fn f,?_⟩
 rw [Oper.semAt_eq _ _ _ (by rw [hop];nofun)]
 unfold execOp
 rw [hop]
 simp [resolve,invoke,builtin,hs,hx,hr,Result.andThen]
 exact hk
theorem wpIn_loopN {c:Code} {w:World} (N:Nat) (J:Nat→Go.Act→World→Prop) (h0:J 0 a w) (round:∀ i,i≤N→∀ a w,J i a w→c.wpIn F n P (Exit.then (fun a' w'=>i < N∧J (i + 1) a' w') Q) a w):(Code.loop c).wpIn F n P Q a w:=by
 refine wpIn_loop_ghost (fun m a w=>∃ i,i≤N∧m=N - i∧J i a w) N ⟨0,Nat.zero_le _,rfl,h0⟩ ?_
 rintro m a w ⟨i,hi,rfl,hJ⟩
 refine wpIn_mono (round i hi a w hJ) fun e a' w' q=>?_
 cases e<;>first | exact q | skip
 exact ⟨N - (i + 1),by have:=q.1;omega,i + 1,q.1,rfl,q.2⟩
end
end
section
open Go Go.RowKit
theorem Vs.blk {w:World} {x:Value} {l:List V} (h:Vs w x l):∀ b o n c,x=.slice (some ⟨b,o,none⟩) n c→b < w.heap.size:=by
 rintro b o n c rfl
 rcases h with ⟨h,-⟩ | ⟨b',o',c',e,hb,-⟩
 ·cases h
 ·cases e;exact hb
def slBl:Value→List Nat
 | .slice (some a) _ _=>[a.block]
 | _=>[]
theorem Vs.keep {w w':World} {x:Value} {l:List V} (h:Vs w x l) (hs:w.heap.size≤w'.heap.size) (hk:∀ b∈slBl x,w'.heap[b]?=w.heap[b]?):Vs w' x l:=by
 rcases h with h | ⟨b,o,c,rfl,hb,q1,q2,q3⟩
 ·exact .inl h
 ·exact .inr ⟨b,o,c,rfl,Nat.lt_of_lt_of_le hb hs,q1,q2,fun j u hj=>(World.cell?_of_block (w:=w) (a:=⟨b,o + j,none⟩) (hk b (by simp [slBl]))).trans (q3 j u hj)⟩
def vsF (x:Value) (l:List V) (new:Bool):Fact:=⟨slBl x,new,false,fun w=>Vs w x l,fun w w' h hs hk=>h.keep hs hk⟩
theorem Vs.fact {w:World} {x:Value} {l:List V} (h:Vs w x l):(vsF x l false).p w∧∀ b∈(vsF x l false).bl,b < w.heap.size:=by
 refine ⟨h,fun b hb=>?_⟩
 rcases h with ⟨rfl,-⟩ | ⟨b',o',c',rfl,h',-⟩
 ·cases hb
 ·simp [vsF,slBl] at hb;subst hb;exact h'
theorem Vx.fact {F:Foot} {w:World} {x:Value} {l:List V} (h:Vx F w x l):(vsF x l false).p w∧∀ b∈(vsF x l false).bl,¬ F b∧b < w.heap.size∧(vsF x l false).new=false:=by
 refine ⟨h.vs,fun b hb=>⟨?_,h.vs.fact.2 b hb,rfl⟩⟩
 obtain ⟨hv,ho⟩:=h
 rcases hv with ⟨rfl,-⟩ | ⟨b',o',c',rfl,h',-⟩
 ·cases hb
 ·simp [vsF,slBl] at hb;subst hb;exact ho _ _ _ _ rfl
theorem SWF.vx {nw:Bool} {R:Res} {w0:World} {F0:Foot} {O L:List Item} {X:List Fact} {W:World} {F:Foot} (h:SWF R w0 F0 O L X W F) (k:Nat) {x:Value} {l:List V} (hk:X[k]?=some (vsF x l nw)):Vx F W x l:=by
 have h1:=h.fact _ (List.mem_of_getElem? hk)
 refine ⟨h1.1,fun b o n c e hf=>?_⟩
 subst e
 exact (h1.2 b (by simp [vsF,slBl])).1 hf
theorem SWF.vs {nw:Bool} {R:Res} {w0:World} {F0:Foot} {O L:List Item} {X:List Fact} {W:World} {F:Foot} (h:SWF R w0 F0 O L X W F) (k:Nat) {x:Value} {l:List V} (hk:X[k]?=some (vsF x l nw)):Vs W x l:=(h.vx k hk).vs
theorem Vs.noF {w:World} {x:Value} {l:List V} (h:Vs w x l):Vx noF w x l:=⟨h,fun _ _ _ _ _ h=>h⟩
theorem start_nil {P:Fact→Prop}:∀ x∈([]:List Fact),P x:=fun x h=>(by cases h)
theorem start_cons {P:Fact→Prop} {a:Fact} {l:List Fact} (h:P a) (t:∀ q∈l,P q):∀ q∈a :: l,P q:=fun q hq=>(List.mem_cons.1 hq).elim (fun e=>e ▸ h) (t q)
def Vn (w:World) (F:Foot) (w':World) (x:Value) (l:List V):Prop:=Vs w' x l∧∀ b∈slBl x,w.heap.size≤b∧¬ F b
theorem Vn.nil (w:World) (F:Foot) (w':World):Vn w F w' (.slice none 0 0) []:=⟨.inl ⟨rfl,rfl⟩,fun b hb=>by cases hb⟩
abbrev Sp:=Option Addr × Nat
abbrev sl (x:Sp) (l:List V):Value:=.slice x.1 l.length x.2
theorem newRow {P:Program} {f:FuncId} {args:Array Value} {R:Res} {w0:World} {F0:Foot} {O L:List Item} {X:List Fact} {w:World} {l:List V} (hR:ROk w0 R) (hS:SW R w0 F0 O L X w) (c:Calls P f args w (NewVs w l)) :
  Calls P f args w fun e w'=>∃ x:Sp,e=.returned (sl x l)∧SW R w0 F0 O L (vsF (sl x l) l true :: X) w':=by
 obtain ⟨⟨G,hG⟩,hn⟩:=hS
 refine c.mono fun e w' h=>?_
 obtain ⟨a,cc,rfl,h2,hb⟩:=h.form2
 have hv:=h2.vs
 have hside:∀ b∈(vsF (.slice a l.length cc) l true).bl,w.heap.size≤b∧b < w'.heap.size∧¬ G b:=by
  intro b hbb
  cases a with
  | none=>cases hbb
  | some ad =>
   simp [vsF,slBl] at hbb
   subst hbb
   obtain ⟨bb,off,loc⟩:=ad
   rcases hv with ⟨hv,-⟩ | ⟨b',o',c',e',hlt,-⟩
   ·cases hv
   ·injection e' with e1 e2 e3
    injection e1 with e1
    injection e1 with e1 e2 e3
    subst e1;subst e2;subst e3
    have hf:=h2.fresh _ _ _ _ rfl
    exact ⟨hf,hlt,fun hF=>by have h9:bb < w.heap.size:=hG.st.lt _ hF;omega⟩
 obtain ⟨h3,h4⟩:=(hG.bl hR hb).learn hn (vsF (.slice a l.length cc) l true) hv hG.st.size hside hG.ownLt fun y hy _=>hG.factLt y hy
 exact ⟨(a,cc),rfl,⟨G,h3⟩,h4⟩
@[reducible] def Act.aggX (a:Act) (x y:Sp):Value:=.agg #[.int .i64 a.kind,.int .i64 a.code,.int .i64 a.after,.int .i64 a.v.k,.int .i64 a.v.n,.string (bs a.v.s),.int .i64 a.keep.k,.int .i64 a.keep.n,.string (bs a.keep.s),sl x a.args,sl y a.cells]
@[reducible] def Act.agg0 (a:Act):Value:=.agg #[.int .i64 a.kind,.int .i64 a.code,.int .i64 a.after,.int .i64 a.v.k,.int .i64 a.v.n,.string (bs a.v.s),.int .i64 a.keep.k,.int .i64 a.keep.n,.string (bs a.keep.s),.slice none 0 0,.slice none 0 0]
theorem flat_get {l:List V} {i:Nat} {v:V} (hi:l[i]?=some v):(l.flatMap V.cs)[3 * i]?=some (.int .i64 v.k)∧(l.flatMap V.cs)[3 * i + 1]?=some (.int .i64 v.n)∧(l.flatMap V.cs)[3 * i + 2]?=some (.string (bs v.s)):=by
 induction l generalizing i with
 | nil=>cases hi
 | cons a t ih =>
  cases i with
  | zero=>cases hi;exact ⟨rfl,rfl,rfl⟩
  | succ i =>
   obtain ⟨h1,h2,h3⟩:=ih (i:=i) (by simpa using hi)
   have e:(a :: t).flatMap V.cs=V.cs a++t.flatMap V.cs:=rfl
   rw [e]
   refine ⟨?_,?_,?_⟩
   ·rw [List.getElem?_append_right (by simp [V.cs];omega)];rw [← h1];congr 1
   ·rw [List.getElem?_append_right (by simp [V.cs];omega)];rw [← h2];congr 1
   ·rw [List.getElem?_append_right (by simp [V.cs];omega)];rw [← h3];congr 1
end
section
open Go Go.RowKit
def rb (p:Sp):Nat:=(p.1.getD ⟨0,0,none⟩).block
def ro (p:Sp):Nat:=(p.1.getD ⟨0,0,none⟩).off
abbrev nCs (n:Int):List Value:=[.int .i64 n]
abbrev eptr (p:Sp) (i sz:Nat):Value:=.pointer (some ⟨rb p,ro p + i * sz,none⟩)
section
variable {F:Fence} {n:Nat} {P:Program} {ops:Array Oper} {Q:Exit→Go.Act→World→Prop} {md:Region.Mode} {B:World→Prop} {o:Oper} {a:Go.Act} {v:Value}
variable {R R':Res} {w0:World} {F0:Foot} {O L:List Item} {X:List Fact} {k i:Nat} {T T':List Nat} {listed:Array Bool} {rest:List Oper} {W W':World} {G:Foot}
theorem Vs.addr {w:World} {p:Sp} {l:List V} (hv:Vs w (sl p l) l) {i:Nat} (hi:i < l.length):p.1=some ⟨rb p,ro p,none⟩∧∀ j u,(l.flatMap V.cs)[j]?=some u→w.cell? ⟨rb p,ro p + j,none⟩=some u:=by
 obtain ⟨pa,pc⟩:=p
 rcases hv with ⟨e,hn⟩ | ⟨b,o,c,e,hb,q1,q2,q3⟩
 ·subst hn;exact absurd hi (by simp)
 ·injection e with h1 h2 h3
  simp only at h1
  subst h1
  exact ⟨rfl,q3⟩
theorem load_cell {ty:TypeId} {d:TypeDesc} (hu:P.underlying ty=some d) (hd:(match d with | .struct _ | .array _ _=>true | _=>false)=false) {w:World} {ad:Addr} {u:Value} (hc:w.cell? ad=some u):(Instr.loadAt ty (.pointer (some ad))).run P w=.ok u w:=by
 simp [Instr.loadAt,Instr.sureAddr,loadVar,run_isAgg_plain hu hd,hc]
theorem load_cells {ty:TypeId} {d:TypeDesc} (hu:P.underlying ty=some d) (hd:(match d with | .struct _ | .array _ _=>true | _=>false)=true) {w:World} {b off:Nat} {cs:List Value} (hi:(P.info? ty).map (·.size)=some cs.length) (hc:∀ j u,cs[j]?=some u→w.cell? ⟨b,off + j,none⟩=some u) :
  (Instr.loadAt ty (.pointer (some ⟨b,off,none⟩))).run P w=.ok (.agg cs.toArray) w:=by
 have h1:(loadCells ⟨b,off,none⟩ cs.length).run P w=.ok cs.toArray w :=
  run_loadCells_list (P:=P) w ⟨b,off,none⟩ cs (fun j v hv=>by
   have hadd:(⟨b,off,none⟩:Addr).add j=⟨b,off + j,none⟩:=by unfold Addr.add;split<;>simp_all
   rw [hadd];exact hc j v hv)
 cases hq:P.info? ty with
 | none=>simp [hq] at hi
 | some i =>
  have hs:i.size=cs.length:=by simpa [hq] using hi
  have hagg:(isAgg ty).run P w=.ok true w:=by
   unfold isAgg
   rw [Sem.run_bind,run_underlying hu w]
   cases d<;>simp_all
  simp [Instr.loadAt,Instr.sureAddr,loadVar,Sem.run_bind,hagg,sizeOf,typeInfo,hq,hs,h1]
theorem Vs.elem {w:World} {p:Sp} {l:List V} (hv:Vs w (sl p l) l) {i:Nat} (hi:i < l.length):w.cell? ⟨rb p,ro p + i * 3,none⟩=some (.int .i64 (l.getD i V.nil).k)∧w.cell? ⟨rb p,ro p + i * 3 + 1,none⟩=some (.int .i64 (l.getD i V.nil).n)∧w.cell? ⟨rb p,ro p + i * 3 + 2,none⟩=some (.string (bs (l.getD i V.nil).s)):=by
 obtain ⟨-,h⟩:=hv.addr hi
 obtain ⟨v,hvi⟩:∃ v,l[i]?=some v:=⟨l[i],List.getElem?_eq_getElem hi⟩
 have hg:l.getD i V.nil=v:=by rw [List.getD_eq_getElem?_getD,hvi];rfl
 obtain ⟨e0,e1,e2⟩:=flat_get hvi
 rw [Nat.mul_comm 3 i] at e0 e1 e2
 rw [hg]
 exact ⟨h _ _ e0,h _ _ e1,h _ _ e2⟩
theorem Vs.loadV {ty:TypeId} {d:TypeDesc} (hu:P.underlying ty=some d) (hd:(match d with | .struct _ | .array _ _=>true | _=>false)=true) (hz:(P.info? ty).map (·.size)=some 3) {w:World} {p:Sp} {l:List V} (hv:Vs w (sl p l) l) {i:Nat} (hi:i < l.length) :
  (Instr.loadAt ty (eptr p i 3)).run P w=.ok (V.agg (l.getD i V.nil)) w:=by
 obtain ⟨h0,h1,h2⟩:=hv.elem hi
 exact load_cells (cs:=V.cs (l.getD i V.nil)) hu hd hz fun j u hj=>by
  match j,hj with
  | 0,hj=>cases hj;exact h0
  | 1,hj=>cases hj;exact h1
  | 2,hj=>cases hj;exact h2
  | j + 3,hj=>simp [V.cs] at hj
theorem YB.index (ty e:TypeId) (x ix:Operand) (sz:Nat) (hop:o.op=.indexAddr ty x ix) (hw:Region.wanted o (yielded ops a.tmps)=true) {p:Sp} {m i:Nat} (hx:a.eval x=.slice p.1 m p.2) (hi:a.eval ix=.int .i64 (i:Int)) (him:i < m) (ht:P.underlying ty=some (.slice e)) (hz:(P.info? e).map (·.size)=some sz)
  (h:∀ w,B w→p.1=some ⟨rb p,ro p,none⟩):YB F n P ops B o (eptr p i sz) a :=
 YB.run (by rw [hop];nofun) (by rw [hop];nofun) hw fun w hB=>by
  unfold execOp;rw [hop]
  simp only [hx,hi,h w hB]
  cases hq:P.info? e with
  | none=>simp [hq] at hz
  | some inf =>
   have hs:inf.size=sz:=by simpa [hq] using hz
   have h2:(0:Int)≤(i:Int)∧(i:Int) < (m:Int):=by omega
   simp [Instr.indexAt,asIntOf,run_underlying ht,sizeOf,typeInfo,hq,hs,Addr.add,him]
theorem srcBox {α:Type} {enc:α→List Value} {l2:List α} {w:World} {b:Nat} {arr:Array Value} {t:TypeId} {fr:Nat × Nat} (hb:w.heap[b]?=some (.cells arr t fr)) (ha:arr.toList=l2.flatMap enc):∀ q u,(l2.flatMap enc)[q]?=some u→w.cell? ((⟨b,0,none⟩:Addr).add q)=some u:=fun q u h=>by
 have hadd:(⟨b,0,none⟩:Addr).add q=⟨b,q,none⟩:=by unfold Addr.add;split<;>simp_all
 rw [hadd,cell_of hb,← Array.getElem?_toList,ha];exact h
theorem wpS.append {α:Type} {enc:α→List Value} {t e:TypeId} {z:Value} {sz bytes:Nat} (hF:FWide F) (hR:ROk w0 R) (s x:Operand) (hi:ops[i]?=some o) (hr:Region.ready md ops listed=[i]) (hg:Good B T (SW R w0 F0 O L X)) (hT:(T.filter fun t=>!waits md ops i t)=T') (hw:Region.wanted o (yielded ops a.tmps)=true)
  (hop:o.op=.call { callee:=.builtin .append,args:=#[s,x],argTypes:=#[t,t] }) (ht:P.underlying t=some (.slice e)) (hinf:(P.info? e).map (fun i=>(i.zero,i.size,i.bytes))=some (some z,sz,bytes)) (hzs:z.cells.size=sz) (hsz:0 < sz) (hby:bytes≤1000)
  (henc:∀ x,(enc x).length=sz) (h1:∀ x,∀ u∈enc x,u.oneCell'=true) {xv:Value} {l:List α} (j:Nat) (hj:X[j]?=some (rowF enc e sz xv l)) {ad:Addr} {m c:Nat} (l2:List α) (hm:l2.length=m) (hs:a.eval s=xv) (hx:a.eval x=.slice (some ad) m c)
  (hsrc:∀ w,SW R w0 F0 O L X w→∀ q u,(l2.flatMap enc)[q]?=some u→w.cell? (ad.add q)=some u) (hfew:l.length + m≤8388608)
  (h:∀ p:Sp,wpS F n P md ops Q B k T' (listed.setIfInBounds i true) (a.put o.dst (slN p (l++l2).length)) (SW R w0 F0 O L (X.set j (rowF enc e sz (slN p (l++l2).length) (l++l2))))):wpS F n P md ops Q B (k + 1) T listed a (SW R w0 F0 O L X) :=
 wpS.one hi hr hg hT hw fun w hS=>by
  obtain ⟨i0,h0,hz0,hz1,hz2⟩:=info_parts hinf
  obtain ⟨p,w',hrun,hS'⟩:=SW.append (P:=P) (ty:=o.type) (c:=c) hR ht h0 hz0 hz1 hz2 hzs hsz henc h1 j hj ad m l2 hm hS (hsrc w hS) (by simp [maxLen];omega) (Nat.le_trans (Nat.mul_le_mul hfew hby) (by decide))
  exact wpIn_append hF s x t hop hs hx hrun ⟨_,hS',h p⟩
theorem wpL.append {α:Type} {enc:α→List Value} {t e:TypeId} {z:Value} {sz bytes:Nat} (hF:FWide F) (hR:ROk w0 R) (s x:Operand) (hw:Region.wanted o (yielded ops a.tmps)=true)
  (hop:o.op=.call { callee:=.builtin .append,args:=#[s,x],argTypes:=#[t,t] }) (ht:P.underlying t=some (.slice e)) (hinf:(P.info? e).map (fun i=>(i.zero,i.size,i.bytes))=some (some z,sz,bytes)) (hzs:z.cells.size=sz) (hsz:0 < sz) (hby:bytes≤1000)
  (henc:∀ x,(enc x).length=sz) (h1:∀ x,∀ u∈enc x,u.oneCell'=true) {xv:Value} {l:List α} (j:Nat) (hj:X[j]?=some (rowF enc e sz xv l)) {ad:Addr} {m c:Nat} (l2:List α) (hm:l2.length=m) (hs:a.eval s=xv) (hx:a.eval x=.slice (some ad) m c)
  (hsrc:∀ w,SW R w0 F0 O L X w→∀ q u,(l2.flatMap enc)[q]?=some u→w.cell? (ad.add q)=some u) (hfew:l.length + m≤8388608)
  (h:∀ p:Sp,∀ w,SW R w0 F0 O L (X.set j (rowF enc e sz (slN p (l++l2).length) (l++l2))) w→wpListIn F n P ops Q rest (a.put o.dst (slN p (l++l2).length)) w):∀ w,SW R w0 F0 O L X w→wpListIn F n P ops Q (o :: rest) a w :=
 wpL.one hw fun w hS=>by
  obtain ⟨i0,h0,hz0,hz1,hz2⟩:=info_parts hinf
  obtain ⟨p,w',hrun,hS'⟩:=SW.append (P:=P) (ty:=o.type) (c:=c) hR ht h0 hz0 hz1 hz2 hzs hsz henc h1 j hj ad m l2 hm hS (hsrc w hS) (by simp [maxLen];omega) (Nat.le_trans (Nat.mul_le_mul hfew hby) (by decide))
  exact wpIn_append hF s x t hop hs hx hrun ⟨_,hS',h p⟩
theorem SW.make {α:Type} (enc:α→List Value) (e:TypeId) (sz:Nat) (hR:ROk w0 R) (h:SW R w0 F0 O L X W) {arr:Array Value} {m:Nat} (ha:arr.size=m * sz) (hm:m≤maxLen):SW R w0 F0 O L (rowF enc e sz (.slice (some ⟨W.heap.size,0,none⟩) 0 m) [] :: X) (W.alloc (.cells arr e)):=by
 obtain ⟨⟨G,hG⟩,hn⟩:=h
 have hb:=hG.bl hR (Bl.al W (.cells arr e))
 obtain ⟨h1,h2⟩:=hb.learn (Wa:=W) hn (rowF enc e sz (.slice (some ⟨W.heap.size,0,none⟩) 0 m) []) ⟨by simp,.inr ⟨_,m,arr,rfl,Nat.zero_le _,World.alloc_heap_new W _,Nat.zero_le _,hm,ha,by simp⟩⟩ hG.st.size (fun b hbb=>by
  simp [rowF,obBl,Value.ownBlock] at hbb;subst hbb
  exact ⟨Nat.le_refl _,by simp,fun hF=>Nat.lt_irrefl _ (hG.st.lt _ hF)⟩) hG.ownLt fun y hy _=>hG.factLt y hy
 exact ⟨⟨G,h1⟩,h2⟩
theorem wpL.make {α:Type} (enc:α→List Value) {t e:TypeId} {z:Value} {sz bytes:Nat} (hR:ROk w0 R) (x:Operand) (l0:Operand) (hw:Region.wanted o (yielded ops a.tmps)=true) (hop:o.op=.makeSlice t l0 x) (ht:P.underlying t=some (.slice e))
  (hinf:(P.info? e).map (fun i=>(i.zero,i.size,i.bytes))=some (some z,sz,bytes)) (hzs:z.cells.size=sz) (hby:bytes≤1000) {m:Nat} (hl:a.eval l0=.int .i64 0) (hx:a.eval x=.int .i64 (m:Int)) (hm:m≤8388608)
  (h:∀ b:Nat,∀ w,SW R w0 F0 O L (rowF enc e sz (.slice (some ⟨b,0,none⟩) 0 m) [] :: X) w→wpListIn F n P ops Q rest (a.put o.dst (.slice (some ⟨b,0,none⟩) 0 m)) w):∀ w,SW R w0 F0 O L X w→wpListIn F n P ops Q (o :: rest) a w :=
 wpL.one hw fun w hS=>by
  obtain ⟨i0,h0,hz0,hz1,hz2⟩:=info_parts hinf
  subst hz1;subst hz2
  have hrun:(execOp a.eval o).run P w=.ok (.value (.slice (some ⟨w.heap.size,0,none⟩) 0 m)) (w.alloc (.cells (madeCells z.cells (m * i0.size)) e)):=by
   unfold execOp;rw [hop]
   have:=run_make (P:=P) (w:=w) t e i0 z ht h0 hz0 .i64 .i64 0 (m:Int) (by omega) (by omega) (by have:=Nat.mul_le_mul hby hm;omega) (by omega)
   simp only [hl,hx,Sem.run_bind,this,Result.andThen_ok,Sem.run_pure]
   simp
  exact wpIn_put (by rw [hop];nofun) (by rw [hop];nofun) hrun ⟨_,hS.make enc e i0.size hR (by rw [← hzs];simp [madeCells]) (by simp [maxLen];omega),h w.heap.size⟩
end
end
section
open Go Go.RowKit
def NewR {α:Type} (enc:α→List Value) (e:TypeId) (sz:Nat) (w:World) (l:List α) (en:Ending) (w':World):Prop:=∃ p:Sp,en=.returned (slN p l.length)∧w'.ownsRow w.heap.size e sz (slN p l.length) l.length (l.flatMap enc)∧Bl w w'
section
variable {F:Fence} {n:Nat} {P:Program} {ops:Array Oper} {Q:Exit→Go.Act→World→Prop} {md:Region.Mode} {B:World→Prop} {o:Oper} {a:Go.Act} {v:Value}
variable {R R':Res} {w0:World} {F0:Foot} {O L:List Item} {X:List Fact} {W W':World} {G:Foot}
theorem SW.dropL (h:SW R w0 F0 O L X W) (n:Nat):SW R w0 F0 O (L.drop n) X W:=by
 obtain ⟨⟨G,hG⟩,hn⟩:=h
 exact ⟨⟨G,hG.res,hG.st,hG.out,fun p hp=>hG.own p (List.mem_of_mem_drop hp),hG.fact⟩,hn.1.drop,fun x hx b hb q hq=>hn.2.1 x hx b hb q (List.mem_of_mem_drop hq),hn.2.2⟩
theorem SW.dropX (h:SW R w0 F0 O L X W) (n:Nat):SW R w0 F0 O L (X.drop n) W:=by
 obtain ⟨⟨G,hG⟩,hn⟩:=h
 exact ⟨⟨G,hG.res,hG.st,hG.out,hG.own,fun x hx=>hG.fact x (List.mem_of_mem_drop hx)⟩,hn.1,fun x hx=>hn.2.1 x (List.mem_of_mem_drop hx),hn.2.2.drop⟩
theorem SWF.own_ {α:Type} {enc:α→List Value} {e:TypeId} {sz:Nat} {x:Value} {l:List α} (h:SWF R w0 F0 O L X W G) (k:Nat) (hk:X[k]?=some (rowF enc e sz x l)):W.ownsRow w0.heap.size e sz x l.length (l.flatMap enc):=by
 have hf:=h.fact _ (List.mem_of_getElem? hk)
 obtain ⟨h1,h2⟩:=hf.1
 refine ⟨h1,h2.elim .inl fun ⟨g,cap,cur,e1,h0,r⟩=>.inr ⟨g,cap,cur,e1,?_,r⟩⟩
 exact (hf.2 g (by simp [rowF,obBl,e1,Value.ownBlock])).2.2 rfl
theorem SW.handR {α:Type} {enc:α→List Value} {e:TypeId} {sz:Nat} {p:Sp} {l:List α} (h:SW R w0 noF O L X W) (k:Nat) (hk:X[k]?=some (rowF enc e sz (slN p l.length) l)):NewR enc e sz w0 l (.returned (slN p l.length)) W :=
 ⟨p,rfl,h.sb.elim fun G hG=>hG.own_ k hk,h.finBl⟩
theorem newRowR {α:Type} {enc:α→List Value} {e:TypeId} {sz:Nat} {f:FuncId} {args:Array Value} {w:World} {l:List α} (hR:ROk w0 R) (hS:SW R w0 F0 O L X w) (c:Calls P f args w (NewR enc e sz w l)) :
  Calls P f args w fun en w'=>∃ x:Sp,en=.returned (slN x l.length)∧SW R w0 F0 O L (rowF enc e sz (slN x l.length) l :: X) w':=by
 obtain ⟨⟨G,hG⟩,hn⟩:=hS
 refine c.mono fun en w' ⟨p,he,ho,hb⟩=>⟨p,he,?_⟩
 obtain ⟨-,-,hlt⟩:=own_form ho
 have ho0:w'.ownsRow 0 e sz (slN p l.length) l.length (l.flatMap enc):=⟨ho.1,ho.2.elim .inl fun ⟨g,cap,cur,e1,h0,r⟩=>.inr ⟨g,cap,cur,e1,Nat.zero_le _,r⟩⟩
 obtain ⟨h3,h4⟩:=(hG.bl hR hb).learn hn (rowF enc e sz (slN p l.length) l) ho0 hG.st.size (fun b hbb=>by
  refine ⟨?_,hlt b hbb,fun hF=>?_⟩
  all_goals
   rcases ho.2 with ⟨e1,-⟩ | ⟨g,cap,cur,e1,h0,-⟩
   ·simp [rowF,obBl,e1,Value.ownBlock] at hbb
   ·simp [rowF,obBl,e1,Value.ownBlock] at hbb
    subst hbb
    first | exact h0 | (have:=hG.st.lt _ hF;omega)) hG.ownLt fun y hy _=>hG.factLt y hy
 exact ⟨⟨G,h3⟩,h4⟩
theorem YB.bin_addN (t t2:TypeId) (xo yo:Operand) (hop:o.op=.binOp .add t xo yo t2) (hw:Region.wanted o (yielded ops a.tmps)=true) {i:Nat} (hx:a.eval xo=.int .i64 (i:Int)) (hy:a.eval yo=.int .i64 1) (hi:i < 9223372036854775807):YB F n P ops B o (.int .i64 ((i + 1:Nat):Int)) a:=by
 have e:wrap64 ((i:Int) + 1)=((i + 1:Nat):Int):=by unfold wrap64;omega
 rw [← e]
 exact YB.bin_add t t2 xo yo hop hw hx hy
theorem YB.lenRow (hF:FWide F) (x:Operand) {ty e:TypeId} (hu:P.underlying ty=some (.slice e)) (hop:o.op=.call { callee:=.builtin .len,args:=#[x],argTypes:=#[ty] }) (hw:Region.wanted o (yielded ops a.tmps)=true) {ad:Option Addr} {m c:Nat} (hx:a.eval x=.slice ad m c):YB F n P ops B o (.int .i64 (m:Int)) a:=by
 refine .inl ⟨hw,fun w hB=>⟨fun f _=>hF.fn f,?_⟩⟩
 have hr:(o.semAt F.round a.eval).run P w=.ok (.value (.int .i64 (m:Int))) w:=by
  rw [Oper.semAt_eq _ _ _ (by rw [hop];nofun)]
  unfold execOp
  rw [hop]
  simp [resolve,invoke,builtin,hx,Builtin.len_,Builtin.lenOf,goInt,run_underlying hu]
 rw [hr]
 exact ⟨rfl,Bl.refl w⟩
end
end
section
open Go Go.RowKit
abbrev pCs (q:Sp × List Int):List Value:=[slN q.1 q.2.length]
abbrev ownN (w:World) (q:Sp × List Int):Prop:=w.ownsRow 0 2 1 (slN q.1 q.2.length) q.2.length (q.2.flatMap nCs)
def insF (ps:List (Sp × List Int)):Fact:=⟨ps.flatMap (fun q=>obBl (slN q.1 q.2.length)),true,false,fun w=>∀ q∈ps,ownN w q,fun w w' h hs hk q hq=>(rowF nCs 2 1 (slN q.1 q.2.length) q.2).ok w w' (h q hq) hs fun b hb=>hk b (List.mem_flatMap.2 ⟨q,hq,show b∈obBl (slN q.1 q.2.length) from hb⟩)⟩
section
variable {R:Res} {w0:World} {F0:Foot} {O L:List Item} {X:List Fact} {W:World} {G:Foot}
theorem SW.nilIns (h:SW R w0 F0 O L X W):SW R w0 F0 O L (insF [] :: X) W:=by
 obtain ⟨⟨G,hG⟩,hn⟩:=h
 obtain ⟨h1,h2⟩:=hG.learn (Wa:=W) hn (insF []) (fun q hq=>by cases hq) hG.st.size (fun b hb=>by simp [insF] at hb) hG.ownLt fun y hy _=>hG.factLt y hy
 exact ⟨⟨G,h1⟩,h2⟩
theorem SW.joinIns {p:Sp} {l:List Int} {ps:List (Sp × List Int)} (h:SW R w0 F0 O L (rowF nCs 2 1 (slN p l.length) l :: X) W) (j:Nat) (hj:X[j]?=some (insF ps)):SW R w0 F0 O L (X.set j (insF (ps++[(p,l)]))) W:=by
 obtain ⟨⟨G,hG⟩,hn⟩:=h
 have hjl:j < X.length:=(List.getElem?_eq_some_iff.1 hj).1
 have he:X[j]=insF ps:=(List.getElem?_eq_some_iff.1 hj).2
 have hxm:=List.mem_of_getElem? hj
 have f1:=hG.fact _ List.mem_cons_self
 have f2:=hG.fact _ (List.mem_cons_of_mem _ hxm)
 have hbl:∀ b∈(insF (ps++[(p,l)])).bl,b∈(insF ps).bl∨b∈(rowF nCs 2 1 (slN p l.length) l).bl:=fun b hb=>by
  simp only [insF,List.flatMap_append,List.mem_append] at hb
  rcases hb with hb | hb
  ·exact .inl hb
  ·exact .inr (show b∈obBl (slN p l.length) by simpa using hb)
 have hmem:∀ z∈X.set j (insF (ps++[(p,l)])),z=insF (ps++[(p,l)])∨z∈X:=fun z hz=>by
  obtain ⟨i,hi,rfl⟩:=List.getElem_of_mem hz
  rw [List.length_set] at hi
  rw [List.getElem_set]
  by_cases hij:j=i
  ·rw [if_pos hij];exact .inl rfl
  ·rw [if_neg hij];exact .inr (List.getElem_mem hi)
 refine ⟨⟨G,hG.res,hG.st,hG.out,hG.own,fun z hz=>?_⟩,hn.1,fun z hz b hb q hq=>?_,?_⟩
 ·rcases hmem z hz with rfl | hz
  ·refine ⟨fun q hq=>?_,fun b hb=>?_⟩
   ·rcases List.mem_append.1 hq with hq | hq
    ·exact f2.1 q hq
    ·simp at hq;subst hq;exact f1.1
   ·rcases hbl b hb with hb | hb
    ·exact ⟨(f2.2 b hb).1,(f2.2 b hb).2.1,fun _=>(f2.2 b hb).2.2 rfl⟩
    ·exact ⟨(f1.2 b hb).1,(f1.2 b hb).2.1,fun _=>(f1.2 b hb).2.2 rfl⟩
  ·exact hG.fact z (List.mem_cons_of_mem _ hz)
 ·rcases hmem z hz with rfl | hz
  ·rcases hbl b hb with hb | hb
   ·exact hn.2.1 _ (List.mem_cons_of_mem _ hxm) b hb q hq
   ·exact hn.2.1 _ List.mem_cons_self b hb q hq
  ·exact hn.2.1 z (List.mem_cons_of_mem _ hz) b hb q hq
 ·have h1:=List.pairwise_cons.1 hn.2.2
  have hp:=List.pairwise_iff_getElem.1 h1.2
  refine List.pairwise_iff_getElem.2 fun i k hi hkk hik hm b hb=>?_
  rw [List.length_set] at hi hkk
  rw [List.getElem_set] at hm hb
  rw [List.getElem_set] at hm ⊢
  by_cases e1:j=i
  ·subst e1
   rw [if_pos rfl] at hb hm
   rw [if_neg (by omega)] at hm ⊢
   have hm2:X[k].mine=true:=by rcases hm with hm | hm;cases hm;exact hm
   rcases hbl b hb with hb | hb
   ·exact hp j k hi hkk hik (.inr hm2) b (by rw [he];exact hb)
   ·exact h1.1 _ (List.getElem_mem hkk) (.inr hm2) b hb
  ·rw [if_neg e1] at hb hm
   by_cases e2:j=k
   ·subst e2
    rw [if_pos rfl] at hm ⊢
    have hm2:X[i].mine=true:=by rcases hm with hm | hm;exact hm;cases hm
    intro hb2
    rcases hbl b hb2 with hb2 | hb2
    ·exact hp i j hi hkk hik (.inl hm2) b hb (by rw [he];exact hb2)
    ·exact h1.1 _ (List.getElem_mem hi) (.inr hm2) b hb2 hb
   ·rw [if_neg e2] at hm ⊢
    exact hp i k hi hkk hik hm b hb
theorem flat_nCs (l:List Int):l.flatMap nCs=l.map (fun n=>Value.int .i64 n):=by
 induction l with
 | nil=>rfl
 | cons a t ih=>rw [List.flatMap_cons,ih];rfl
end
end
section
open Go Go.RowKit
def Rd {α:Type} (enc:α→List Value) (w:World) (x:Value) (l:List α):Prop :=
 (x=.slice none 0 0∧l=[])∨∃ b o c,x=.slice (some ⟨b,o,none⟩) l.length c∧b < w.heap.size∧l.length≤c∧c≤maxLen∧∀ j u,(l.flatMap enc)[j]?=some u→w.cell? ⟨b,o + j,none⟩=some u
theorem Rd.vs {w:World} {x:Value} {l:List V} (h:Rd V.cs w x l):Vs w x l:=h
theorem Rd.keep {α:Type} {enc:α→List Value} {w w':World} {x:Value} {l:List α} (h:Rd enc w x l) (hs:w.heap.size≤w'.heap.size) (hk:∀ b∈slBl x,w'.heap[b]?=w.heap[b]?):Rd enc w' x l:=by
 rcases h with h | ⟨b,o,c,rfl,hb,q1,q2,q3⟩
 ·exact .inl h
 ·exact .inr ⟨b,o,c,rfl,Nat.lt_of_lt_of_le hb hs,q1,q2,fun j u hj=>(World.cell?_of_block (w:=w) (a:=⟨b,o + j,none⟩) (hk b (by simp [slBl]))).trans (q3 j u hj)⟩
def rdF {α:Type} (enc:α→List Value) (x:Value) (l:List α) (new:Bool):Fact:=⟨slBl x,new,false,fun w=>Rd enc w x l,fun w w' h hs hk=>h.keep hs hk⟩
theorem Rd.lt {α:Type} {enc:α→List Value} {w:World} {x:Value} {l:List α} (h:Rd enc w x l):∀ b∈slBl x,b < w.heap.size:=fun b hb=>by
 rcases h with ⟨rfl,-⟩ | ⟨b',o',c',rfl,h',-⟩
 ·cases hb
 ·simp [slBl] at hb;subst hb;exact h'
theorem Rd.addr {α:Type} {enc:α→List Value} {w:World} {p:Sp} {l:List α} (hv:Rd enc w (slN p l.length) l) {i:Nat} (hi:i < l.length):p.1=some ⟨rb p,ro p,none⟩∧∀ j u,(l.flatMap enc)[j]?=some u→w.cell? ⟨rb p,ro p + j,none⟩=some u:=by
 obtain ⟨pa,pc⟩:=p
 rcases hv with ⟨e,hn⟩ | ⟨b,o,c,e,hb,q1,q2,q3⟩
 ·subst hn;exact absurd hi (by simp)
 ·injection e with h1 h2 h3
  simp only at h1
  subst h1
  exact ⟨rfl,q3⟩
theorem flat1_get {α:Type} {f:α→Value} {l:List α} {i:Nat} {v:α} (h:l[i]?=some v):(l.flatMap fun x=>[f x])[i]?=some (f v):=by
 induction l generalizing i with
 | nil=>cases h
 | cons a t ih =>
  cases i with
  | zero=>cases h;rfl
  | succ i=>rw [List.flatMap_cons];simpa using ih (by simpa using h)
theorem Rd.elemN {w:World} {p:Sp} {l:List Int} (hv:Rd nCs w (slN p l.length) l) {i:Nat} (hi:i < l.length):w.cell? ⟨rb p,ro p + i * 1,none⟩=some (.int .i64 (l.getD i 0)):=by
 have e:l[i]?=some (l.getD i 0):=by rw [List.getD_eq_getElem?_getD,List.getElem?_eq_getElem hi];rfl
 rw [Nat.mul_one]
 exact (hv.addr hi).2 _ _ (flat1_get (f:=fun n=>Value.int .i64 n) e)
theorem own_rd {α:Type} {enc:α→List Value} {w:World} {e:TypeId} {sz base:Nat} {x:Value} {l:List α} (h:w.ownsRow base e sz x l.length (l.flatMap enc)):Rd enc w x l:=by
 rcases h.2 with ⟨rfl,hl⟩ | ⟨g,cap,cur,rfl,h0,hg,h1,h2,h3,h4⟩
 ·exact .inl ⟨rfl,List.eq_nil_of_length_eq_zero hl⟩
 ·refine .inr ⟨g,0,cap,rfl,block_lt hg,h1,h2,fun j u hj=>?_⟩
  rw [cell_of hg,Nat.zero_add,← Array.getElem?_toList]
  have hjl:=(List.getElem?_eq_some_iff.1 hj).1
  have hfl:=h.1
  have h5:=congrArg (fun t=>t[j]?) h4
  simp only [List.getElem?_take] at h5
  rw [if_pos (by omega)] at h5
  rw [h5];exact hj
theorem Rd.ix {w:World} {F:Foot} {x:Value} {l:List Int} (h:Rd nCs w x l) (hF:∀ b∈slBl x,¬ F b):Ix F w x l:=by
 refine ⟨?_,fun b o n c e=>?_⟩
 ·rcases h with h | ⟨b,o,c,rfl,h0,h1,h2,h3⟩
  ·exact .inl h
  ·refine .inr ⟨b,o,c,rfl,h0,h1,h2,fun j n hj=>h3 j _ (flat1_get (f:=fun n=>Value.int .i64 n) hj)⟩
 ·subst e;exact hF b (by simp [slBl])
theorem Rd.of_ix {w:World} {F:Foot} {x:Value} {l:List Int} (h:Ix F w x l):Rd nCs w x l:=by
 rcases h.is with h | ⟨b,o,c,rfl,h0,h1,h2,h3⟩
 ·exact .inl h
 ·refine .inr ⟨b,o,c,rfl,h0,h1,h2,fun j u hj=>?_⟩
  rw [flat_nCs,List.getElem?_map] at hj
  cases hl:l[j]? with
  | none=>rw [hl] at hj;cases hj
  | some n=>rw [hl] at hj;cases hj;exact h3 j n hl
theorem drop_len_add {α:Type} (x y:List α) (n:Nat):(x++y).drop (x.length + n)=y.drop n:=by
 induction x with
 | nil=>simp
 | cons a t ih=>rw [List.cons_append,List.length_cons,show t.length + 1 + n=(t.length + n) + 1 by omega,List.drop_succ_cons,ih]
theorem take_len_add {α:Type} (x y:List α) (n:Nat):(x++y).take (x.length + n)=x++y.take n:=by
 induction x with
 | nil=>simp
 | cons a t ih=>rw [List.cons_append,List.length_cons,show t.length + 1 + n=(t.length + n) + 1 by omega,List.take_succ_cons,ih,List.cons_append]
theorem flat_drop {α:Type} {enc:α→List Value} {sz:Nat} (hz:∀ x,(enc x).length=sz) (l:List α) (lo:Nat):(l.drop lo).flatMap enc=(l.flatMap enc).drop (lo * sz):=by
 induction l generalizing lo with
 | nil=>simp
 | cons a t ih =>
  cases lo with
  | zero=>simp
  | succ lo =>
   have e:(lo + 1) * sz=(enc a).length + lo * sz:=by rw [hz,Nat.succ_mul,Nat.add_comm]
   rw [List.drop_succ_cons,ih,List.flatMap_cons,e,drop_len_add]
theorem flat_take {α:Type} {enc:α→List Value} {sz:Nat} (hz:∀ x,(enc x).length=sz) (l:List α) (hi:Nat):(l.take hi).flatMap enc=(l.flatMap enc).take (hi * sz):=by
 induction l generalizing hi with
 | nil=>simp
 | cons a t ih =>
  cases hi with
  | zero=>simp
  | succ hi =>
   have e:(hi + 1) * sz=(enc a).length + hi * sz:=by rw [hz,Nat.succ_mul,Nat.add_comm]
   rw [List.take_succ_cons,List.flatMap_cons,ih,List.flatMap_cons,e,take_len_add]
def cutP (p:Sp) (lo m sz:Nat):Sp:=(if m=lo then p.1 else p.1.map (·.add (lo * sz)),m - lo)
theorem Rd.cut {α:Type} {enc:α→List Value} {sz:Nat} (hz:∀ x,(enc x).length=sz) {w:World} {p:Sp} {l:List α} (h:Rd enc w (slN p l.length) l) (lo hi m:Nat) (h1:lo≤hi) (h2:hi≤l.length) (h3:hi≤m) (h4:m≤p.2) :
  Rd enc w (slN (cutP p lo m sz) (hi - lo)) ((l.take hi).drop lo):=by
 have hlen:((l.take hi).drop lo).length=hi - lo:=by rw [List.length_drop,List.length_take];omega
 obtain ⟨pa,pc⟩:=p
 simp only at h4
 rcases h with ⟨e,hn⟩ | ⟨b,o,c,e,hb,q1,q2,q3⟩
 ·subst hn
  injection e with e1 e2 e3
  simp only at e1 e3
  subst e1
  have:hi=0:=by simpa using h2
  subst this
  have:lo=0:=by omega
  subst this
  refine .inl ⟨?_,by simp⟩
  have hm:m=0:=by omega
  subst hm
  simp [cutP]
 ·injection e with e1 e2 e3
  simp only at e1 e3
  subst e1 e3
  by_cases hml:m=lo
  ·have:lo=hi:=by omega
   subst this
   refine .inr ⟨b,o,pc - pc + (m - lo),?_,hb,?_,?_,fun j u hj=>?_⟩
   ·simp [cutP,hml,hlen]
   ·rw [hlen];omega
   ·omega
   ·have:(List.take lo l).drop lo=[]:=List.drop_eq_nil_of_le (by rw [List.length_take];omega)
    rw [this] at hj;cases hj
  ·refine .inr ⟨b,o + lo * sz,m - lo,?_,hb,by rw [hlen];omega,by omega,fun j u hj=>?_⟩
   ·simp [cutP,hml,hlen,Addr.add]
   ·rw [flat_drop hz,flat_take hz,List.getElem?_drop,List.getElem?_take] at hj
    split at hj
    ·have:=q3 _ _ hj
     rw [show o + lo * sz + j=o + (lo * sz + j) by omega];exact this
    ·cases hj
section
variable {R:Res} {w0:World} {F0:Foot} {O L:List Item} {X:List Fact} {W:World} {G:Foot}
theorem SW.also (h:SW R w0 F0 O L X W) (k:Nat) {y x:Fact} (hk:X[k]?=some y) (hm:y.mine=false∧x.mine=false) (hp:y.p W→x.p W) (hb:∀ b∈x.bl,b∈y.bl) (hn:x.new=true→y.new=true):SW R w0 F0 O L (x :: X) W:=by
 obtain ⟨⟨G,hG⟩,hnd⟩:=h
 have hy:=List.mem_of_getElem? hk
 refine ⟨⟨G,hG.res,hG.st,hG.out,hG.own,fun z hz=>?_⟩,hnd.1,fun z hz b hbz q hq=>?_,List.pairwise_cons.2 ⟨fun z hz hmz b hbx hbz=>?_,hnd.2.2⟩⟩
 ·rcases List.mem_cons.1 hz with rfl | hz
  ·exact ⟨hp (hG.fact y hy).1,fun b hbx=>⟨((hG.fact y hy).2 b (hb b hbx)).1,((hG.fact y hy).2 b (hb b hbx)).2.1,fun h1=>((hG.fact y hy).2 b (hb b hbx)).2.2 (hn h1)⟩⟩
  ·exact hG.fact z hz
 ·rcases List.mem_cons.1 hz with rfl | hz
  ·exact hnd.2.1 y hy b (hb b hbz) q hq
  ·exact hnd.2.1 z hz b hbz q hq
 ·have hmz2:z.mine=true:=hmz.elim (fun h=>by rw [hm.2] at h;cases h) id
  have hp:=List.pairwise_iff_getElem.1 hnd.2.2
  obtain ⟨j,hj,rfl⟩:=List.getElem_of_mem hz
  have hkl:k < X.length:=(List.getElem?_eq_some_iff.1 hk).1
  have he:X[k]=y:=(List.getElem?_eq_some_iff.1 hk).2
  rcases Nat.lt_trichotomy j k with h1 | h1 | h1
  ·exact hp j k hj hkl h1 (.inl hmz2) b hbz (by rw [he];exact hb b hbx)
  ·subst h1;rw [he,hm.1] at hmz2;cases hmz2
  ·exact hp k j hkl hj h1 (.inr hmz2) b (by rw [he];exact hb b hbx) hbz
end
end
end Go.Proofs.YtlbcbikplfocfaaGreatDoor.W
