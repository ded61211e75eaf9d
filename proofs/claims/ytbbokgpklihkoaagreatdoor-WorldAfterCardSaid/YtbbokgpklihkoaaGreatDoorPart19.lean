/- Sw Sw2 Sw3 Sw4 Open FindP Sw5 Find -/
import Derived.Test.YtbbokgpklihkoaaGreatDoorPart0
import Derived.OrdersIn
import Derived.TacticsIn
import Derived.Test.YtbbokgpklihkoaaGreatDoorPart11
import Derived.Laws.CopyRow
import Derived.Shelf.Abstract
import Derived.Laws.StructEq
import Derived.Laws.BitsLemmas
import Derived.Test.YtbbokgpklihkoaaGreatDoorPart17
import Derived.Test.YtbbokgpklihkoaaGreatDoorPart18
import Derived.Sort.CutIn
import Derived.Test.YtbbokgpklihkoaaGreatDoorPart15
import Derived.Test.YtbbokgpklihkoaaGreatDoorPart10
set_option linter.unusedVariables false
set_option linter.unusedSimpArgs false
namespace Go.Proofs.YtbbokgpklihkoaaGreatDoor.W
section
open Go
section
variable {F:Fence} {n:Nat} {P:Program} {ops:Array Oper} {Q:Exit→Go.Act→World→Prop} {md:Region.Mode} {B:World→Prop}
def RunB (F:Fence) (n:Nat) (P:Program) (o:Oper) (a:Go.Act) (w:World) (v:Value):Prop :=
 (∀ f,o.about P w a.eval=some f→F.fn f)∧match (o.semAt F.round a.eval).run P w with
  | .ok (.value u) w'=>u=v∧Bl w w'
  | .ok (.enter f args) w'=>(F.depth.isSome=true→1≤n)∧CallsIn F (n - 1) P f args w' fun e w''=>e=.returned v∧Bl w w''
  | _=>False
theorem RunB.wpIn {o:Oper} {a:Go.Act} {w:World} {v:Value} {K:Go.Act→World→Prop} (h:RunB F n P o a w v) (hK:∀ w',Bl w w'→K (a.put o.dst v) w'):o.wpIn F n P a w K Q:=by
 unfold RunB at h
 refine ⟨h.1,?_⟩
 have h:=h.2
 generalize (o.semAt F.round a.eval).run P w=r at *
 cases r with
 | halt x w'=>exact h.elim
 | ok x w' =>
  cases x with
  | value u=>obtain ⟨rfl,hb⟩:=h;exact hK _ hb
  | enter f args=>exact ⟨h.1,CallsIn.mono h.2 fun e w'' ⟨he,hb⟩=>by subst he;exact hK _ hb⟩
  | _=>exact h.elim
theorem RunB.of_same {o:Oper} {a a':Go.Act} {w:World} {v:Value} (h:RunB F n P o a w v) (hs:o.semAt F.round a'.eval=o.semAt F.round a.eval) (hb:o.about P w a'.eval=o.about P w a.eval):RunB F n P o a' w v:=by
 unfold RunB at *
 rw [hs,hb];exact h
theorem semAt_put (o:Oper) (ho:∀ cs b,o.op≠.select cs b) (a:Go.Act) (dst:Option Tmp) (v:Value) (h:∀ d,dst=some d→d ∉ o.looksAt ops):o.semAt F.round (a.put dst v).eval=o.semAt F.round a.eval:=by
 unfold Oper.semAt
 cases F.round with
 | none=>exact execOp_put o ho a dst v h
 | some l =>
  cases hop:o.op<;>simp only []<;>first | exact execOp_put o ho a dst v h | skip
  rename_i c
  have e:=resolve_congr (ρ:=(a.put dst v).eval) (ρ':=a.eval) c o.type (fun x hx=>Act.eval_put fun d hd hxd=>h d hd (by
   subst hxd
   exact List.mem_append_left _ (List.mem_filterMap.2 ⟨.tmp d,by rw [hop];simpa [Op.operands] using hx,rfl⟩)))
  rw [e]
def YB (F:Fence) (n:Nat) (P:Program) (ops:Array Oper) (B:World→Prop) (o:Oper) (v:Value) (a:Go.Act):Prop :=
 (Region.wanted o (yielded ops a.tmps)=true∧∀ w,B w→RunB F n P o a w v)∨(Region.wanted o (yielded ops a.tmps)=false∧v=undef∧∀ w f,o.about P w a.eval=some f→F.fn f)
theorem YB.of_same {o:Oper} {v:Value} {a a':Go.Act} (hy:YB F n P ops B o v a) (hs:o.semAt F.round a'.eval=o.semAt F.round a.eval)
  (hw:Region.wanted o (yielded ops a'.tmps)=Region.wanted o (yielded ops a.tmps)) (hb:∀ w,o.about P w a'.eval=o.about P w a.eval):YB F n P ops B o v a' :=
 hy.elim (fun hy=>.inl ⟨hw.trans hy.1,fun w h=>(hy.2 w h).of_same hs (hb w)⟩) fun hy=>.inr ⟨hw.trans hy.1,hy.2.1,fun w f h=>hy.2.2 w f (by rw [← hb w];exact h)⟩
theorem YB.wpOpIn {i:Nat} {o:Oper} {v:Value} {a:Go.Act} (hi:ops[i]?=some o) (hy:YB F n P ops B o v a) {K:Go.Act→World→Prop} {w:World} (hB:B w)
  (h:∀ w',Bl w w'→K (a.put o.dst v) w'):wpOpIn F n P ops Q i K a w:=by
 unfold Go.wpOpIn
 rcases hy with hy | ⟨h1,rfl,h3⟩
 ·simp only [hi,hy.1,if_true]
  exact (hy.2 w hB).wpIn h
 ·simp only [hi,h1,Bool.false_eq_true,if_false]
  exact ⟨h3 w,h w (Bl.refl w)⟩
theorem wpOpIn_putB {j:Nat} {oi oj:Oper} {v:Value} (hj:ops[j]?=some oj) (hap:oi.apart ops oj=true) (hsi:∀ cs b,oi.op≠.select cs b) (hsj:∀ cs b,oj.op≠.select cs b)
  (hQ:∀ c a w,Q (.panic c) (a.put oi.dst v) w→Q (.panic c) a w) {K:Go.Act→World→Prop} {a:Go.Act} {w:World} (hy:YB F n P ops B oi v a) (h:wpOpIn F n P ops Q j K (a.put oi.dst v) w) :
  wpOpIn F n P ops Q j (fun a' w'=>YB F n P ops B oi v a'∧K (a'.put oi.dst v) w') a w:=by
 obtain ⟨h1,h2,h3⟩:=Oper.apart_spec hap
 have keep:∀ (a:Go.Act),YB F n P ops B oi v a→∀ u,YB F n P ops B oi v (a.put oj.dst u):=fun a hy u =>
  hy.of_same (semAt_put oi hsi a oj.dst u h3) (wanted_put oi a oj.dst u h3) (fun w=>about_put oi w a oj.dst u h3)
 have keepD:∀ d,YB F n P ops B oi v { a with defers:=d :: a.defers }:=fun d=>hy.of_same rfl rfl (fun _=>rfl)
 unfold wpOpIn at *
 simp only [hj] at *
 rw [wanted_put oj a oi.dst v h1,about_put oj w a oi.dst v h1] at h
 split
 ·rename_i hw
  simp only [hw,if_true] at h
  unfold Oper.wpIn at *
  rw [about_put oj w a oi.dst v h1] at h
  refine ⟨h.1,?_⟩
  have h:=h.2
  rw [semAt_put oj hsj a oi.dst v h1] at h
  generalize (oj.semAt F.round a.eval).run P w=r at *
  cases r with
  | ok x w' =>
   cases x<;>simp only [Oper.uponIn] at h ⊢
   case value u=>exact ⟨keep a hy u,by rw [← Act.put_comm a v u h2];exact h⟩
   case skip=>exact ⟨keep a hy _,by rw [← Act.put_comm a v undef h2];exact h⟩
   case defer d =>
    refine ⟨keep _ (keepD d) _,?_⟩
    rw [← Act.put_comm _ v undef h2,← Act.put_defers]
    exact h
   case enter f args =>
    refine ⟨h.1,CallsIn.mono h.2 fun e w'' he=>?_⟩
    cases e with
    | returned u=>exact ⟨keep a hy u,by rw [← Act.put_comm a v u h2];exact he⟩
    | panicked c=>exact hQ _ _ _ he
    | outgrown=>exact he
   case row row args=>exact ⟨h.1,RowsIn.mono h.2 fun u w'' he=>⟨keep a hy u,by rw [← Act.put_comm a v u h2];exact he⟩⟩
   case round l f tmps assign body =>
    refine ⟨h.1,RoundIn.mono h.2 fun e w'' he=>?_⟩
    cases e with
    | returned u=>exact ⟨keep a hy u,by rw [← Act.put_comm a v u h2];exact he⟩
    | panicked c=>exact hQ _ _ _ he
    | outgrown=>exact he
  | halt x w' =>
   cases x<;>simp only [Oper.uponIn] at h ⊢
   case panic u=>exact hQ _ _ _ h
 ·rename_i hw
  simp only [hw] at h
  exact ⟨h.1,keep a hy _,by rw [← Act.put_comm a v undef h2];exact h.2⟩
def Stab (S:World→Prop):Prop:=∀ w w',S w→Bl w w'→S w'
def waits (md:Region.Mode) (ops:Array Oper) (j i:Nat):Bool:=match ops[j]? with | some o=>o.after.any (fun e=>Region.binds md e && e.on == i) | none=>false
def Good (B:World→Prop) (T:List Nat) (S:World→Prop):Prop:=Stab S∧(T≠[]→∀ w,S w→B w)
def wpS (F:Fence) (n:Nat) (P:Program) (md:Region.Mode) (ops:Array Oper) (Q:Exit→Go.Act→World→Prop) (B:World→Prop):Nat→List Nat→Array Bool→Go.Act→(World→Prop)→Prop
 | 0,T,listed,a,S=>Good B T S∧Region.ready md ops listed=[]∧∀ w,S w→Q .normal a w
 | k + 1,T,listed,a,S=>Good B T S∧(Region.ready md ops listed=[]→∀ w,S w→Q .normal a w)∧∀ i∈Region.ready md ops listed,∀ w,S w →
   wpOpIn F n P ops Q i (fun a' w'=>∃ S':World→Prop,S' w'∧wpS F n P md ops Q B k (T.filter fun t=>!waits md ops i t) (listed.setIfInBounds i true) a' S') a w
theorem wpS.good {k:Nat} {T:List Nat} {listed:Array Bool} {a:Go.Act} {S:World→Prop} (h:wpS F n P md ops Q B k T listed a S):Good B T S:=by
 cases k<;>exact h.1
theorem wpS.sound:∀ (k:Nat) {T:List Nat} {listed:Array Bool} {a:Go.Act} {S:World→Prop} {w:World},wpS F n P md ops Q B k T listed a S→S w→wpAnyIn F n P md ops Q k listed a w
 | 0,_,_,_,_,w,h,hw=>⟨h.2.1,h.2.2 w hw⟩
 | k + 1,_,_,_,_,w,h,hw=>⟨fun h0=>h.2.1 h0 w hw,fun i hi=>wpOpIn_mono (fun _ _ ⟨_,h1,h2⟩=>wpS.sound k h2 h1) (h.2.2 i hi w hw)⟩
theorem wpS.less:∀ (k:Nat) {T T':List Nat} {listed:Array Bool} {a:Go.Act} {S:World→Prop},wpS F n P md ops Q B k T listed a S→(∀ t∈T',t∈T)→wpS F n P md ops Q B k T' listed a S
 | 0,T,T',_,_,S,h,ht=>⟨⟨h.1.1,fun hn=>h.1.2 (fun e=>hn (by subst e;exact List.eq_nil_iff_forall_not_mem.2 fun t h=>by cases ht t h))⟩,h.2⟩
 | k + 1,T,T',_,_,S,h,ht=>⟨⟨h.1.1,fun hn=>h.1.2 (fun e=>hn (by subst e;exact List.eq_nil_iff_forall_not_mem.2 fun t h=>by cases ht t h))⟩,h.2.1,fun i hi w hw =>
   wpOpIn_mono (fun _ _ ⟨S',h1,h2⟩=>⟨S',h1,wpS.less k h2 fun t h3=>by rw [List.mem_filter] at h3 ⊢;exact ⟨ht t h3.1,h3.2⟩⟩) (h.2.2 i hi w hw)⟩
theorem filter_comm2 (p q:Nat→Bool) (l:List Nat):(l.filter p).filter q=(l.filter q).filter p:=by
 simp only [List.filter_filter,Bool.and_comm]
theorem wpS.first {i:Nat} {oi:Oper} {v:Value} (hi:ops[i]?=some oi) (hsel:∀ (j:Nat) (o:Oper) cs b,ops[j]?=some o→o.op≠.select cs b) (hQ:∀ c a w,Q (.panic c) (a.put oi.dst v) w→Q (.panic c) a w) :
  ∀ (k:Nat) (T:List Nat) (listed:Array Bool) (a:Go.Act) (S:World→Prop),
   (∀ j oj,ops[j]?=some oj→j≠i→listed.getD j true=false→(∀ e∈oj.after,Region.binds md e=true→e.on≠i)→oi.apart ops oj=true) →
   i∈Region.ready md ops listed→YB F n P ops B oi v a →
   wpS F n P md ops Q B k (i :: T.filter fun t=>!waits md ops i t) (listed.setIfInBounds i true) (a.put oi.dst v) S→wpS F n P md ops Q B (k + 1) T listed a S:=by
 intro k
 induction k with
 | zero =>
  intro T listed a S _ hr hy H
  have hg:=H.good
  have hSB:=hg.2 (by simp)
  refine ⟨⟨hg.1,fun _=>hSB⟩,fun h=>(by rw [h] at hr;cases hr),fun j hj w hw=>?_⟩
  by_cases hji:j=i
  ·subst hji
   exact hy.wpOpIn hi (hSB w hw) fun w' hb=>⟨S,hg.1 w w' hw hb,H.less 0 fun t ht=>List.mem_cons_of_mem _ ht⟩
  ·have:=ready_mono hj hji
   rw [H.2.1] at this
   cases this
 | succ k ih =>
  intro T listed a S hfree hr hy H
  have hg:=H.good
  have hSB:=hg.2 (by simp)
  refine ⟨⟨hg.1,fun _=>hSB⟩,fun h=>(by rw [h] at hr;cases hr),fun j hj w hw=>?_⟩
  by_cases hji:j=i
  ·subst hji
   exact hy.wpOpIn hi (hSB w hw) fun w' hb=>⟨S,hg.1 w w' hw hb,H.less (k + 1) fun t ht=>List.mem_cons_of_mem _ ht⟩
  ·have h1:=H.2.2 j (ready_mono hj hji) w hw
   obtain ⟨hjun,oj,hoj,hall⟩:=mem_ready.1 hj
   have hnot:∀ e∈oj.after,Region.binds md e=true→e.on≠i:=fun e he hb heq=>by
    have h1:=hall e he hb
    have h0:=(mem_ready.1 hr).1
    rw [heq] at h1
    rcases Nat.lt_or_ge i listed.size with h' | h'
    ·simp [h'] at h0 h1;rw [h0] at h1;cases h1
    ·simp [Array.getElem?_eq_none h'] at h1
   have hw0:waits md ops j i=false:=by
    simp only [waits,hoj]
    cases hc:oj.after.any (fun e=>Region.binds md e && e.on == i) with
    | false=>first | rfl | exact hc
    | true =>
     obtain ⟨e,he,hb⟩:=Array.any_eq_true'.1 hc
     simp only [Bool.and_eq_true,beq_iff_eq] at hb
     exact absurd hb.2 (hnot e he hb.1)
   have h2:=wpOpIn_putB hoj (hfree j oj hoj hji hjun hnot) (fun cs b=>hsel i oi cs b hi) (fun cs b=>hsel j oj cs b hoj) hQ hy h1
   have hfree':∀ k ok,ops[k]?=some ok→k≠i→(listed.setIfInBounds j true).getD k true=false →
     (∀ e∈ok.after,Region.binds md e=true→e.on≠i)→oi.apart ops ok=true:=fun k ok hk hki hun hno=>by
    refine hfree k ok hk hki ?_ hno
    by_cases hjk:j=k
    ·subst hjk;exact hjun
    ·rw [getD_set_ne true hjk] at hun;exact hun
   refine wpOpIn_mono (fun a' w' h3=>?_) h2
   obtain ⟨hy',S',h4,h5⟩:=h3
   refine ⟨S',h4,ih _ (listed.setIfInBounds j true) a' S' hfree' (ready_mono hr (Ne.symm hji)) hy' ?_⟩
   rw [Array.setIfInBounds_comm _ _ hji]
   rw [List.filter_cons,hw0] at h5
   simp only [Bool.not_false,if_true] at h5
   rw [filter_comm2]
   exact h5
theorem wpS.take {i:Nat} {oi:Oper} {v:Value} {k:Nat} {T T':List Nat} {listed:Array Bool} {a:Go.Act} {S:World→Prop} (hi:ops[i]?=some oi)
  (hs:Region.noSelect ops=true) (hf:Region.free md ops listed i=true) (hr:(Region.ready md ops listed).contains i=true)
  (hQ:∀ c a w,Q (.panic c) (a.put oi.dst v) w→Q (.panic c) a w) (hT:(T.filter fun t=>!waits md ops i t)=T') (hy:YB F n P ops B oi v a)
  (h:wpS F n P md ops Q B k (i :: T') (listed.setIfInBounds i true) (a.put oi.dst v) S):wpS F n P md ops Q B (k + 1) T listed a S :=
 wpS.first hi (Region.noSelect_spec hs) hQ k T listed a S (Region.free_spec hi hf) (by simpa using hr) hy (by rw [hT];exact h)
theorem wpS.firstP {i:Nat} {oi:Oper} {v:Value} (hi:ops[i]?=some oi) (hsel:∀ (j:Nat) (o:Oper) cs b,ops[j]?=some o→o.op≠.select cs b) (hQ:∀ c a w,Q (.panic c) (a.put oi.dst v) w→Q (.panic c) a w) :
  ∀ (k:Nat) (T:List Nat) (listed:Array Bool) (a:Go.Act) (S:World→Prop),
   (∀ j oj,ops[j]?=some oj→j≠i→listed.getD j true=false→(∀ e∈oj.after,Region.binds md e=true→e.on≠i)→oi.apart ops oj=true) →
   i∈Region.ready md ops listed→YB F n P ops (fun _=>True) oi v a →
   wpS F n P md ops Q B k T (listed.setIfInBounds i true) (a.put oi.dst v) S→wpS F n P md ops Q B (k + 1) T listed a S:=by
 intro k
 induction k with
 | zero =>
  intro T listed a S _ hr hy H
  have hg:=H.good
  refine ⟨hg,fun h=>(by rw [h] at hr;cases hr),fun j hj w hw=>?_⟩
  by_cases hji:j=i
  ·subst hji
   exact hy.wpOpIn hi trivial fun w' hb=>⟨S,hg.1 w w' hw hb,H.less 0 fun t ht=>(List.mem_filter.1 ht).1⟩
  ·have:=ready_mono hj hji
   rw [H.2.1] at this
   cases this
 | succ k ih =>
  intro T listed a S hfree hr hy H
  have hg:=H.good
  refine ⟨hg,fun h=>(by rw [h] at hr;cases hr),fun j hj w hw=>?_⟩
  by_cases hji:j=i
  ·subst hji
   exact hy.wpOpIn hi trivial fun w' hb=>⟨S,hg.1 w w' hw hb,H.less (k + 1) fun t ht=>(List.mem_filter.1 ht).1⟩
  ·have h1:=H.2.2 j (ready_mono hj hji) w hw
   obtain ⟨hjun,oj,hoj,hall⟩:=mem_ready.1 hj
   have hnot:∀ e∈oj.after,Region.binds md e=true→e.on≠i:=fun e he hb heq=>by
    have h1:=hall e he hb
    have h0:=(mem_ready.1 hr).1
    rw [heq] at h1
    rcases Nat.lt_or_ge i listed.size with h' | h'
    ·simp [h'] at h0 h1;rw [h0] at h1;cases h1
    ·simp [Array.getElem?_eq_none h'] at h1
   have h2:=wpOpIn_putB hoj (hfree j oj hoj hji hjun hnot) (fun cs b=>hsel i oi cs b hi) (fun cs b=>hsel j oj cs b hoj) hQ hy h1
   have hfree':∀ k ok,ops[k]?=some ok→k≠i→(listed.setIfInBounds j true).getD k true=false →
     (∀ e∈ok.after,Region.binds md e=true→e.on≠i)→oi.apart ops ok=true:=fun k ok hk hki hun hno=>by
    refine hfree k ok hk hki ?_ hno
    by_cases hjk:j=k
    ·subst hjk;exact hjun
    ·rw [getD_set_ne true hjk] at hun;exact hun
   refine wpOpIn_mono (fun a' w' h3=>?_) h2
   obtain ⟨hy',S',h4,h5⟩:=h3
   refine ⟨S',h4,ih _ (listed.setIfInBounds j true) a' S' hfree' (ready_mono hr (Ne.symm hji)) hy' ?_⟩
   rw [Array.setIfInBounds_comm _ _ hji]
   exact h5
theorem wpS.takeP {i:Nat} {oi:Oper} {v:Value} {k:Nat} {T:List Nat} {listed:Array Bool} {a:Go.Act} {S:World→Prop} (hi:ops[i]?=some oi)
  (hs:Region.noSelect ops=true) (hf:Region.free md ops listed i=true) (hr:(Region.ready md ops listed).contains i=true)
  (hQ:∀ c a w,Q (.panic c) (a.put oi.dst v) w→Q (.panic c) a w) (hy:YB F n P ops (fun _=>True) oi v a)
  (h:wpS F n P md ops Q B k T (listed.setIfInBounds i true) (a.put oi.dst v) S):wpS F n P md ops Q B (k + 1) T listed a S :=
 wpS.firstP hi (Region.noSelect_spec hs) hQ k T listed a S (Region.free_spec hi hf) (by simpa using hr) hy h
theorem wpS.one {i:Nat} {o:Oper} {k:Nat} {T T':List Nat} {listed:Array Bool} {a:Go.Act} {S:World→Prop} (hi:ops[i]?=some o) (hr:Region.ready md ops listed=[i]) (hg:Good B T S)
  (hT:(T.filter fun t=>!waits md ops i t)=T') (hw:Region.wanted o (yielded ops a.tmps)=true)
  (h:∀ w,S w→o.wpIn F n P a w (fun a' w'=>∃ S':World→Prop,S' w'∧wpS F n P md ops Q B k T' (listed.setIfInBounds i true) a' S') Q):wpS F n P md ops Q B (k + 1) T listed a S:=by
 refine ⟨hg,fun h0=>absurd (hr ▸ h0) (by simp),fun j hj w hw2=>?_⟩
 rw [hr,List.mem_singleton] at hj
 subst hj
 unfold wpOpIn
 rw [hi]
 simp only [hw,if_true]
 rw [hT]
 exact h w hw2
theorem wpS.done {T:List Nat} {listed:Array Bool} {a:Go.Act} {S:World→Prop} (hr:Region.ready md ops listed=[]) (hg:Good B T S) (h:∀ w,S w→Q .normal a w):∀ k,wpS F n P md ops Q B k T listed a S
 | 0=>⟨hg,hr,h⟩
 | _ + 1=>⟨hg,fun _=>h,by rw [hr];simp⟩
theorem wpS.region {id:Nat} {a:Go.Act} {w:World} {S:World→Prop} (hm:P.follows .mixedOrders=true) (hS:S w) (h:wpS F n P .any ops Q B ops.size [] (Array.replicate ops.size false) a S):(Code.region id ops true).wpIn F n P Q a w :=
 wpIn_region_any hm (h.sound _ (h.good.1 w _ hS ⟨rfl,rfl,rfl,Nat.le_refl _,fun _ _=>rfl⟩))
theorem wpL.take {o:Oper} {v:Value} {rest:List Oper} {a:Go.Act} {S:World→Prop} (hS:Stab S) (hSB:∀ w,S w→B w) (hy:YB F n P ops B o v a) (h:∀ w,S w→wpListIn F n P ops Q rest (a.put o.dst v) w):∀ w,S w→wpListIn F n P ops Q (o :: rest) a w:=by
 intro w hw
 unfold wpListIn
 rcases hy with hy | ⟨h1,rfl,h3⟩
 ·rw [if_pos hy.1]
  exact (hy.2 w (hSB w hw)).wpIn fun w' hb=>h w' (hS w w' hw hb)
 ·rw [if_neg (by rw [h1];decide)]
  exact ⟨h3 w,h w hw⟩
theorem wpL.one {o:Oper} {rest:List Oper} {a:Go.Act} {S:World→Prop} (hw:Region.wanted o (yielded ops a.tmps)=true)
  (h:∀ w,S w→o.wpIn F n P a w (fun a' w'=>∃ S':World→Prop,S' w'∧∀ w,S' w→wpListIn F n P ops Q rest a' w) Q):∀ w,S w→wpListIn F n P ops Q (o :: rest) a w:=by
 intro w hw2
 unfold wpListIn
 rw [if_pos hw]
 exact Oper.wpIn_mono (fun a' w' ⟨S',h1,h2⟩=>h2 w' h1) (h w hw2)
end
end
section
open Go Go.RowKit
abbrev Item:=Nat × Obj
structure Fact where
 bl:List Nat
 new:Bool
 mine:Bool
 p:World→Prop
 ok:∀ w w',p w→w.heap.size≤w'.heap.size→(∀ b∈bl,w'.heap[b]?=w.heap[b]?)→p w'
abbrev Res:=World→Foot→Prop
structure ROk (w0:World) (R:Res):Prop where
 keep:∀ W W' F,R W F→W.heap.size≤W'.heap.size→(∀ b,F b∨b < w0.heap.size→W'.heap[b]?=W.heap[b]?)→R W' F
 lt:∀ W F,R W F→∀ b,F b→b < W.heap.size
def RNo:Res:=fun _ F=>∀ b,¬ F b
theorem RNo.ok (w0:World):ROk w0 RNo:=⟨fun _ _ _ h _ _=>h,fun _ _ h b hb=>absurd hb (h b)⟩
def RH (hp:Nat) (h:Hp):Res:=fun W F=>HR W hp h F
theorem RH.ok (w0:World) (hp:Nat) (h:Hp):ROk w0 (RH hp h):=⟨fun _ _ _ h hs hk=>HR.keep h hs fun b hb=>hk b (.inl hb),fun _ _ h=>HR.lt h⟩
def RR (w0:World) (hp:Nat) (h:Hp) (Fh:Foot):Res:=fun W F=>(∀ b,¬ F b)∧HR W hp h Fh∧∀ b,Fh b→b < w0.heap.size
theorem RR.ok (w0:World) (hp:Nat) (h:Hp) (Fh:Foot):ROk w0 (RR w0 hp h Fh):=⟨fun _ _ _ r hs hk=>⟨r.1,r.2.1.keep hs fun b hb=>hk b (.inr (r.2.2 b hb)),r.2.2⟩,fun _ _ r b hb=>absurd hb (r.1 b)⟩
def noF:Foot:=fun _=>False
theorem RNo.start (w0:World):RNo w0 noF:=fun _ h=>h
def RStep (R:Res) (w:World) (F:Foot) (w':World):Prop:=∃ F',R w' F'∧Step w.heap.size F w w' F'
theorem HStep.r {w w':World} {hp:Nat} {F:Foot} {h:Hp} (s:HStep w hp F h w'):RStep (RH hp h) w F w':=s
structure SWF (R:Res) (w0:World) (F0:Foot) (O L:List Item) (X:List Fact) (W:World) (F:Foot):Prop where
 res:R W F
 st:Step w0.heap.size F0 w0 W F
 out:∀ p∈O,W.heap[p.1]?=some p.2∧¬ F p.1∧p.1 < w0.heap.size
 own:∀ p∈L,W.heap[p.1]?=some p.2∧¬ F p.1∧w0.heap.size≤p.1
 fact:∀ x∈X,x.p W∧∀ b∈x.bl,¬ F b∧b < W.heap.size∧(x.new=true→w0.heap.size≤b)
def SB (R:Res) (w0:World) (F0:Foot) (O L:List Item) (X:List Fact) (W:World):Prop:=∃ F,SWF R w0 F0 O L X W F
def Nd (L:List Item) (X:List Fact):Prop:=L.Pairwise (fun p q=>p.1≠q.1)∧(∀ x∈X,∀ b∈x.bl,∀ q∈L,q.1≠b)∧X.Pairwise (fun x y=>x.mine=true∨y.mine=true→∀ b∈x.bl,b ∉ y.bl)
structure SW (R:Res) (w0:World) (F0:Foot) (O L:List Item) (X:List Fact) (W:World):Prop where
 sb:SB R w0 F0 O L X W
 nd:Nd L X
section
variable {R R':Res} {w0:World} {F0:Foot} {O L:List Item} {X:List Fact} {W W':World} {F:Foot}
theorem block_lt {b:Nat} {o:Obj} (h:W.heap[b]?=some o):b < W.heap.size:=(zN h).1
theorem SWF.bl (hR:ROk w0 R) (h:SWF R w0 F0 O L X W F) (hb:Bl W W'):SWF R w0 F0 O L X W' F :=
 ⟨hR.keep _ _ _ h.res hb.sz fun b hF=>hb.at (hF.elim (hR.lt _ _ h.res b) fun h2=>Nat.lt_of_lt_of_le h2 h.st.size),h.st.bl hb h.st.size,
  fun p hp=>⟨(hb.at (block_lt (h.out p hp).1)).trans (h.out p hp).1,(h.out p hp).2⟩,fun p hp=>⟨(hb.at (block_lt (h.own p hp).1)).trans (h.own p hp).1,(h.own p hp).2⟩,
  fun x hx=>⟨x.ok _ _ (h.fact x hx).1 hb.sz fun b hbx=>hb.at ((h.fact x hx).2 b hbx).2.1,fun b hbx=>⟨((h.fact x hx).2 b hbx).1,Nat.lt_of_lt_of_le ((h.fact x hx).2 b hbx).2.1 hb.sz,((h.fact x hx).2 b hbx).2.2⟩⟩⟩
theorem SB.stab (hR:ROk w0 R):Stab (SB R w0 F0 O L X):=fun _ _ ⟨F,h⟩ hb=>⟨F,h.bl hR hb⟩
theorem SW.stab (hR:ROk w0 R):Stab (SW R w0 F0 O L X):=fun _ _ h hb=>⟨SB.stab hR _ _ h.sb hb,h.nd⟩
theorem SW.start (hR:ROk w0 R) (hr:R w0 F0) (hO:∀ p∈O,w0.heap[p.1]?=some p.2∧¬ F0 p.1) (hX:∀ x∈X,x.p w0∧∀ b∈x.bl,¬ F0 b∧b < w0.heap.size∧x.new=false) (hm:X.all (fun x=>!x.mine)=true:=by rfl):SW R w0 F0 O [] X w0 :=
 ⟨⟨F0,hr,Step.refl (hR.lt _ _ hr),fun p hp=>⟨(hO p hp).1,(hO p hp).2,block_lt (hO p hp).1⟩,fun p hp=>(by cases hp),fun x hx=>⟨(hX x hx).1,fun b hb=>⟨((hX x hx).2 b hb).1,((hX x hx).2 b hb).2.1,fun h=>by rw [((hX x hx).2 b hb).2.2] at h;cases h⟩⟩⟩,List.Pairwise.nil,fun x _ b _ q hq=>(by cases hq),List.pairwise_of_forall_mem_list fun x hx y hy hxy=>by
  have h1:=List.all_eq_true.1 hm x hx
  have h2:=List.all_eq_true.1 hm y hy
  rcases hxy with h | h<;>simp [h] at h1 h2⟩
def pick (ix:List Nat) (L:List Item):List Item:=ix.map fun i=>L.getD i (0,.cells #[] 0 (0,0))
theorem SB.some_ (h:SB R w0 F0 O L X W) (ix:List Nat) (hi:ix.all (fun i=>decide (i < L.length))=true):SB R w0 F0 O (pick ix L) X W:=by
 obtain ⟨F,h⟩:=h
 refine ⟨F,h.res,h.st,h.out,fun p hp=>?_,h.fact⟩
 obtain ⟨i,hix,rfl⟩:=List.mem_map.1 hp
 have hl:i < L.length:=of_decide_eq_true (List.all_eq_true.1 hi i hix)
 refine h.own _ ?_
 rw [List.getD_eq_getElem?_getD,List.getElem?_eq_getElem hl]
 exact List.getElem_mem hl
theorem SB.less {L':List Item} (h:SB R w0 F0 O L X W) (ix:List Nat) (hL:L'=pick ix L) (hi:ix.all (fun i=>decide (i < L.length))=true):SB R w0 F0 O L' X W:=by subst hL;exact h.some_ ix hi
theorem SB.box (h:SB R w0 F0 O L X W) (k:Nat) {b:Nat} {o:Obj} (hk:L[k]?=some (b,o)):W.heap[b]?=some o:=h.elim fun F h=>(h.own _ (List.mem_of_getElem? hk)).1
theorem SB.obox (h:SB R w0 F0 O L X W) (k:Nat) {b:Nat} {o:Obj} (hk:O[k]?=some (b,o)):W.heap[b]?=some o:=h.elim fun F h=>(h.out _ (List.mem_of_getElem? hk)).1
theorem SB.fact (h:SB R w0 F0 O L X W) (k:Nat) {x:Fact} (hk:X[k]?=some x):x.p W:=h.elim fun F h=>(h.fact _ (List.mem_of_getElem? hk)).1
theorem SB.noRes (h:SB R w0 F0 O L X W):SB (fun _ _=>True) w0 F0 O L X W:=h.elim fun F h=>⟨F,trivial,h.st,h.out,h.own,h.fact⟩
theorem SW.alloc (hR:ROk w0 R) (h:SW R w0 F0 O L X W) (o:Obj):SW R w0 F0 O ((W.heap.size,o) :: L) X (W.alloc o):=by
 obtain ⟨⟨F,h⟩,hn⟩:=h
 have hb:=h.bl hR (Bl.al W o)
 refine ⟨⟨F,hb.res,hb.st,hb.out,fun p hp=>?_,hb.fact⟩,List.pairwise_cons.2 ⟨fun q hq=>?_,hn.1⟩,fun x hx b hbx q hq=>?_,hn.2.2⟩
 ·rcases List.mem_cons.1 hp with rfl | hp
  ·exact ⟨World.alloc_heap_new W o,fun hf=>Nat.lt_irrefl _ (h.st.lt _ hf),h.st.size⟩
  ·exact hb.own p hp
 ·exact Nat.ne_of_gt (block_lt (h.own q hq).1)
 ·rcases List.mem_cons.1 hq with rfl | hq
  ·exact Nat.ne_of_gt ((h.fact x hx).2 b hbx).2.1
  ·exact hn.2.1 x hx b hbx q hq
theorem SW.write (hR:ROk w0 R) (h:SW R w0 F0 O L X W) (k:Nat) {b:Nat} {o o':Obj} (hk:L[k]?=some (b,o)) (hs:W'.heap.size=W.heap.size) (hw:∀ c,c≠b→W'.heap[c]?=W.heap[c]?) (hb:W'.heap[b]?=some o')
  (ho:W'.os=W.os∧W'.tape=W.tape∧W'.output=W.output):SW R w0 F0 O (L.set k (b,o')) X W':=by
 obtain ⟨⟨F,h⟩,hn⟩:=h
 have hm:=h.own _ (List.mem_of_getElem? hk)
 have hkl:k < L.length:=(List.getElem?_eq_some_iff.1 hk).1
 have he:L[k]=(b,o):=(List.getElem?_eq_some_iff.1 hk).2
 have hmem:∀ p∈L.set k (b,o'),p=(b,o')∨(p∈L∧p.1≠b):=fun p hp=>by
  obtain ⟨j,hj,rfl⟩:=List.getElem_of_mem hp
  rw [List.length_set] at hj
  rw [List.getElem_set]
  by_cases hjk:k=j
  ·rw [if_pos hjk];exact .inl rfl
  ·rw [if_neg hjk]
   refine .inr ⟨List.getElem_mem hj,?_⟩
   have hp:=List.pairwise_iff_getElem.1 hn.1
   rcases Nat.lt_or_gt_of_ne hjk with hlt | hlt
   ·have:=hp k j hkl hj hlt
    rw [he] at this;exact fun e=>this e.symm
   ·have:=hp j k hj hkl hlt
    rw [he] at this;exact this
 refine ⟨⟨F,hR.keep _ _ _ h.res (by rw [hs];exact Nat.le_refl _) fun c hc=>hw c fun e=>hc.elim (fun hc=>hm.2.1 (by rw [← e];exact hc)) fun hc=>by have:=hm.2.2;simp only at this;omega,?_,?_,?_,?_⟩,?_,?_,hn.2.2⟩
 ·refine ⟨ho.1.trans h.st.os,ho.2.1.trans h.st.tape,ho.2.2.trans h.st.output,by rw [hs];exact h.st.size,fun c hc hF=>(hw c (by have:=hm.2.2;simp only at this;omega)).trans (h.st.block c hc hF),h.st.foot,fun c hc=>by rw [hs];exact h.st.lt c hc⟩
 ·exact fun p hp=>⟨(hw _ (by have:=(h.out p hp).2.2;have:=hm.2.2;simp only at this;omega)).trans (h.out p hp).1,(h.out p hp).2⟩
 ·intro p hp
  rcases hmem p hp with rfl | ⟨hp,hne⟩
  ·exact ⟨hb,hm.2⟩
  ·exact ⟨(hw _ hne).trans (h.own p hp).1,(h.own p hp).2⟩
 ·exact fun x hx=>⟨x.ok _ _ (h.fact x hx).1 (by rw [hs];exact Nat.le_refl _) fun c hc=>hw c fun e=>hn.2.1 x hx c hc _ (List.mem_of_getElem? hk) e.symm,fun c hc=>⟨((h.fact x hx).2 c hc).1,by rw [hs];exact ((h.fact x hx).2 c hc).2.1,((h.fact x hx).2 c hc).2.2⟩⟩
 ·refine List.pairwise_iff_getElem.2 fun i j hi hj hij=>?_
  rw [List.length_set] at hi hj
  have hp:=List.pairwise_iff_getElem.1 hn.1 i j hi hj hij
  rw [List.getElem_set,List.getElem_set]
  by_cases h1:k=i
  ·subst h1
   rw [if_pos rfl,if_neg (by omega)]
   rw [he] at hp;exact hp
  ·by_cases h2:k=j
   ·subst h2
    rw [if_neg h1,if_pos rfl]
    rw [he] at hp;exact hp
   ·rw [if_neg h1,if_neg h2];exact hp
 ·intro x hx c hc q hq
  rcases hmem q hq with rfl | ⟨hq,-⟩
  ·exact hn.2.1 x hx c hc (b,o) (List.mem_of_getElem? hk)
  ·exact hn.2.1 x hx c hc q hq
theorem SW.call (h:SWF R w0 F0 O L X W F) (hn:Nd L X) (s:RStep R' W F W'):SW R' w0 F0 O L X W':=by
 obtain ⟨F',hr,s⟩:=s
 have hnF:∀ b,b < W.heap.size→¬ F b→¬ F' b:=fun b h1 h2 h3=>(s.foot b h3).elim h2 (by omega)
 have hout:∀ {b:Nat} {o:Obj},W.heap[b]?=some o→¬ F b→W'.heap[b]?=some o:=fun h1 h2=>(s.block _ (block_lt h1) h2).trans h1
 exact ⟨⟨F',hr,h.st.call h.st.size s,fun p hp=>⟨hout (h.out p hp).1 (h.out p hp).2.1,hnF _ (block_lt (h.out p hp).1) (h.out p hp).2.1,(h.out p hp).2.2⟩,
  fun p hp=>⟨hout (h.own p hp).1 (h.own p hp).2.1,hnF _ (block_lt (h.own p hp).1) (h.own p hp).2.1,(h.own p hp).2.2⟩,
  fun x hx=>⟨x.ok _ _ (h.fact x hx).1 s.size fun b hb=>s.block b ((h.fact x hx).2 b hb).2.1 ((h.fact x hx).2 b hb).1,fun b hb=>⟨hnF b ((h.fact x hx).2 b hb).2.1 ((h.fact x hx).2 b hb).1,Nat.lt_of_lt_of_le ((h.fact x hx).2 b hb).2.1 s.size,((h.fact x hx).2 b hb).2.2⟩⟩⟩,hn⟩
theorem SWF.learn {Wa:World} (h:SWF R w0 F0 O L X W F) (hn:Nd L X) (x:Fact) (hx:x.p W) (hB:w0.heap.size≤Wa.heap.size) (hb:∀ b∈x.bl,Wa.heap.size≤b∧b < W.heap.size∧¬ F b) (hL:∀ q∈L,q.1 < Wa.heap.size) (hX:∀ y∈X,x.mine=true∨y.mine=true→∀ b∈y.bl,b < Wa.heap.size):SWF R w0 F0 O L (x :: X) W F∧Nd L (x :: X):=by
 refine ⟨⟨h.res,h.st,h.out,h.own,fun y hy=>?_⟩,hn.1,fun y hy b hby q hq=>?_,List.pairwise_cons.2 ⟨fun y hy hm b hbx hby=>?_,hn.2.2⟩⟩
 ·rcases List.mem_cons.1 hy with rfl | hy
  ·exact ⟨hx,fun b hbx=>⟨(hb b hbx).2.2,(hb b hbx).2.1,fun _=>Nat.le_trans hB (hb b hbx).1⟩⟩
  ·exact h.fact y hy
 ·rcases List.mem_cons.1 hy with rfl | hy
  ·exact Nat.ne_of_lt (Nat.lt_of_lt_of_le (hL q hq) (hb b hby).1)
  ·exact hn.2.1 y hy b hby q hq
 ·have h1:=(hb b hbx).1
  have h2:=hX y hy hm b hby
  omega
theorem SWF.factLt (h:SWF R w0 F0 O L X W F):∀ y∈X,∀ b∈y.bl,b < W.heap.size:=fun y hy b hb=>((h.fact y hy).2 b hb).2.1
theorem SWF.ownLt (h:SWF R w0 F0 O L X W F):∀ q∈L,q.1 < W.heap.size:=fun q hq=>block_lt (h.own q hq).1
theorem SB.dropX (h:SB R w0 F0 O L X W) (n:Nat):SB R w0 F0 O L (X.drop n) W:=h.elim fun F h=>⟨F,h.res,h.st,h.out,h.own,fun x hx=>h.fact x (List.mem_of_mem_drop hx)⟩
theorem SWF.boxIn (h:SWF R w0 F0 O L X W F) (k:Nat) {b:Nat} {o:Obj} (hk:L[k]?=some (b,o)):W.heap[b]?=some o∧¬ F b:=⟨(h.own _ (List.mem_of_getElem? hk)).1,(h.own _ (List.mem_of_getElem? hk)).2.1⟩
theorem SW.finBl (h:SW R w0 noF O L X W):Bl w0 W:=h.sb.elim fun F h=>⟨h.st.os,h.st.tape,h.st.output,h.st.size,fun b hb=>h.st.block b hb fun h=>h⟩
theorem SW.fin (h:SW R w0 F0 O L X W):RStep R w0 F0 W:=h.sb.elim fun F h=>⟨F,h.res,h.st⟩
end
end
section
open Go Go.RowKit
structure FWide (F:Fence):Prop where
 fn:∀ f,F.fn f
 deep:F.depth=none
 call:∀ {n:Nat} {P:Program} {f:FuncId} {args:Array Value} {w:World} {post:Ending→World→Prop},Calls P f args w post→CallsIn F n P f args w post
theorem FWide.wide:FWide Fence.wide:=⟨fun _=>trivial,rfl,fun c=>callsIn_wide.2 c⟩
theorem FWide.round (l:Nat):FWide (Fence.wide.inRound l):=⟨fun _=>trivial,rfl,fun c=>(callsIn_wide.2 c).inRound l⟩
section
variable {F:Fence} {n:Nat} {P:Program} {ops:Array Oper} {Q:Exit→Go.Act→World→Prop} {md:Region.Mode} {B:World→Prop} {o:Oper} {a:Go.Act} {v:Value}
theorem about_plain (hnc:∀ c,o.op≠.call c) (w:World) (a:Go.Act):o.about P w a.eval=none:=by
 unfold Oper.about
 cases h:o.op<;>first | rfl | exact absurd h (hnc _)
theorem YB.run (hnd:∀ c,o.op≠.defer c) (hnc:∀ c,o.op≠.call c) (hw:Region.wanted o (yielded ops a.tmps)=true) (h:∀ w,B w→(execOp a.eval o).run P w=.ok (.value v) w):YB F n P ops B o v a :=
 .inl ⟨hw,fun w hB=>⟨fun f hf=>(by rw [about_plain hnc] at hf;cases hf),by rw [Oper.semAt_eq _ _ _ hnd,h w hB];exact ⟨rfl,Bl.refl w⟩⟩⟩
theorem YB.pass (hF:FWide F) (hw:Region.wanted o (yielded ops a.tmps)=false):YB F n P ops B o undef a:=.inr ⟨hw,rfl,fun _ f _=>hF.fn f⟩
theorem YB.move (x:Operand) (hop:o.op=.move x) (hw:Region.wanted o (yielded ops a.tmps)=true) (hv:a.eval x=v):YB F n P ops B o v a :=
 YB.run (by rw [hop];nofun) (by rw [hop];nofun) hw fun w _=>by unfold execOp;rw [hop];subst hv;rfl
theorem YB.assign (x:Operand) (hop:o.op=.assign x) (hw:Region.wanted o (yielded ops a.tmps)=true) (hv:a.eval x=v):YB F n P ops B o v a :=
 YB.run (by rw [hop];nofun) (by rw [hop];nofun) hw fun w _=>by unfold execOp;rw [hop];subst hv;rfl
theorem YB.load (ty:TypeId) (x:Operand) (hop:o.op=.load ty x) (hw:Region.wanted o (yielded ops a.tmps)=true) {p:Value} (hx:a.eval x=p) (h:∀ w,B w→(Instr.loadAt ty p).run P w=.ok v w):YB F n P ops B o v a :=
 YB.run (by rw [hop];nofun) (by rw [hop];nofun) hw fun w hB=>by
  unfold execOp;rw [hop];subst hx
  simp only [Sem.run_bind,h w hB,Result.andThen_ok];rfl
theorem YB.extract (t:Operand) (ix:Nat) (hop:o.op=.extract t ix) (hw:Region.wanted o (yielded ops a.tmps)=true) {vs:Array Value} (hx:a.eval t=.tuple vs) (hv:vs[ix]?=some v):YB F n P ops B o v a :=
 YB.run (by rw [hop];nofun) (by rw [hop];nofun) hw fun w hB=>by
  unfold execOp;rw [hop]
  simp [hx,Instr.extract,hv]
theorem YB.call (hF:FWide F) (c:Call) (f:FuncId) (hop:o.op=.call c) (hc:c.callee=.value (.func f)) (hw:Region.wanted o (yielded ops a.tmps)=true) {args:Array Value} (ha:c.args.map a.eval=args) (he:Enters P f)
  (h:∀ w,B w→Calls P f args w fun e w'=>e=.returned v∧Bl w w'):YB F n P ops B o v a:=by
 refine .inl ⟨hw,fun w hB=>⟨fun f _=>hF.fn f,?_⟩⟩
 have hr:(o.semAt F.round a.eval).run P w=.ok (.enter f args) w:=by
  rw [Oper.semAt_eq _ _ _ (by rw [hop];nofun)]
  unfold execOp resolve
  rw [hop]
  simp only [hc,ha,Act.eval,Deferred.ofValue,Sem.run_bind,Sem.run_pure,Result.andThen_ok,invoke,Array.append_empty]
  simpa using he args w
 rw [hr]
 exact ⟨fun h=>(by rw [hF.deep] at h;cases h),hF.call (h w hB)⟩
theorem then_ret {K:Go.Act→World→Prop} {w:World} (h:Q .ret a w):Exit.then K Q .ret a w:=h
theorem block_ret {id:Nat} {w:World} (h:Q .ret a w):Exit.inBlock id Q .ret a w:=h
theorem wpIn_put {w w':World} {K:Go.Act→World→Prop} (hnd:∀ c,o.op≠.defer c) (hnc:∀ c,o.op≠.call c) (h:(execOp a.eval o).run P w=.ok (.value v) w') (hk:K (a.put o.dst v) w'):o.wpIn F n P a w K Q:=by
 refine ⟨fun f hf=>(by rw [about_plain hnc] at hf;cases hf),?_⟩
 rw [Oper.semAt_eq _ _ _ hnd,h];exact hk
theorem wpIn_skipOp {w w':World} {K:Go.Act→World→Prop} (hnd:∀ c,o.op≠.defer c) (hnc:∀ c,o.op≠.call c) (h:(execOp a.eval o).run P w=.ok .skip w') (hk:K (a.put o.dst undef) w'):o.wpIn F n P a w K Q:=by
 refine ⟨fun f hf=>(by rw [about_plain hnc] at hf;cases hf),?_⟩
 rw [Oper.semAt_eq _ _ _ hnd,h];exact hk
theorem wpIn_enter (hF:FWide F) {w:World} {K:Go.Act→World→Prop} (c:Call) (f:FuncId) (hop:o.op=.call c) (hc:c.callee=.value (.func f)) {args:Array Value} (ha:c.args.map a.eval=args) (he:Enters P f)
  (h:Calls P f args w fun e w'=>∃ v,e=.returned v∧K (a.put o.dst v) w'):o.wpIn F n P a w K Q:=by
 refine ⟨fun f _=>hF.fn f,?_⟩
 have hr:(o.semAt F.round a.eval).run P w=.ok (.enter f args) w:=by
  rw [Oper.semAt_eq _ _ _ (by rw [hop];nofun)]
  unfold execOp resolve
  rw [hop]
  simp only [hc,ha,Act.eval,Deferred.ofValue,Sem.run_bind,Sem.run_pure,Result.andThen_ok,invoke,Array.append_empty]
  simpa using he args w
 rw [hr]
 exact ⟨fun h=>(by rw [hF.deep] at h;cases h),(hF.call h).mono fun e w' ⟨v,he,hk⟩=>by subst he;exact hk⟩
section
variable {R R':Res} {w0:World} {F0:Foot} {O L:List Item} {X:List Fact} {k i:Nat} {T T':List Nat} {listed:Array Bool} {rest:List Oper}
theorem Good.same (hR:ROk w0 R):Good (SW R w0 F0 O L X) T (SW R w0 F0 O L X):=⟨SW.stab hR,fun _ _ h=>h⟩
theorem Good.nil (hR:ROk w0 R):Good B [] (SW R w0 F0 O L X):=⟨SW.stab hR,fun h=>absurd rfl h⟩
theorem Good.some_ (hR:ROk w0 R) {L':List Item} {X':List Fact} (n:Nat) (ix:List Nat) (hL:L'=pick ix L) (hi:ix.all (fun i=>decide (i < L.length))=true) (hX:X'=X.drop n):Good (SB R w0 F0 O L' X') T (SW R w0 F0 O L X):=⟨SW.stab hR,fun _ _ h=>by subst hX;exact (h.sb.less ix hL hi).dropX n⟩
theorem Good.noRes (hR:ROk w0 R) {L':List Item} (ix:List Nat) (hL:L'=pick ix L) (hi:ix.all (fun i=>decide (i < L.length))=true):Good (SB (fun _ _=>True) w0 F0 O L' X) T (SW R w0 F0 O L X):=⟨SW.stab hR,fun _ _ h=>(h.sb.less ix hL hi).noRes⟩
theorem Good.done (hR:ROk w0 R) {S:World→Prop} (hS:Stab S):Good B [] S:=⟨hS,fun h=>absurd rfl h⟩
theorem wpS.alloc (hR:ROk w0 R) (mk:Nat→Value) {obj:Obj} (hi:ops[i]?=some o) (hr:Region.ready md ops listed=[i]) (hg:Good B T (SW R w0 F0 O L X)) (hT:(T.filter fun t=>!waits md ops i t)=T') (hw:Region.wanted o (yielded ops a.tmps)=true)
  (hnd:∀ c,o.op≠.defer c) (hnc:∀ c,o.op≠.call c) (hrun:∀ w,(execOp a.eval o).run P w=.ok (.value (mk w.heap.size)) (w.alloc obj))
  (h:∀ b,wpS F n P md ops Q B k T' (listed.setIfInBounds i true) (a.put o.dst (mk b)) (SW R w0 F0 O ((b,obj) :: L) X)):wpS F n P md ops Q B (k + 1) T listed a (SW R w0 F0 O L X) :=
 wpS.one hi hr hg hT hw fun w hS=>wpIn_put hnd hnc (hrun w) ⟨_,hS.alloc hR obj,h w.heap.size⟩
theorem wpL.alloc (hR:ROk w0 R) (mk:Nat→Value) {obj:Obj} (hw:Region.wanted o (yielded ops a.tmps)=true)
  (hnd:∀ c,o.op≠.defer c) (hnc:∀ c,o.op≠.call c) (hrun:∀ w,(execOp a.eval o).run P w=.ok (.value (mk w.heap.size)) (w.alloc obj))
  (h:∀ b,∀ w,SW R w0 F0 O ((b,obj) :: L) X w→wpListIn F n P ops Q rest (a.put o.dst (mk b)) w):∀ w,SW R w0 F0 O L X w→wpListIn F n P ops Q (o :: rest) a w :=
 wpL.one hw fun w hS=>wpIn_put hnd hnc (hrun w) ⟨_,hS.alloc hR obj,h w.heap.size⟩
theorem run_storeAt {ty:TypeId} {w:World} {b off:Nat} {arr:Array Value} {t:TypeId} {u:Value} (hb:w.heap[b]?=some (.cells arr t (0,0))) (hi:(P.info? ty).map (·.size)=some u.cells.size) (hl:off + u.cells.size≤arr.size) (h1:u.cells.all (·.oneCell')=true) :
  (Instr.storeAt ty (.pointer (some ⟨b,off,none⟩)) u).run P w=.ok () (w.setRow b (arr.toList.take off++u.cells.toList++arr.toList.drop (off + u.cells.size)).toArray):=by
 have:=run_storeCells_at P b off t u.cells.toList 0 arr w hb (by simpa using hl) (fun v hv=>(Array.all_eq_true_iff_forall_mem.1 h1) v (by simpa using hv))
 cases hq:P.info? ty with
 | none=>simp [hq] at hi
 | some i =>
  have hs:u.cells.size=i.size:=by simp [hq] at hi;omega
  simp [Instr.storeAt,Instr.sureAddr,storeVar,sizeOf,typeInfo,hq,hs,this]
theorem setRow_facts {w:World} {b:Nat} {arr arr':Array Value} {t:TypeId} {fr:Nat × Nat} (hb:w.heap[b]?=some (.cells arr t fr)) :
  (w.setRow b arr').heap.size=w.heap.size∧(∀ c,c≠b→(w.setRow b arr').heap[c]?=w.heap[c]?)∧(w.setRow b arr').heap[b]?=some (.cells arr' t fr)∧(w.setRow b arr').os=w.os∧(w.setRow b arr').tape=w.tape∧(w.setRow b arr').output=w.output:=by
 refine ⟨?_,fun c hc=>?_,setRow_heap w b arr arr' t fr hb,?_,?_,?_⟩
 ·simp [World.setRow]
 ·simp only [World.setRow]
  rw [Array.getElem?_modify]
  rw [if_neg (fun e=>hc e.symm)]
 all_goals simp [World.setRow]
theorem run_store_skip {ty:TypeId} {x y:Operand} (hop:o.op=.store ty x y) {p u:Value} (hx:a.eval x=p) (hy:a.eval y=u) {w w':World} (h:(Instr.storeAt ty p u).run P w=.ok () w'):(execOp a.eval o).run P w=.ok .skip w':=by
 unfold execOp;rw [hop];subst hx hy
 simp only [Sem.run_bind,h,Result.andThen_ok];rfl
theorem SW.store (hR:ROk w0 R) {w:World} {ty:TypeId} (h:SW R w0 F0 O L X w) (j:Nat) {b off:Nat} {arr arr':Array Value} {t:TypeId} {u:Value} (hj:L[j]?=some (b,.cells arr t (0,0))) (hi:(P.info? ty).map (·.size)=some u.cells.size) (hl:off + u.cells.size≤arr.size) (h1:u.cells.toList.all (·.oneCell')=true)
  (harr:(arr.toList.take off++u.cells.toList++arr.toList.drop (off + u.cells.size)).toArray=arr'):∃ w',(Instr.storeAt ty (.pointer (some ⟨b,off,none⟩)) u).run P w=.ok () w'∧SW R w0 F0 O (L.set j (b,.cells arr' t (0,0))) X w':=by
 have hb:=h.sb.box j hj
 obtain ⟨e1,e2,e3,e4,e5,e6⟩:=setRow_facts (arr':=arr') hb
 exact ⟨_,by rw [run_storeAt hb hi hl (by rw [← Array.all_toList];exact h1),harr],h.write hR j hj e1 e2 e3 ⟨e4,e5,e6⟩⟩
theorem wpS.store (hR:ROk w0 R) (ty:TypeId) (x y:Operand) (j:Nat) {b off:Nat} {arr arr':Array Value} {t:TypeId} {u:Value} (hi:ops[i]?=some o) (hr:Region.ready md ops listed=[i]) (hg:Good B T (SW R w0 F0 O L X)) (hT:(T.filter fun t=>!waits md ops i t)=T') (hw:Region.wanted o (yielded ops a.tmps)=true)
  (hop:o.op=.store ty x y) (hx:a.eval x=.pointer (some ⟨b,off,none⟩)) (hy:a.eval y=u) (hj:L[j]?=some (b,.cells arr t (0,0))) (hsz:(P.info? ty).map (·.size)=some u.cells.size) (hl:off + u.cells.size≤arr.size) (h1:u.cells.toList.all (·.oneCell')=true)
  (harr:(arr.toList.take off++u.cells.toList++arr.toList.drop (off + u.cells.size)).toArray=arr') {L':List Item} (hL:L.set j (b,.cells arr' t (0,0))=L')
  (h:wpS F n P md ops Q B k T' (listed.setIfInBounds i true) (a.put o.dst undef) (SW R w0 F0 O L' X)):wpS F n P md ops Q B (k + 1) T listed a (SW R w0 F0 O L X) :=
 wpS.one hi hr hg hT hw fun w hS=>by
  obtain ⟨w',e1,e2⟩:=SW.store (P:=P) hR hS j hj hsz hl h1 harr
  exact wpIn_skipOp (by rw [hop];nofun) (by rw [hop];nofun) (run_store_skip hop hx hy e1) ⟨_,e2,by rw [hL];exact h⟩
theorem wpL.store (hR:ROk w0 R) (ty:TypeId) (x y:Operand) (j:Nat) {b off:Nat} {arr arr':Array Value} {t:TypeId} {u:Value} (hw:Region.wanted o (yielded ops a.tmps)=true)
  (hop:o.op=.store ty x y) (hx:a.eval x=.pointer (some ⟨b,off,none⟩)) (hy:a.eval y=u) (hj:L[j]?=some (b,.cells arr t (0,0))) (hsz:(P.info? ty).map (·.size)=some u.cells.size) (hl:off + u.cells.size≤arr.size) (h1:u.cells.toList.all (·.oneCell')=true)
  (harr:(arr.toList.take off++u.cells.toList++arr.toList.drop (off + u.cells.size)).toArray=arr') {L':List Item} (hL:L.set j (b,.cells arr' t (0,0))=L')
  (h:∀ w,SW R w0 F0 O L' X w→wpListIn F n P ops Q rest (a.put o.dst undef) w):∀ w,SW R w0 F0 O L X w→wpListIn F n P ops Q (o :: rest) a w :=
 wpL.one hw fun w hS=>by
  obtain ⟨w',e1,e2⟩:=SW.store (P:=P) hR hS j hj hsz hl h1 harr
  exact wpIn_skipOp (by rw [hop];nofun) (by rw [hop];nofun) (run_store_skip hop hx hy e1) ⟨_,e2,by rw [hL];exact h⟩
theorem wpS.call (hF:FWide F) (c:Call) (f:FuncId) (hi:ops[i]?=some o) (hr:Region.ready md ops listed=[i]) (hg:Good B T (SW R w0 F0 O L X)) (hT:(T.filter fun t=>!waits md ops i t)=T') (hw:Region.wanted o (yielded ops a.tmps)=true)
  (hop:o.op=.call c) (hc:c.callee=.value (.func f)) {args:Array Value} (ha:c.args.map a.eval=args) (he:Enters P f)
  (hcall:∀ w G,SWF R w0 F0 O L X w G→Calls P f args w fun e w'=>e=.returned v∧RStep R' w G w')
  (h:wpS F n P md ops Q B k T' (listed.setIfInBounds i true) (a.put o.dst v) (SW R' w0 F0 O L X)):wpS F n P md ops Q B (k + 1) T listed a (SW R w0 F0 O L X) :=
 wpS.one hi hr hg hT hw fun w hS=>by
  obtain ⟨⟨G,hG⟩,hn⟩:=hS
  exact wpIn_enter hF c f hop hc ha he ((hcall w G hG).mono fun e w' ⟨q1,q2⟩=>⟨v,q1,_,SW.call hG hn q2,h⟩)
theorem wpL.call (hF:FWide F) (c:Call) (f:FuncId) (hw:Region.wanted o (yielded ops a.tmps)=true)
  (hop:o.op=.call c) (hc:c.callee=.value (.func f)) {args:Array Value} (ha:c.args.map a.eval=args) (he:Enters P f)
  (hcall:∀ w G,SWF R w0 F0 O L X w G→Calls P f args w fun e w'=>e=.returned v∧RStep R' w G w')
  (h:∀ w,SW R' w0 F0 O L X w→wpListIn F n P ops Q rest (a.put o.dst v) w):∀ w,SW R w0 F0 O L X w→wpListIn F n P ops Q (o :: rest) a w :=
 wpL.one hw fun w hS=>by
  obtain ⟨⟨G,hG⟩,hn⟩:=hS
  exact wpIn_enter hF c f hop hc ha he ((hcall w G hG).mono fun e w' ⟨q1,q2⟩=>⟨v,q1,_,SW.call hG hn q2,h⟩)
theorem wpS.callX (hF:FWide F) {α:Type} (c:Call) (f:FuncId) (val:α→Value) (S':α→World→Prop) (hi:ops[i]?=some o) (hr:Region.ready md ops listed=[i]) (hg:Good B T (SW R w0 F0 O L X)) (hT:(T.filter fun t=>!waits md ops i t)=T') (hw:Region.wanted o (yielded ops a.tmps)=true)
  (hop:o.op=.call c) (hc:c.callee=.value (.func f)) {args:Array Value} (ha:c.args.map a.eval=args) (he:Enters P f)
  (hcall:∀ w,SW R w0 F0 O L X w→Calls P f args w fun e w'=>∃ x,e=.returned (val x)∧S' x w')
  (h:∀ x,wpS F n P md ops Q B k T' (listed.setIfInBounds i true) (a.put o.dst (val x)) (S' x)):wpS F n P md ops Q B (k + 1) T listed a (SW R w0 F0 O L X) :=
 wpS.one hi hr hg hT hw fun w hS=>wpIn_enter hF c f hop hc ha he ((hcall w hS).mono fun e w' ⟨x,q1,q2⟩=>⟨val x,q1,_,q2,h x⟩)
theorem wpL.callX (hF:FWide F) {α:Type} (c:Call) (f:FuncId) (val:α→Value) (S':α→World→Prop) (hw:Region.wanted o (yielded ops a.tmps)=true)
  (hop:o.op=.call c) (hc:c.callee=.value (.func f)) {args:Array Value} (ha:c.args.map a.eval=args) (he:Enters P f)
  (hcall:∀ w,SW R w0 F0 O L X w→Calls P f args w fun e w'=>∃ x,e=.returned (val x)∧S' x w')
  (h:∀ x,∀ w,S' x w→wpListIn F n P ops Q rest (a.put o.dst (val x)) w):∀ w,SW R w0 F0 O L X w→wpListIn F n P ops Q (o :: rest) a w :=
 wpL.one hw fun w hS=>wpIn_enter hF c f hop hc ha he ((hcall w hS).mono fun e w' ⟨x,q1,q2⟩=>⟨val x,q1,_,q2,h x⟩)
end
theorem wpS.enter {id:Nat} {w:World} {S:World→Prop} (m:Nat) (hm:P.follows .mixedOrders=true) (hsz:ops.size=m) (hS:S w) (h:∀ ops',ops'=ops→wpS F n P .any ops' Q B m [] (Array.replicate m false) a S):(Code.region id ops true).wpIn F n P Q a w:=by
 subst hsz;exact wpS.region hm hS (h _ rfl)
theorem wpL.enter {id:Nat} {l:List Oper} {w:World} {S:World→Prop} (hS:S w) (h:∀ ops',ops'=l.toArray→∀ w,S w→wpListIn F n P ops' Q l a w):(Code.region id l.toArray false).wpIn F n P Q a w:=wpIn_region_lit (h _ rfl w hS)
def ResVal (P:Program) (tmps:Array Value) (w:World) (v:Value):ResultVar→Prop
 | .tmp t=>tmps.getD t undef=v
 | .cell p ty=>∃ ad,tmps.getD p undef=.pointer (some ad)∧(Instr.loadAt ty (.pointer (some ad))).run P w=.ok v w
theorem ResVal.tmp {tmps:Array Value} {w:World} {t:Tmp} {v:Value} (h:ResVal P tmps w v (.tmp t)):tmps[t]?.getD undef=v:=by simpa [ResVal] using h
theorem ResVal.cell {tmps:Array Value} {w:World} {p:Tmp} {ty:TypeId} {v:Value} (h:ResVal P tmps w v (.cell p ty)):∃ ad,tmps[p]?.getD undef=.pointer (some ad)∧(loadVar ty ad).run P w=.ok v w:=by
 obtain ⟨ad,h1,h2⟩:=h
 exact ⟨ad,by simpa using h1,by simpa [Instr.loadAt,Instr.sureAddr] using h2⟩
theorem results1 {fn:Func} {r:ResultVar} (h:fn.results=#[r]) {tmps:Array Value} {w:World} {v:Value} (h1:ResVal P tmps w v r):(results fn tmps).run P w=.ok v w:=by
 cases r with
 | tmp t=>simp [results,h,h1.tmp]
 | cell p ty=>obtain ⟨ad,e1,e2⟩:=h1.cell;simp [results,h,e1,e2,asAddr]
theorem results2 {fn:Func} {r s:ResultVar} (h:fn.results=#[r,s]) {tmps:Array Value} {w:World} {v u:Value} (h1:ResVal P tmps w v r) (h2:ResVal P tmps w u s):(results fn tmps).run P w=.ok (.tuple #[v,u]) w:=by
 cases r with
 | tmp t =>
  cases s with
  | tmp t2=>simp [results,h,h1.tmp,h2.tmp]
  | cell p ty=>obtain ⟨ad,e1,e2⟩:=h2.cell;simp [results,h,h1.tmp,e1,e2,asAddr]
 | cell p ty =>
  obtain ⟨ad,e1,e2⟩:=h1.cell
  cases s with
  | tmp t2=>simp [results,h,h2.tmp,e1,e2,asAddr]
  | cell p ty=>obtain ⟨ad,e3,e4⟩:=h2.cell;simp [results,h,e1,e2,e3,e4,asAddr]
theorem load_one {ty:TypeId} {d:TypeDesc} (hu:P.underlying ty=some d) (hd:(match d with | .struct _ | .array _ _=>true | _=>false)=false) {w:World} {b off:Nat} {arr:Array Value} {t:TypeId} {fr:Nat × Nat} {u:Value}
  (hb:w.heap[b]?=some (.cells arr t fr)) (hc:arr[off]?=some u):(Instr.loadAt ty (.pointer (some ⟨b,off,none⟩))).run P w=.ok u w:=by
 have hcell:w.cell? ⟨b,off,none⟩=some u:=(cell_of hb).trans hc
 simp [Instr.loadAt,Instr.sureAddr,loadVar,run_isAgg_plain hu hd,hcell]
theorem load_whole {ty:TypeId} {d:TypeDesc} (hu:P.underlying ty=some d) (hd:(match d with | .struct _ | .array _ _=>true | _=>false)=true) {w:World} {b:Nat} {cs:Array Value} {t:TypeId} {fr:Nat × Nat}
  (hi:(P.info? ty).map (·.size)=some cs.size) (hb:w.heap[b]?=some (.cells cs t fr)):(Instr.loadAt ty (.pointer (some ⟨b,0,none⟩))).run P w=.ok (.agg cs) w:=by
 have:=run_loadVar_row w b t ty cs fr d hb hu hd hi
 simpa [Instr.loadAt,Instr.sureAddr] using this
theorem wr {f:FuncId} {args:Array Value} {w:World} {hp:Nat} {h:Hp} {G:Foot} {x:Value} (c:Calls P f args w fun e w'=>e=.returned x∧HStep w hp G h w'):Calls P f args w fun e w'=>e=.returned x∧RStep (RH hp h) w G w':=c
end
end
section
open Go Go.RowKit
def Exc.ca (x:Exc):Array Value:=#[.string (bs x.name),.int .i64 x.arg.k,.int .i64 x.arg.n,.string (bs x.arg.s),.bool x.has]
@[reducible] def Exc.agg (x:Exc):Value:=.agg #[.string (bs x.name),.int .i64 x.arg.k,.int .i64 x.arg.n,.string (bs x.arg.s),.bool x.has]
section
variable {F:Fence} {n:Nat} {P:Program} {ops:Array Oper} {B:World→Prop} {o:Oper} {a:Go.Act}
theorem YB.not (t:TypeId) (x:Operand) (hop:o.op=.unOp .not t x) (hw:Region.wanted o (yielded ops a.tmps)=true) {b:Bool} (hx:a.eval x=.bool b):YB F n P ops B o (.bool (!b)) a :=
 YB.run (by rw [hop];nofun) (by rw [hop];nofun) hw fun w _=>by unfold execOp;rw [hop];simp only [hx];simp [Op.unary,go_sem]
theorem YB.bin_neq (t t2:TypeId) (xo yo:Operand) (hop:o.op=.binOp .neq t xo yo t2) (hw:Region.wanted o (yielded ops a.tmps)=true) {k:IntKind} {x y:Int} (hx:a.eval xo=.int k x) (hy:a.eval yo=.int k y):YB F n P ops B o (.bool ((!decide (x=y)))) a :=
 YB.run (by rw [hop];nofun) (by rw [hop];nofun) hw fun w _=>by unfold execOp;rw [hop];simp only [hx,hy];simp [eqGuard,binOp,Op.intCmp,go_sem];try (first | rfl | grind)
theorem YB.bin_lss (t t2:TypeId) (xo yo:Operand) (hop:o.op=.binOp .lss t xo yo t2) (hw:Region.wanted o (yielded ops a.tmps)=true) {k:IntKind} {x y:Int} (hx:a.eval xo=.int k x) (hy:a.eval yo=.int k y):YB F n P ops B o (.bool (decide (x < y))) a :=
 YB.run (by rw [hop];nofun) (by rw [hop];nofun) hw fun w _=>by unfold execOp;rw [hop];simp only [hx,hy];simp [eqGuard,binOp,Op.intCmp,go_sem];try (first | rfl | grind)
theorem YB.bin_add (t t2:TypeId) (xo yo:Operand) (hop:o.op=.binOp .add t xo yo t2) (hw:Region.wanted o (yielded ops a.tmps)=true) {x y:Int} (hx:a.eval xo=.int .i64 x) (hy:a.eval yo=.int .i64 y):YB F n P ops B o (.int .i64 (wrap64 (x + y))) a :=
 YB.run (by rw [hop];nofun) (by rw [hop];nofun) hw fun w _=>by unfold execOp;rw [hop];simp only [hx,hy];simp [eqGuard,binOp,Op.intArith,go_sem];rw [IntKind.wrap_i64];first | rfl | (unfold wrap64;rfl)
theorem YB.bin_neqS (t t2:TypeId) (xo yo:Operand) (hop:o.op=.binOp .neq t xo yo t2) (hw:Region.wanted o (yielded ops a.tmps)=true) {x y:List UInt8} (hx:a.eval xo=.string (bs x)) (hy:a.eval yo=.string (bs y)):YB F n P ops B o (.bool ((!decide (x=y)))) a :=
 YB.run (by rw [hop];nofun) (by rw [hop];nofun) hw fun w _=>by unfold execOp;rw [hop];simp only [hx,hy];simp [eqGuard,binOp,Op.stringOp,go_sem,beq_bs];by_cases hxy:x=y<;>simp [hxy]
end
section
variable {F:Fence} {n:Nat} {ops:Array Oper} {B:World→Prop} {o:Oper} {a:Go.Act}
end
end
section
open Go.RowKit
end
section
open Go.RowKit Go.Shelf
attribute [local go_sem] Oper.semAt_some
def findL (h:Hp) (s:List UInt8):List V→V × Bool
 | []=>(V.nil,false)
 | c :: cs=>if (h.get c (vstr s)).2=true then ((h.get c (vstr s)).1,true) else findL h s cs
def Hp.findO (h:Hp) (c:V) (s:List UInt8):V × Bool:=findL h s (h.orderO c)
end
section
open Go Go.RowKit
theorem Vx.box {F:Foot} {W:World} {g m:Nat} {l:List V} {arr:Array Value} (hg:W.heap[g]?=some (.cells arr 23 (0,0))) (ha:arr.toList=l.flatMap V.cs) (hF:¬ F g) (hm:l.length=m) (hmax:m≤maxLen):Vx F W (.slice (some ⟨g,0,none⟩) m m) l:=by
 subst hm
 refine ⟨.inr ⟨g,0,l.length,rfl,(zN hg).1,Nat.le_refl _,hmax,fun j u hj=>?_⟩,fun b o n c e=>by cases e;exact hF⟩
 rw [cell_of hg,Nat.zero_add,← Array.getElem?_toList,ha]
 exact hj
end
section
open Go.RowKit Go.Shelf
attribute [local go_sem] Oper.semAt_some
end
end Go.Proofs.YtbbokgpklihkoaaGreatDoor.W
