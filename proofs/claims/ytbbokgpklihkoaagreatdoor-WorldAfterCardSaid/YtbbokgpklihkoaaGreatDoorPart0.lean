/- Map Abs Mem EvT EvV -/
import Derived.WalkKit
import Derived.Below
import Derived.MapKept
import Derived.Laws.StructEq
import Derived.Lib.Hide
import Derived.Test.YtbbokgpklihkoaaGreatDoorProg
import Derived.BigQuiet
import Derived.Deep.QuietTactic
import Derived.Deep.Draws
import Derived.Outline
import Derived.Laws.AppendOwn
import Derived.Laws.OwnMore
import Derived.Maps.AppendAt
set_option linter.unusedVariables false
set_option linter.unusedSimpArgs false
namespace Go.Proofs.YtbbokgpklihkoaaGreatDoor.W
section
open Go.RowKit
section
variable {α β:Type}
structure Ents (ek:α→Value) (ev:β→Value) (es:List MapEntry) (l:List (α × β)):Prop where
 keys:es.map (·.key)=l.map fun p=>ek p.1
 vals:es.map (·.val)=l.map fun p=>ev p.2
variable {ek:α→Value} {ev:β→Value}
theorem Ents.nil:Ents ek ev [] []:=⟨rfl,rfl⟩
theorem Ents.length {es:List MapEntry} {l:List (α × β)} (h:Ents ek ev es l):es.length=l.length:=by
 have:=congrArg List.length h.keys
 simpa using this
theorem Ents.cons {e:MapEntry} {es:List MapEntry} {p:α × β} {l:List (α × β)} (h:Ents ek ev (e :: es) (p :: l)):e.key=ek p.1∧e.val=ev p.2∧Ents ek ev es l:=by
 have h1:=h.keys
 have h2:=h.vals
 simp only [List.map_cons,List.cons.injEq] at h1 h2
 exact ⟨h1.1,h2.1,⟨h1.2,h2.2⟩⟩
theorem Ents.mk_cons {e:MapEntry} {es:List MapEntry} {p:α × β} {l:List (α × β)} (h1:e.key=ek p.1) (h2:e.val=ev p.2) (h:Ents ek ev es l):Ents ek ev (e :: es) (p :: l) :=
 ⟨by simp [h1,h.keys],by simp [h2,h.vals]⟩
theorem Ents.push {es:List MapEntry} {l:List (α × β)} (h:Ents ek ev es l) {e:MapEntry} {p:α × β} (h1:e.key=ek p.1) (h2:e.val=ev p.2):Ents ek ev (es++[e]) (l++[p]) :=
 ⟨by simp [h.keys,h1],by simp [h.vals,h2]⟩
end
section
variable {α β:Type} [DecidableEq α]
def get:List (α × β)→α→Option β
 | [],_=>none
 | (k,v) :: t,a=>if k=a then some v else get t a
def put:List (α × β)→α→β→List (α × β)
 | [],a,b=>[(a,b)]
 | (k,v) :: t,a,b=>if k=a then (k,b) :: t else (k,v) :: put t a b
def del:List (α × β)→α→List (α × β)
 | [],_=>[]
 | (k,v) :: t,a=>if k=a then t else (k,v) :: del t a
def fnd:List α→α→Option Nat
 | [],_=>none
 | k :: t,a=>if k=a then some 0 else (fnd t a).map (· + 1)
structure Key (P:Program) (K:TypeId) (ek:α→Value):Prop where
 check:∀ b a w,(Instr.checkKey b 10000 K (ek a)).run P w=.ok () w
 find:∀ (a:α) (es:List MapEntry) (ks:List α) (w:World),es.map (·.key)=ks.map ek →
  (Instr.findKey K (ek a) es).run P w=.ok ((fnd ks a).map fun i=>(i,(es.getD i default).val)) w
 bits:∀ a,Instr.sameBits 10000 (ek a) (ek a)=true
variable {ek:α→Value} {ev:β→Value}
theorem Ents.find {es:List MapEntry} {l:List (α × β)} (h:Ents ek ev es l) (a:α) :
  (get l a=none∧fnd (l.map (·.1)) a=none) ∨
  ∃ v i,get l a=some v∧fnd (l.map (·.1)) a=some i∧(es.getD i default).val=ev v∧(es.getD i default).key=ek a∧i < es.length ∧
   (∀ e' x,e'.key=ek a→e'.val=ev x→Ents ek ev (es.set i e') (put l a x))∧Ents ek ev (es.eraseIdx i) (del l a):=by
 induction l generalizing es with
 | nil=>exact .inl ⟨rfl,rfl⟩
 | cons p t ih =>
  obtain ⟨k,v⟩:=p
  match es,h with
  | [],h=>exact absurd h.length (by simp)
  | e :: es,h =>
   obtain ⟨h1,h2,h3⟩:=h.cons
   by_cases hk:k=a
   ·subst hk
    exact .inr ⟨v,0,by simp [get],by simp [fnd],h2,h1,by simp,fun e' x he hx=>by simpa [put] using h3.mk_cons (p:=(k,x)) he hx,by simpa [del] using h3⟩
   ·rcases ih h3 with ⟨g,f⟩ | ⟨u,i,g,f,q1,q2,q3,q4,q5⟩
    ·exact .inl ⟨by simp [get,hk,g],by simp [fnd,hk,f]⟩
    ·exact .inr ⟨u,i + 1,by simp [get,hk,g],by simp [fnd,hk,f],by simpa using q1,by simpa using q2,by simpa using q3,
      fun e' x he hx=>by simpa [put,hk] using (q4 e' x he hx).mk_cons (p:=(k,v)) h1 h2,by simpa [del,hk] using q5.mk_cons (p:=(k,v)) h1 h2⟩
theorem put_new {l:List (α × β)} {a:α} (h:get l a=none) (x:β):put l a x=l++[(a,x)]:=by
 induction l with
 | nil=>rfl
 | cons p t ih =>
  obtain ⟨k,v⟩:=p
  by_cases hk:k=a
  ·simp [get,hk] at h
  ·simp only [get,if_neg hk] at h
   simp [put,hk,ih h]
theorem del_none {l:List (α × β)} {a:α} (h:get l a=none):del l a=l:=by
 induction l with
 | nil=>rfl
 | cons p t ih =>
  obtain ⟨k,v⟩:=p
  by_cases hk:k=a
  ·simp [get,hk] at h
  ·simp only [get,if_neg hk] at h
   simp [del,hk,ih h]
end
section
variable {α β:Type} [DecidableEq α] {P:Program} {T K E:TypeId} {ek:α→Value} {ev:β→Value} {w:World} {b c:Nat} {es:Array MapEntry} {l:List (α × β)}
theorem run_getMap (h:w.heap[b]?=some (.map es c)):(getObj b).run P w=.ok (.map es c) w:=by
 unfold getObj
 simp only [Sem.run,h]
theorem run_setMap (h:w.heap[b]?=some (.map es c)) (o:Obj):(setObj b o).run P w=.ok () { w with heap:=w.heap.setIfInBounds b o }:=by
 unfold setObj
 simp only [Sem.run,h]
theorem Key.findE (hK:Key P K ek) (he:Ents ek ev es.toList l) (a:α) (w:World) :
  (Instr.findKey K (ek a) es.toList).run P w=.ok ((fnd (l.map (·.1)) a).map fun i=>(i,(es.toList.getD i default).val)) w :=
 hK.find a es.toList (l.map (·.1)) w (by rw [he.keys,List.map_map];rfl)
theorem run_look (hT:P.underlying T=some (.map K E)) (hK:Key P K ek) {z:Value} (hz:∀ w,(zeroValue E).run P w=.ok z w) (hb:w.heap[b]?=some (.map es c)) (he:Ents ek ev es.toList l) (a:α) (ok:Bool) :
  (Instr.lookup T (.map (some b)) (ek a) ok).run P w=.ok (if ok then .tuple #[((get l a).map ev).getD z,.bool (get l a).isSome] else ((get l a).map ev).getD z) w:=by
 have e0:∀ {t:TypeId} {d:TypeDesc} (h:P.underlying t=some d) (w:World),(underlying t).run P w=.ok d w:=by
  intro t d h w;simp [underlying,go_sem,h]
 unfold Instr.lookup
 rcases he.find a with ⟨g,f⟩ | ⟨v,i,g,f,q1,q2,q3,-,-⟩
 ·simp [go_sem,e0 hT,hK.check,hK.findE he,run_getMap hb,hz,g,f]
 ·rw [List.getD_eq_getElem?_getD] at q1
  simp [go_sem,e0 hT,hK.check,hK.findE he,run_getMap hb,hz,g,f]
  cases ok<;>simp_all
def setMap (w:World) (b:Nat) (es:Array MapEntry) (c:Nat):World:={ w with heap:=w.heap.setIfInBounds b (.map es c) }
theorem setMap_size (w:World) (b:Nat) (es:Array MapEntry) (c:Nat):(setMap w b es c).heap.size=w.heap.size:=by simp [setMap]
theorem setMap_at {w:World} {b:Nat} (h:b < w.heap.size) (es:Array MapEntry) (c:Nat):(setMap w b es c).heap[b]?=some (.map es c):=by simp [setMap,Array.getElem?_setIfInBounds,h]
theorem setMap_other {w:World} {b k:Nat} (h:k≠b) (es:Array MapEntry) (c:Nat):(setMap w b es c).heap[k]?=w.heap[k]?:=by
 simp [setMap,Array.getElem?_setIfInBounds,Ne.symm h]
def Born (es:Array MapEntry) (c:Nat):Prop:=(∀ x∈es.toList,x.born < c)∧(es.toList.map (·.born)).Nodup
theorem Born.nil (c:Nat):Born #[] c:=⟨by simp,by simp⟩
theorem Born.push {es:Array MapEntry} {c:Nat} (h:Born es c) (k v:Value):Born (es.push { key:=k,val:=v,born:=c }) (c + 1):=by
 refine ⟨fun x hx=>?_,?_⟩
 ·simp only [Array.toList_push,List.mem_append,List.mem_singleton] at hx
  rcases hx with hx | hx
  ·exact Nat.lt_succ_of_lt (h.1 x hx)
  ·rw [hx];exact Nat.lt_succ_self _
 ·rw [Array.toList_push,List.map_append,List.nodup_append]
  refine ⟨h.2,by simp,?_⟩
  intro a ha b hb
  simp only [List.map_cons,List.map_nil,List.mem_singleton] at hb
  obtain ⟨x,hx,rfl⟩:=List.mem_map.1 ha
  have:=h.1 x hx
  omega
theorem Born.modify {es:Array MapEntry} {c:Nat} (h:Born es c) (i:Nat) (f:MapEntry→MapEntry) (hf:∀ e,(f e).born=e.born):Born (es.modify i f) c:=by
 have e:(es.modify i f).toList.map (·.born)=es.toList.map (·.born):=by
  apply List.ext_getElem?
  intro j
  simp only [List.getElem?_map,Array.getElem?_toList,Array.getElem?_modify]
  by_cases hj:i=j
  ·subst hj;cases es[i]?<;>simp [hf]
  ·simp [hj]
 refine ⟨fun x hx=>?_,by rw [e];exact h.2⟩
 have h1:x.born∈(es.modify i f).toList.map (·.born):=List.mem_map.2 ⟨x,hx,rfl⟩
 rw [e] at h1
 obtain ⟨y,hy,e2⟩:=List.mem_map.1 h1
 rw [← e2];exact h.1 y hy
theorem Born.erase {es:Array MapEntry} {c:Nat} (h:Born es c) (i:Nat):Born (es.eraseIdxIfInBounds i) c:=by
 have hs:(es.eraseIdxIfInBounds i).toList.Sublist es.toList:=by
  unfold Array.eraseIdxIfInBounds
  split
  ·simp only [Array.toList_eraseIdx];exact List.eraseIdx_sublist _ _
  ·exact List.Sublist.refl _
 exact ⟨fun x hx=>h.1 x (hs.subset hx),h.2.sublist (hs.map _)⟩
theorem run_putB (hT:P.underlying T=some (.map K E)) (hK:Key P K ek) (he:Ents ek ev es.toList l) (a:α) (x:β) (c:Nat) :
  ∃ es' c',(∀ (w:World) (b:Nat),w.heap[b]?=some (.map es c)→(Instr.mapUpdate T (.map (some b)) (ek a) (ev x)).run P w=.ok () (setMap w b es' c'))∧Ents ek ev es'.toList (put l a x)∧(Born es c→Born es' c'):=by
 have e0:∀ {t:TypeId} {d:TypeDesc} (h:P.underlying t=some d) (w:World),(underlying t).run P w=.ok d w:=by
  intro t d h w;simp [underlying,go_sem,h]
 rcases he.find a with ⟨g,f⟩ | ⟨v,i,g,f,q1,q2,q3,q4,-⟩
 ·refine ⟨es.push { key:=ek a,val:=ev x,born:=c },c + 1,?_,?_,fun h=>h.push _ _⟩
  ·intro w b hb
   unfold Instr.mapUpdate
   simp [go_sem,e0 hT,hK.check,hK.findE he,run_getMap hb,run_setMap hb,g,f]
   rfl
  ·rw [put_new g,Array.toList_push]
   exact he.push rfl rfl
 ·have hi:i < es.size:=by simpa using q3
  have hk:(es[i]?.map (·.key)).getD (ek a)=ek a:=by
   rw [List.getD_eq_getElem?_getD,Array.getElem?_toList,Array.getElem?_eq_getElem hi] at q2
   rw [Array.getElem?_eq_getElem hi]
   simpa using q2
  refine ⟨es.modify i fun e=>{ e with key:=ek a,val:=ev x },c,?_,?_,fun h=>h.modify i _ fun _=>rfl⟩
  ·have hkt:∀ w,(Instr.keyThatStays (ek a) (ek a)).run P w=.ok (ek a) w:=by
    intro w;unfold Instr.keyThatStays;simp [hK.bits,go_sem]
   intro w b hb
   unfold Instr.mapUpdate
   simp [go_sem,e0 hT,hK.check,hK.findE he,run_getMap hb,run_setMap hb,g,f]
   rw [show (Option.map (fun x=>x.key) es[i]?).getD (ek a)=ek a from hk]
   simp [go_sem,hkt,run_setMap hb]
   rfl
  ·have:=q4 { key:=ek a,val:=ev x,born:=es[i].born } x rfl rfl
   have e:(es.modify i fun e=>{ e with key:=ek a,val:=ev x }).toList=es.toList.set i { key:=ek a,val:=ev x,born:=es[i].born }:=by
    rw [Array.toList_modify]
    apply List.ext_getElem?
    intro j
    rw [List.getElem?_modify,List.getElem?_set]
    by_cases hj:i=j
    ·subst hj
     simp [hi]
    ·simp [hj]
   rw [e];exact this
theorem run_put (hT:P.underlying T=some (.map K E)) (hK:Key P K ek) (he:Ents ek ev es.toList l) (a:α) (x:β) (c:Nat) :
  ∃ es' c',(∀ (w:World) (b:Nat),w.heap[b]?=some (.map es c)→(Instr.mapUpdate T (.map (some b)) (ek a) (ev x)).run P w=.ok () (setMap w b es' c'))∧Ents ek ev es'.toList (put l a x):=by
 obtain ⟨es',c',h1,h2,-⟩:=run_putB hT hK he a x c
 exact ⟨es',c',h1,h2⟩
theorem run_delB (hT:P.underlying T=some (.map K E)) (hK:Key P K ek) (he:Ents ek ev es.toList l) (a:α) (tys:Array TypeId) (ht:tys[0]?=some T) (c:Nat) :
  ∃ es' c',(∀ (w:World) (b:Nat) (rt:TypeId),w.heap[b]?=some (.map es c)→(Builtin.delete_ tys rt #[.map (some b),ek a]).run P w=.ok (.tuple #[]) (setMap w b es' c'))∧Ents ek ev es'.toList (del l a)∧(Born es c→Born es' c'):=by
 have e0:∀ {t:TypeId} {d:TypeDesc} (h:P.underlying t=some d) (w:World),(underlying t).run P w=.ok d w:=by
  intro t d h w;simp [underlying,go_sem,h]
 rcases he.find a with ⟨g,f⟩ | ⟨v,i,g,f,q1,q2,q3,-,q5⟩
 ·refine ⟨es,c,?_,by rw [del_none g];exact he,id⟩
  intro w b rt hb
  unfold Builtin.delete_
  simp [go_sem,ht,e0 hT,hK.check,hK.findE he,run_getMap hb,run_setMap hb,g,f]
  rfl
 ·refine ⟨es.eraseIdxIfInBounds i,c,?_,?_,fun h=>h.erase i⟩
  ·intro w b rt hb
   unfold Builtin.delete_
   simp [go_sem,ht,e0 hT,hK.check,hK.findE he,run_getMap hb,run_setMap hb,g,f]
   rfl
  ·have e:(es.eraseIdxIfInBounds i).toList=es.toList.eraseIdx i:=by
    rw [Array.eraseIdxIfInBounds_eq,dif_pos (by simpa using q3),Array.toList_eraseIdx]
   rw [e];exact q5
end
theorem key_of {α:Type} [DecidableEq α] {P:Program} {K:TypeId} {ek:α→Value} {fs:Array Field} (hu:P.underlying K=some (.struct fs)) (hs:∀ a,∃ cs,ek a=.agg cs)
  (check:∀ b a w,(Instr.checkKey b 10000 K (ek a)).run P w=.ok () w) (eq:∀ a b w,(Op.equal K (ek a) (ek b)).run P w=.ok (decide (a=b)) w) (bits:∀ a,Instr.sameBits 10000 (ek a) (ek a)=true):Key P K ek:=by
 refine ⟨check,?_,bits⟩
 have ask:∀ (a:α) (ks:List α) (es:List MapEntry) (j:Nat) (w:World),es.map (·.key)=ks.map ek→(Instr.findAsking K (ek a) es j).run P w=.ok ((fnd ks a).map fun i=>(j + i,(es.getD i default).val)) w:=by
  intro a ks
  induction ks with
  | nil =>
   intro es j w h
   have:es=[]:=by simpa using h
   subst this
   unfold Instr.findAsking;simp [go_sem,fnd]
  | cons k ks ih =>
   intro es j w h
   match es,h with
   | e :: es,h =>
    simp only [List.map_cons,List.cons.injEq] at h
    unfold Instr.findAsking
    rw [h.1]
    by_cases hk:k=a
    ·subst hk;simp [go_sem,eq,fnd]
    ·have hk':¬ a=k:=fun e=>hk e.symm
     simp only [Sem.run_bind,eq,hk',decide_false,Result.andThen_ok,Bool.false_eq_true,if_false,ih es (j + 1) w h.2,fnd,if_neg hk]
     cases fnd ks a with
     | none=>rfl
     | some i=>simp only [Option.map_some,List.getD_cons_succ];rw [show j + 1 + i=j + (i + 1) by omega]
 intro a es ks w h
 have e0:(underlying K).run P w=.ok (.struct fs) w:=by simp [underlying,go_sem,hu]
 unfold Instr.findKey
 match es,ks,h with
 | [],[],_=>simp [go_sem,e0,Instr.findNow,fnd]
 | e :: es,[],h=>exact absurd h (by simp)
 | [],k :: ks,h=>exact absurd h (by simp)
 | e :: es,k :: ks,h =>
  have hk:e.key=ek k:=by simpa using congrArg (fun l=>l.head?) h
  obtain ⟨ca,ha⟩:=hs a
  have n:Instr.findNow (.struct fs) (ek a) (e :: es) 0=none:=by
   rw [ha];rfl
  have:=ask a (k :: ks) (e :: es) 0 w h
  simp only [Nat.zero_add] at this
  simp [go_sem,e0,n,this]
theorem key_now {α:Type} [DecidableEq α] {P:Program} {K:TypeId} {ek:α→Value} {d:TypeDesc} (hu:P.underlying K=some d)
  (check:∀ b a w,(Instr.checkKey b 10000 K (ek a)).run P w=.ok () w) (eq:∀ a b,Instr.sameNow d (ek a) (ek b)=some (decide (a=b))) (bits:∀ a,Instr.sameBits 10000 (ek a) (ek a)=true):Key P K ek:=by
 refine ⟨check,?_,bits⟩
 have now:∀ (a:α) (ks:List α) (es:List MapEntry) (j:Nat),es.map (·.key)=ks.map ek→Instr.findNow d (ek a) es j=some ((fnd ks a).map fun i=>(j + i,(es.getD i default).val)):=by
  intro a ks
  induction ks with
  | nil =>
   intro es j h
   have:es=[]:=by simpa using h
   subst this
   rfl
  | cons k ks ih =>
   intro es j h
   match es,h with
   | e :: es,h =>
    simp only [List.map_cons,List.cons.injEq] at h
    unfold Instr.findNow
    rw [h.1,eq]
    by_cases hk:k=a
    ·subst hk;simp [fnd]
    ·have hk':¬ a=k:=fun e=>hk e.symm
     simp only [hk',decide_false,ih es (j + 1) h.2,fnd,if_neg hk]
     cases fnd ks a with
     | none=>rfl
     | some i=>simp only [Option.map_some,List.getD_cons_succ];rw [show j + 1 + i=j + (i + 1) by omega]
 intro a es ks w h
 have e0:(underlying K).run P w=.ok d w:=by simp [underlying,go_sem,hu]
 have:=now a ks es 0 h
 simp only [Nat.zero_add] at this
 unfold Instr.findKey
 simp [go_sem,e0,this]
theorem key_i64 {P:Program} {K:TypeId} (hu:P.underlying K=some (.int .i64)):Key P K (fun n:Int=>Value.int .i64 n):=by
 have e0:∀ w,(underlying K).run P w=.ok (.int .i64) w:=fun w=>by simp [underlying,go_sem,hu]
 refine key_now hu ?_ ?_ ?_
 ·intro b a w;unfold Instr.checkKey;simp [go_sem,e0]
 ·intro a b;simp only [Instr.sameNow,if_true,Option.some.injEq];rfl
 ·intro a;simp [Instr.sameBits]
end
section
open Go.RowKit
structure V where
 k:Int
 n:Int
 s:List UInt8
deriving DecidableEq
abbrev V.nil:V:=⟨0,0,[]⟩
abbrev vstr (s:List UInt8):V:=⟨3,0,s⟩
abbrev vref (n:Int):V:=⟨4,n,[]⟩
structure Exc where
 name:List UInt8
 arg:V
 has:Bool
deriving DecidableEq
abbrev Exc.nil:Exc:=⟨[],V.nil,false⟩
structure Act where
 kind:Int
 code:Int
 after:Int
 v:V
 keep:V
 args:List V
 cells:List V
deriving DecidableEq
@[reducible] def bs (l:List UInt8):ByteArray:=⟨l.toArray⟩
abbrev Row:=List (V × V)
structure Ob where
 kind:Int
 name:List UInt8
 num:Int
 items:List V
 d:Row
structure Hp where
 all:List (Int × Ob)
 refs:Int→Int
 last:Int
def keyB (v:V):Bool :=
 if v.k=0 then decide (v=V.nil) else if v.k=1 then decide (v.s=[]) && (decide (v.n=0) || decide (v.n=1)) else if v.k=2 then decide (v.s=[])
 else if v.k=3 then decide (v.n=0) else false
def dputB (d:Row) (k:V):Bool:=(get d k).isSome || (keyB k && decide (d.length < 4096))
def dput (d:Row) (k x:V):Row:=if dputB d k then put d k x else d
def Hp.of (h:Hp) (v:V):Option Ob:=if v.k=4 then get h.all v.n else none
def upd (r:Int→Int) (n:Int) (x:Int):Int→Int:=fun m=>if m=n then x else r m
def hold (by_:Int):(Int→Int)→List V→Int→Int
 | r,[]=>r
 | r,v :: t=>hold by_ (if v.k=4 then upd r v.n (wrap64 (r v.n + by_)) else r) t
def Hp.set (h:Hp) (v:V) (o:Ob):Hp:={ h with all:=put h.all v.n o }
def Hp.kind (h:Hp) (v:V):Int:=match h.of v with | some o=>o.kind | none=>0
def Hp.name (h:Hp) (v:V):List UInt8:=match h.of v with | some o=>o.name | none=>[]
def Hp.num (h:Hp) (v:V):Int:=match h.of v with | some o=>o.num | none=>0
def Hp.items (h:Hp) (v:V):List V:=match h.of v with | some o=>o.items | none=>[]
def Hp.len (h:Hp) (v:V):Nat:=(h.items v).length
def Hp.at (h:Hp) (v:V) (i:Int):V × Bool :=
 match h.of v with
 | some o=>if 0≤i∧i < o.items.length then (o.items.getD i.toNat V.nil,true) else (V.nil,false)
 | none=>(V.nil,false)
def Hp.setAt (h:Hp) (v:V) (i:Int) (x:V):Hp × Bool :=
 match h.of v with
 | some o=>if 0≤i∧i < o.items.length then ({ h.set v { o with items:=o.items.set i.toNat x } with refs:=hold (-1) (hold 1 h.refs [x]) [o.items.getD i.toNat V.nil] },true) else (h,false)
 | none=>(h,false)
def Hp.replace (h:Hp) (v:V) (a b:Int) (l:List V):Hp × Bool :=
 match h.of v with
 | some o=>if 0≤a∧a≤b∧b≤o.items.length then
   ({ h.set v { o with items:=o.items.take a.toNat++l++o.items.drop b.toNat } with refs:=hold (-1) (hold 1 h.refs l) ((o.items.take b.toNat).drop a.toNat) },true) else (h,false)
 | none=>(h,false)
def Hp.make (h:Hp) (kind:Int) (name:List UInt8) (n:Int) (l:List V):Hp × V :=
 if 1≤kind∧kind≤12 then
  let a:=wrap64 (h.last + 1)
  ({ all:=put h.all a ⟨kind,name,n,l,[]⟩,refs:=hold 1 h.refs l,last:=a },vref a)
 else (h,V.nil)
def Hp.get (h:Hp) (v key:V):V × Bool:=match h.of v with | some o=>((W.get o.d key).getD V.nil,(W.get o.d key).isSome) | none=>(V.nil,false)
def Hp.put (h:Hp) (v key x:V):Hp × Bool :=
 match h.of v with
 | some o =>
  if dputB o.d key then
   ({ h.set v { o with d:=W.put o.d key x } with refs:=(match W.get o.d key with | some was=>hold (-1) (hold 1 h.refs [x]) [was] | none=>hold 1 h.refs [x]) },true)
  else (h,false)
 | none=>(h,false)
def Hp.del (h:Hp) (v key:V):Hp × Bool :=
 match h.of v with
 | some o=>match W.get o.d key with
  | some was=>({ h.set v { o with d:=W.del o.d key } with refs:=hold (-1) h.refs [was] },true)
  | none=>(h,false)
 | none=>(h,false)
def Hp.keys (h:Hp) (v:V):List V:=match h.of v with | some o=>o.d.map (·.1) | none=>[]
def Hp.size (h:Hp) (v:V):Nat:=match h.of v with | some o=>o.d.length | none=>0
def Ob.values (o:Ob):List V:=o.items++o.d.map (·.2)
def Hp.drop (h:Hp) (n:Int):Hp × List V :=
 match W.get h.all n with
 | some o=>({ h with all:=W.del h.all n,refs:=hold (-1) h.refs o.values },o.values)
 | none=>(h,[])
def Hp.free:Hp→List Int→Hp × Nat
 | h,[]=>(h,0)
 | h,n :: t=>match W.get h.all n with
  | some _=>let r:=((h.drop n).1).free t;(r.1,r.2 + 1)
  | none=>h.free t
def Hp.live (h:Hp) (kind:Int):Nat:=(h.all.filter fun p=>decide (kind=0) || decide (p.2.kind=kind)).length
end
section
open Go.RowKit
abbrev V.agg (v:V):Value:=.agg #[.int .i64 v.k,.int .i64 v.n,.string (bs v.s)]
abbrev V.cs (v:V):List Value:=[.int .i64 v.k,.int .i64 v.n,.string (bs v.s)]
abbrev V.ca (v:V):Array Value:=#[.int .i64 v.k,.int .i64 v.n,.string (bs v.s)]
def Bl (w w':World):Prop:=Below w.heap.size w w'
theorem Bl.refl (w:World):Bl w w:=Below.refl _ _
theorem Bl.trans {a b c:World} (h:Bl a b) (k:Bl b c):Bl a c:=Below.trans h (Below.mono k (Below.size h))
theorem Bl.al (w:World) (o:Obj):Bl w (w.alloc o):=(Below.refl _ _).alloc (Nat.le_refl _) _
theorem Bl.dr (w:World):Bl w w.drew:=(Below.refl _ _).drew
theorem Bl.drn (w:World) (n:Nat):Bl w (w.drewN n):=⟨rfl,rfl,rfl,Nat.le_refl _,fun _ _=>rfl⟩
theorem Bl.al' {a w:World} (h:Bl a w) (o:Obj):Bl a (w.alloc o):=h.trans (Bl.al _ _)
theorem Bl.dr' {a w:World} (h:Bl a w):Bl a w.drew:=h.trans (Bl.dr _)
theorem Bl.drn' {a w:World} (h:Bl a w) (n:Nat):Bl a (w.drewN n):=h.trans (Bl.drn _ _)
theorem Bl.set' {a w:World} (h:Bl a w) (p:Addr) (hp:a.heap.size≤p.block) (u:Value):Bl a (w.setCell p u):=Below.setCell h hp u
theorem qA (w:World):Bl w w:=.refl w
theorem qB {a w:World} (h:Bl a w) (o:Obj):Bl a (w.alloc o):=h.al' o
theorem qC {a w:World} (h:Bl a w):Bl a w.drew:=h.dr'
theorem qD {a w:World} (h:Bl a w) (n:Nat):Bl a (w.drewN n):=h.drn' n
theorem qE {a w:World} (h:Bl a w) (p:Addr) (hp:a.heap.size≤p.block) (u:Value):Bl a (w.setCell p u):=h.set' p hp u
theorem qP:(∀ (a:Go.Act) (d:Tmp) (v:Value),a.put (some d) v={ a with tmps:=a.tmps.setIfInBounds d v })∧(∀ (a:Go.Act) (v:Value),a.put none v=a)∧(∀ (xs:List Value) (i:Nat) (a:Value),xs.toArray.setIfInBounds i a=(xs.set i a).toArray) ∧
  (∀ (a b:Value) (l:List Value),(a :: l).set 0 b=b :: l)∧∀ (a b:Value) (l:List Value) (i:Nat),(a :: l).set (i + 1) b=a :: l.set i b :=
 ⟨fun _ _ _=>rfl,fun _ _=>rfl,fun xs i a=>List.setIfInBounds_toArray xs i a,fun _ _ _=>rfl,fun _ _ _ _=>rfl⟩
theorem Bl.sz {w w':World} (h:Bl w w'):w.heap.size≤w'.heap.size:=Below.size h
theorem Bl.at {w w':World} (h:Bl w w') {b:Nat} (hb:b < w.heap.size):w'.heap[b]?=w.heap[b]?:=Below.block h b hb
theorem bcell {W w1:World} (hb:Bl W w1):(∀ b o,b < W.heap.size→w1.cell? ⟨b,o,none⟩=W.cell? ⟨b,o,none⟩)∧(∀ b o,b < W.heap.size→w1.frozen? ⟨b,o,none⟩=W.frozen? ⟨b,o,none⟩) :=
 ⟨fun b o h=>Below.cell (p:=⟨b,o,none⟩) hb h,fun b o h=>Below.frozen (p:=⟨b,o,none⟩) hb h⟩
structure Step (B:Nat) (F:Nat→Prop) (w w':World) (F':Nat→Prop):Prop where
 os:w'.os=w.os
 tape:w'.tape=w.tape
 output:w'.output=w.output
 size:w.heap.size≤w'.heap.size
 block:∀ k,k < B→¬ F k→w'.heap[k]?=w.heap[k]?
 foot:∀ k,F' k→F k∨B≤k
 lt:∀ k,F' k→k < w'.heap.size
section
variable {B:Nat} {F F1 F2:Nat→Prop} {a w w1 w2:World}
theorem Step.refl (hF:∀ k,F k→k < w.heap.size):Step B F w w F:=⟨rfl,rfl,rfl,Nat.le_refl _,fun _ _ _=>rfl,fun _ h=>.inl h,hF⟩
theorem Step.alloc (h:Step B F a w F1) (hB:B≤w.heap.size) (o:Obj):Step B F a (w.alloc o) F1 :=
 ⟨h.os,h.tape,h.output,by rw [World.size_alloc];exact Nat.le_succ_of_le h.size,fun k hk hf=>(Below.heap_alloc w o k (Nat.lt_of_lt_of_le hk hB)).trans (h.block k hk hf),h.foot,
  fun k hk=>by rw [World.size_alloc];exact Nat.lt_succ_of_lt (h.lt k hk)⟩
theorem Step.drew (h:Step B F a w F1):Step B F a w.drew F1:=⟨h.os,h.tape,h.output,h.size,h.block,h.foot,h.lt⟩
theorem Step.drewN (h:Step B F a w F1) (n:Nat):Step B F a (w.drewN n) F1:=⟨h.os,h.tape,h.output,h.size,h.block,h.foot,h.lt⟩
theorem Step.setCell (h:Step B F a w F1) {p:Addr} (hp:B≤p.block∨F p.block) (u:Value):Step B F a (w.setCell p u) F1 :=
 ⟨h.os,h.tape,h.output,by rw [World.size_setCell];exact h.size,fun k hk hf=>(Below.heap_setCell w p u k (by
  rintro rfl
  rcases hp with hp | hp
  ·omega
  ·exact hf hp)).trans (h.block k hk hf),h.foot,fun k hk=>by rw [World.size_setCell];exact h.lt k hk⟩
theorem Step.bl (h:Step B F a w F1) (hb:Bl w w1) (hB:B≤w.heap.size):Step B F a w1 F1 :=
 ⟨hb.os.trans h.os,hb.tape.trans h.tape,hb.output.trans h.output,Nat.le_trans h.size hb.sz,fun k hk hf=>(hb.at (Nat.lt_of_lt_of_le hk hB)).trans (h.block k hk hf),h.foot,
  fun k hk=>Nat.lt_of_lt_of_le (h.lt k hk) hb.sz⟩
theorem Step.call (h:Step B F a w F1) (hB:B≤w.heap.size) (k:Step w.heap.size F1 w w1 F2):Step B F a w1 F2 :=
 ⟨k.os.trans h.os,k.tape.trans h.tape,k.output.trans h.output,Nat.le_trans h.size k.size,
  fun i hi hf=>(k.block i (Nat.lt_of_lt_of_le hi hB) (fun hf1=>(h.foot i hf1).elim hf (by omega))).trans (h.block i hi hf),
  fun i hi=>(k.foot i hi).elim (fun h1=>h.foot i h1) (fun h1=>.inr (Nat.le_trans hB h1)),k.lt⟩
theorem Step.of_bl (hb:Bl w w1) (hF:∀ k,F k→k < w.heap.size):Step w.heap.size F w w1 F:=(Step.refl hF).bl hb (Nat.le_refl _)
theorem named {p:World→Prop} {w:World} (h:∀ W,W=w→p W):p w:=h w rfl
def Loc (F:Nat→Prop) (w:World) (b:Nat):Prop:=b < w.heap.size∧¬ F b
theorem Loc.alloc {b:Nat} (h:Loc F w b) (o:Obj):Loc F (w.alloc o) b:=⟨by rw [World.size_alloc];exact Nat.lt_succ_of_lt h.1,h.2⟩
theorem Loc.setCell {b:Nat} (h:Loc F w b) (p:Addr) (u:Value):Loc F (w.setCell p u) b:=⟨by rw [World.size_setCell];exact h.1,h.2⟩
theorem Loc.drew {b:Nat} (h:Loc F w b):Loc F w.drew b:=h
theorem Loc.step {b:Nat} (h:Loc F w b) (k:Step w.heap.size F w w1 F1):Loc F1 w1 b:=⟨Nat.lt_of_lt_of_le h.1 k.size,fun hf=>(k.foot b hf).elim h.2 (by have:=h.1;omega)⟩
theorem Loc.bl {b:Nat} (h:Loc F w b) (k:Bl w w1):Loc F w1 b:=⟨Nat.lt_of_lt_of_le h.1 k.sz,h.2⟩
theorem Loc.block {b:Nat} (h:Loc F w b) (k:Step w.heap.size F w w1 F1):w1.heap[b]?=w.heap[b]?:=k.block b h.1 h.2
end
def Vs (w:World) (x:Value) (l:List V):Prop :=
 (x=.slice none 0 0∧l=[])∨∃ b o c,x=.slice (some ⟨b,o,none⟩) l.length c∧b < w.heap.size∧l.length≤c∧c≤maxLen∧∀ j u,(l.flatMap V.cs)[j]?=some u→w.cell? ⟨b,o + j,none⟩=some u
theorem cell_of {w:World} {b o:Nat} {arr:Array Value} {t:TypeId} {fr:Nat × Nat} (h:w.heap[b]?=some (.cells arr t fr)):w.cell? ⟨b,o,none⟩=arr[o]?:=by
 simp [World.cell?,h]
theorem beq_bs (a b:List UInt8):(bs a == bs b)=decide (a=b):=by
 rw [beq_toListBytes,ByteArray.toList_eq,ByteArray.toList_eq]
 by_cases h:a=b<;>simp [h]
theorem key_V:Key Tryz.prog 23 V.agg:=by
 refine key_of (fs:=Tryz.prog.fieldsOf 23) (by kernel_rfl) (fun a=>⟨_,rfl⟩) ?_ ?_ ?_
 ·intro b a w
  have c1:∀ w,(Instr.checkKey b 9999 3 (.int .i64 a.k)).run Tryz.prog w=.ok () w:=by intro w;unfold Instr.checkKey;simp [go_sem]
  have c2:∀ w,(Instr.checkKey b 9999 2 (.int .i64 a.n)).run Tryz.prog w=.ok () w:=by intro w;unfold Instr.checkKey;simp [go_sem]
  have c3:∀ w,(Instr.checkKey b 9999 9 (.string (bs a.s))).run Tryz.prog w=.ok () w:=by intro w;unfold Instr.checkKey;simp [go_sem]
  unfold Instr.checkKey
  simp [go_sem,c1,c2,c3]
 ·intro a b w
  unfold Op.equal
  rw [show Op.maxDepth=9998 + 1 + 1 from rfl,run_equalIn_struct (hp:=by kernel_rfl) (ht:=by kernel_rfl)]
  simp [go_sem,Op.eqFields,Program.fieldsOf,ByteArray.toList_eq]
  obtain ⟨k1,n1,s1⟩:=a
  obtain ⟨k2,n2,s2⟩:=b
  by_cases h1:k1=k2<;>by_cases h2:n1=n2<;>by_cases h3:s1=s2<;>simp [h1,h2,h3]
 ·intro a
  simp [Instr.sameBits,beq_bs]
theorem zG {α:Type}:(∀ (xs:List α) (i:Nat),xs.toArray[i]?=xs[i]?)∧(∀ (a:α) (l:List α) (i:Nat),(a :: l)[i + 1]?=l[i]?)∧∀ (a:α) (l:List α),(a :: l)[0]?=some a :=
 ⟨fun _ _=>List.getElem?_toArray,fun _ _ _=>rfl,fun _ _=>rfl⟩
theorem zS {α:Type}:(∀ (l:List α),l.toArray.size=l.length)∧(∀ (a:α) (l:List α),(a :: l).length=l.length + 1)∧([]:List α).length=0∧(∀ (n:Nat) (a:α),Array.replicate (n + 1) a=(Array.replicate n a).push a)∧(∀ (a:α),Array.replicate 0 a=#[]) ∧
  (∀ (l:List α) (a:α),l.toArray.push a=(l++[a]).toArray)∧(∀ (l m:List α),l.toArray++m.toArray=(l++m).toArray)∧(∀ (l:List α),[]++l=l)∧∀ (a:α) (l m:List α),(a :: l)++m=a :: (l++m) :=
 ⟨fun _=>rfl,fun _ _=>rfl,rfl,fun _ _=>Array.replicate_succ,fun _=>Array.replicate_zero,fun _ _=>List.push_toArray _ _,fun _ _=>List.append_toArray _ _,fun _=>rfl,fun _ _ _=>rfl⟩
theorem zH {p:Prop} (h:p):Go.RowKit.Hid p:=h
theorem zN {α:Type} {xs:Array α} {i:Nat} {b:α} (h:xs[i]?=some b):∃ h':i < xs.size,xs[i]=b:=Array.getElem?_eq_some_iff.1 h
theorem zL (w:World) (o:Obj):(w.alloc o).heap.size=w.heap.size + 1:=World.size_alloc ..
theorem zB {a b:Nat} (h:Nat.ble a b=true):a≤b:=Nat.le_of_ble_eq_true h
end
end Go.Proofs.YtbbokgpklihkoaaGreatDoor.W
namespace Go.Proofs.YtbbokgpklihkoaaGreatDoor.W.E
section
inductive T (α:Type) where
 | e
 | n (l:T α) (v:Option α) (r:T α)
inductive Pth where
 | z
 | l (p:Pth)
 | r (p:Pth)
def pthF (f:Nat):Nat→Pth:=Nat.rec (fun _=>.z) (fun _ ih k=>Nat.casesOn k .z (fun k=>Nat.casesOn (Nat.mod k 2) (.r (ih (Nat.div k 2))) (fun _=>.l (ih (Nat.div k 2))))) f
def pth (k:Nat):Pth:=pthF k k
abbrev TMax:Nat:=1000000
def T.getF {α:Type} (f:Nat):T α→Pth→Option α :=
 Nat.rec (fun _ _=>none) (fun _ ih t p=>T.casesOn t none (fun l v r=>Pth.casesOn p v (fun q=>ih l q) (fun q=>ih r q))) f
def T.get {α:Type} (t:T α) (k:Nat):Option α:=T.getF (nat_lit 21) t (pth k)
def T.updF {α:Type} (x:Option α) (f:Nat):Pth→T α→T α :=
 Nat.rec (fun _ t=>t) (fun _ ih p t=>Pth.casesOn p (T.casesOn t (.n .e x .e) (fun l _ r=>.n l x r))
  (fun q=>T.casesOn t (.n (ih q .e) none .e) (fun l v r=>.n (ih q l) v r))
  (fun q=>T.casesOn t (.n .e none (ih q .e)) (fun l v r=>.n l v (ih q r)))) f
def T.upd {α:Type} (t:T α) (k:Nat) (x:Option α):T α:=T.updF x (nat_lit 21) (pth k) t
theorem beq_dec (a b:Nat):Nat.beq a b=decide (a=b):=by
 by_cases h:a=b
 ·subst h;simp
 ·rw [decide_eq_false h]
  cases hq:Nat.beq a b with
  | false=>rfl
  | true=>exact absurd (Nat.eq_of_beq_eq_true hq) h
theorem pthF_succ (f k:Nat):pthF (f + 1) (k + 1)=if k % 2=0 then .r (pthF f (k / 2)) else .l (pthF f (k / 2)):=by
 show Nat.casesOn (motive:=fun _=>Pth) (k % 2) (Pth.r (pthF f (k / 2))) (fun _=>Pth.l (pthF f (k / 2)))=_
 cases k % 2 with
 | zero=>rfl
 | succ n=>rfl
theorem pthF_zero (f:Nat):pthF f 0=.z:=by cases f<;>rfl
theorem pthF_more:∀ (f g k:Nat),k≤f→k≤g→pthF f k=pthF g k
 | f,g,0,_,_=>by rw [pthF_zero,pthF_zero]
 | f + 1,g + 1,k + 1,h1,h2=>by
  rw [pthF_succ,pthF_succ,pthF_more f g (k / 2) (by omega) (by omega)]
theorem pth_zero:pth 0=.z:=rfl
theorem pth_r {k:Nat} (h:k % 2=0):pth (k + 1)=.r (pth (k / 2)):=by
 rw [pth,pthF_succ,if_pos h,pthF_more k (k / 2) (k / 2) (by omega) (Nat.le_refl _)];rfl
theorem pth_l {k:Nat} (h:¬ k % 2=0):pth (k + 1)=.l (pth (k / 2)):=by
 rw [pth,pthF_succ,if_neg h,pthF_more k (k / 2) (k / 2) (by omega) (Nat.le_refl _)];rfl
theorem pth_inj:∀ (n j k:Nat),j≤n→pth j=pth k→j=k
 | _,0,0,_,_=>rfl
 | _,0,k + 1,_,h=>by by_cases hk:k % 2=0<;>simp [pth_zero,pth_r,pth_l,hk] at h
 | _,j + 1,0,_,h=>by by_cases hj:j % 2=0<;>simp [pth_zero,pth_r,pth_l,hj] at h
 | n + 1,j + 1,k + 1,hn,h=>by
  by_cases hj:j % 2=0<;>by_cases hk:k % 2=0<;>simp only [pth_r,pth_l,hj,hk,not_false_eq_true] at h
  ·injection h with h;have:=pth_inj n (j / 2) (k / 2) (by omega) h;omega
  ·cases h
  ·cases h
  ·injection h with h;have:=pth_inj n (j / 2) (k / 2) (by omega) h;omega
def plen:Pth→Nat
 | .z=>0
 | .l p=>plen p + 1
 | .r p=>plen p + 1
theorem pth_len:∀ (j k:Nat),k + 1 < 2 ^ (j + 1)→plen (pth k)≤j
 | _,0,_=>Nat.zero_le _
 | 0,k + 1,h=>absurd h (by simp)
 | j + 1,k + 1,h=>by
  have hp:2 ^ (j + 1 + 1)=2 * 2 ^ (j + 1):=by rw [Nat.pow_succ];omega
  have ih:=pth_len j (k / 2) (by omega)
  by_cases hk:k % 2=0
  ·rw [pth_r hk];exact Nat.succ_le_succ ih
  ·rw [pth_l hk];exact Nat.succ_le_succ ih
@[simp] theorem T.get_e {α:Type} (k:Nat):(T.e:T α).get k=none:=rfl
theorem T.getF_more {α:Type}:∀ (f:Nat) (t:T α) (p:Pth) (x:α),T.getF f t p=some x→T.getF (f + 1) t p=some x
 | 0,_,_,_,h=>by cases h
 | f + 1,.e,_,_,h=>by cases h
 | f + 1,.n l v r,.z,_,h=>h
 | f + 1,.n l v r,.l q,x,h=>T.getF_more f l q x h
 | f + 1,.n l v r,.r q,x,h=>T.getF_more f r q x h
theorem T.get_n_r {α:Type} {l:T α} {v:Option α} {r:T α} {k:Nat} {x:α} (h:k % 2=0) (hx:(T.n l v r).get (k + 1)=some x):r.get (k / 2)=some x:=by
 unfold T.get at hx;rw [pth_r h] at hx;exact T.getF_more 20 r _ x hx
theorem T.get_n_l {α:Type} {l:T α} {v:Option α} {r:T α} {k:Nat} {x:α} (h:¬ k % 2=0) (hx:(T.n l v r).get (k + 1)=some x):l.get (k / 2)=some x:=by
 unfold T.get at hx;rw [pth_l h] at hx;exact T.getF_more 20 l _ x hx
theorem T.getF_upd_same {α:Type} (x:Option α):∀ (f:Nat) (p:Pth) (t:T α),plen p < f→T.getF f (T.updF x f p t) p=x
 | 0,_,_,h=>absurd h (Nat.not_lt_zero _)
 | f + 1,.z,t,_=>by cases t<;>rfl
 | f + 1,.l q,t,h=>by cases t<;>exact T.getF_upd_same x f q _ (Nat.lt_of_succ_lt_succ h)
 | f + 1,.r q,t,h=>by cases t<;>exact T.getF_upd_same x f q _ (Nat.lt_of_succ_lt_succ h)
theorem T.getF_e {α:Type} (f:Nat) (p:Pth):T.getF f (T.e:T α) p=none:=by cases f<;>rfl
theorem T.getF_upd_ne {α:Type} (x:Option α):∀ (f:Nat) (p q:Pth) (t:T α),q≠p→T.getF f (T.updF x f p t) q=T.getF f t q
 | 0,_,_,_,_=>rfl
 | _ + 1,.z,.z,_,h=>absurd rfl h
 | f + 1,.z,.l q,t,_=>by cases t<;>first | rfl | exact T.getF_e f q
 | f + 1,.z,.r q,t,_=>by cases t<;>first | rfl | exact T.getF_e f q
 | f + 1,.l p,.z,t,_=>by cases t<;>rfl
 | f + 1,.l p,.l q,t,h=>by
  cases t
  ·exact (T.getF_upd_ne x f p q .e (fun hq=>h (by rw [hq]))).trans (T.getF_e f q)
  ·exact T.getF_upd_ne x f p q _ (fun hq=>h (by rw [hq]))
 | f + 1,.l p,.r q,t,_=>by cases t<;>first | rfl | exact T.getF_e f q
 | f + 1,.r p,.z,t,_=>by cases t<;>rfl
 | f + 1,.r p,.l q,t,_=>by cases t<;>first | rfl | exact T.getF_e f q
 | f + 1,.r p,.r q,t,h=>by
  cases t
  ·exact (T.getF_upd_ne x f p q .e (fun hq=>h (by rw [hq]))).trans (T.getF_e f q)
  ·exact T.getF_upd_ne x f p q _ (fun hq=>h (by rw [hq]))
theorem T.upd_ne {α:Type} (t:T α) {j k:Nat} (x:Option α) (h:j≠k):(t.upd k x).get j=t.get j:=T.getF_upd_ne _ _ _ _ _ fun hq=>h (pth_inj j j k (Nat.le_refl _) hq)
theorem T.upd_same {α:Type} (t:T α) {k:Nat} (x:Option α) (h:k < TMax):(t.upd k x).get k=x:=T.getF_upd_same _ _ _ _ (Nat.lt_succ_of_le (pth_len 20 k (by simp only [TMax] at h;omega)))
theorem T.get_upd {α:Type} (t:T α) {k:Nat} (x:Option α) (h:k < TMax) (j:Nat):(t.upd k x).get j=if j=k then x else t.get j:=by
 by_cases hj:j=k
 ·subst hj;rw [if_pos rfl,T.upd_same t x h]
 ·rw [if_neg hj,T.upd_ne t x hj]
end
section
open Go.RowKit
inductive SV where
 | bool (b:Bool)
 | int (k:IntKind) (n:Int)
 | str (s:List UInt8)
 | ptr (b off:Nat)
 | sl (b off len esz:Nat) (cap:Option Nat)
 | map (b:Nat)
 | fn (f:Nat) (first caps:List SV)
 | yld (l:Nat)
 | nilp | nils | nilm | nilf | nili
 | emp (k esz:Nat)
 | we
 | iface (t:Nat) (v:SV)
 | agg (cs:List SV)
 | tup (vs:List SV)
deriving Inhabited
abbrev Env:=Nat→Option (Nat × Nat × Nat)
def Env.le (e e':Env):Prop:=∀ b x,e b=some x→e' b=some x
theorem Env.le.refl (e:Env):e.le e:=fun _ _ h=>h
theorem Env.le.trans {a b c:Env} (h:a.le b) (k:b.le c):a.le c:=fun x y q=>k x y (h x y q)
def Env.put (e:Env) (k:Nat) (x:Nat × Nat × Nat):Env:=fun b=>if b=k then some x else e b
theorem Env.le_put {e:Env} {k:Nat} (h:e k=none) (x:Nat × Nat × Nat):e.le (e.put k x):=fun b y hb=>by
 unfold Env.put
 by_cases hk:b=k
 ·subst hk;rw [h] at hb;cases hb
 ·rw [if_neg hk];exact hb
theorem Env.put_same (e:Env) (k:Nat) (x:Nat × Nat × Nat):e.put k x k=some x:=if_pos rfl
theorem Env.put_ne (e:Env) {k b:Nat} (x:Nat × Nat × Nat) (h:b≠k):e.put k x b=e b:=if_neg h
mutual
inductive VR (e:Env):SV→Value→Prop
 | bool (b:Bool):VR e (.bool b) (.bool b)
 | int (k:IntKind) (n:Int):VR e (.int k n) (.int k n)
 | str (s:List UInt8):VR e (.str s) (.string (bs s))
 | ptr {b off c o z:Nat} (h:e b=some (c,o,z)):VR e (.ptr b off) (.pointer (some ⟨c,o + off,none⟩))
 | sl {b off len esz c o z cap:Nat} {ck:Option Nat} (h:e b=some (c,o,z)) (hl:len≤cap) (hz:off + cap * esz≤z) (hm:cap≤maxLen) (hc:ck=none∨ck=some cap):VR e (.sl b off len esz ck) (.slice (some ⟨c,o + off,none⟩) len cap)
 | sle {b c o z:Nat} (off esz o':Nat) (h:e b=some (c,o,z)):VR e (.sl b off 0 esz none) (.slice (some ⟨c,o',none⟩) 0 0)
 | map {b c o z:Nat} (h:e b=some (c,o,z)):VR e (.map b) (.map (some c))
 | empn (k esz:Nat):VR e (.emp k esz) (.slice none 0 0)
 | emps {k esz c o z cap:Nat} (h:e k=some (c,o,z)) (hz:cap * esz≤z) (hm:cap≤maxLen):VR e (.emp k esz) (.slice (some ⟨c,o,none⟩) 0 cap)
 | we (a:Addr):VR e .we (.slice (some a) 0 0)
 | fn {f:Nat} {xs ys:List SV} {us vs:List Value} (h1:VRs e xs us) (h2:VRs e ys vs):VR e (.fn f xs ys) (.func (.func f) ⟨us⟩ ⟨vs⟩)
 | yld {l c o z:Nat} (h:e l=some (c,o,z)):VR e (.yld l) (.func (.yield c) #[] #[])
 | nilp:VR e .nilp (.pointer none)
 | nils:VR e .nils (.slice none 0 0)
 | nilm:VR e .nilm (.map none)
 | nilf:VR e .nilf .nilFunc
 | nili:VR e .nili .nilIface
 | iface {t:Nat} {v:SV} {u:Value} (h:VR e v u):VR e (.iface t v) (.iface t u)
 | agg {cs:List SV} {us:List Value} (h:VRs e cs us):VR e (.agg cs) (.agg ⟨us⟩)
 | tup {cs:List SV} {us:List Value} (h:VRs e cs us):VR e (.tup cs) (.tuple ⟨us⟩)
inductive VRs (e:Env):List SV→List Value→Prop
 | nil:VRs e [] []
 | cons {v:SV} {u:Value} {vs:List SV} {us:List Value} (h:VR e v u) (t:VRs e vs us):VRs e (v :: vs) (u :: us)
end
mutual
theorem VR.mono {e e':Env} (hl:e.le e'):∀ {v:SV} {u:Value},VR e v u→VR e' v u
 | _,_,.bool b=>.bool b
 | _,_,.int k n=>.int k n
 | _,_,.str s=>.str s
 | _,_,.ptr h=>.ptr (hl _ _ h)
 | _,_,.sl h h1 h2 h3 h4=>.sl (hl _ _ h) h1 h2 h3 h4
 | _,_,.sle o z a h=>.sle o z a (hl _ _ h)
 | _,_,.map h=>.map (hl _ _ h)
 | _,_,.empn k z=>.empn k z
 | _,_,.emps h h1 h2=>.emps (hl _ _ h) h1 h2
 | _,_,.we a=>.we a
 | _,_,.fn h1 h2=>.fn (VRs.mono hl h1) (VRs.mono hl h2)
 | _,_,.yld h=>.yld (hl _ _ h)
 | _,_,.nilp=>.nilp
 | _,_,.nils=>.nils
 | _,_,.nilm=>.nilm
 | _,_,.nilf=>.nilf
 | _,_,.nili=>.nili
 | _,_,.iface h=>.iface (VR.mono hl h)
 | _,_,.agg h=>.agg (VRs.mono hl h)
 | _,_,.tup h=>.tup (VRs.mono hl h)
theorem VRs.mono {e e':Env} (hl:e.le e'):∀ {v:List SV} {u:List Value},VRs e v u→VRs e' v u
 | _,_,.nil=>.nil
 | _,_,.cons h t=>.cons (VR.mono hl h) (VRs.mono hl t)
end
theorem VRs.length {e:Env}:∀ {vs:List SV} {us:List Value},VRs e vs us→vs.length=us.length
 | _,_,.nil=>rfl
 | _,_,.cons _ t=>by simp [t.length]
theorem VRs.at {e:Env}:∀ {vs:List SV} {us:List Value} (h:VRs e vs us) (j:Nat) {v:SV},vs[j]?=some v→∃ u,us[j]?=some u∧VR e v u
 | _,_,.nil,j,v,h=>by simp at h
 | _,_,.cons h t,0,v,hj=>by simp at hj;subst hj;exact ⟨_,rfl,h⟩
 | _,_,.cons h t,j + 1,v,hj=>by simp at hj;simpa using t.at j hj
theorem VRs.of_at {e:Env}:∀ {vs:List SV} {us:List Value},vs.length=us.length→(∀ (j:Nat) v u,vs[j]?=some v→us[j]?=some u→VR e v u)→VRs e vs us
 | [],[],_,_=>.nil
 | v :: vs,u :: us,hl,h=>.cons (h 0 v u rfl rfl) (VRs.of_at (by simpa using hl) fun j a b h1 h2=>h (j + 1) a b (by simpa using h1) (by simpa using h2))
 | [],_ :: _,hl,_=>by simp at hl
 | _ :: _,[],hl,_=>by simp at hl
theorem VRs.append {e:Env}:∀ {vs:List SV} {us:List Value} {vs2:List SV} {us2:List Value},VRs e vs us→VRs e vs2 us2→VRs e (vs++vs2) (us++us2)
 | _,_,_,_,.nil,k=>k
 | _,_,_,_,.cons h t,k=>.cons h (t.append k)
theorem VRs.take {e:Env}:∀ {vs:List SV} {us:List Value} (n:Nat),VRs e vs us→VRs e (vs.take n) (us.take n)
 | _,_,0,_=>by simp;exact .nil
 | _,_,n + 1,.nil=>by simp;exact .nil
 | _,_,n + 1,.cons h t=>by simp;exact .cons h (t.take n)
theorem VRs.drop {e:Env}:∀ {vs:List SV} {us:List Value} (n:Nat),VRs e vs us→VRs e (vs.drop n) (us.drop n)
 | _,_,0,h=>h
 | _,_,n + 1,.nil=>.nil
 | _,_,n + 1,.cons h t=>t.drop n
def SV.one:SV→Bool
 | .agg _=>false
 | .tup _=>false
 | _=>true
def SV.cs:SV→List SV
 | .agg cs=>cs
 | v=>[v]
theorem VR.one {e:Env} {v:SV} {u:Value} (h:VR e v u) (h1:v.one=true):u.oneCell'=true:=by
 cases h<;>first | rfl | (simp [SV.one] at h1)
theorem VR.cells {e:Env} {v:SV} {u:Value} (h:VR e v u):VRs e v.cs u.cells.toList:=by
 cases h with
 | agg h=>exact h
 | _=>refine .cons ?_ .nil;constructor<;>assumption
def sv1:Value→Option SV
 | .bool b=>some (.bool b)
 | .int k n=>some (.int k n)
 | .string s=>some (.str s.data.toList)
 | .pointer none=>some .nilp
 | .slice none 0 0=>some .nils
 | .map none=>some .nilm
 | .nilFunc=>some .nilf
 | .nilIface=>some .nili
 | _=>none
def svs:List Value→Option (List SV)
 | []=>some []
 | v :: t=>match sv1 v with
  | some x=>match svs t with
   | some l=>some (x :: l)
   | none=>none
  | none=>none
def svOf:Value→Option SV
 | .agg cs=>match svs cs.toList with
  | some l=>some (.agg l)
  | none=>none
 | .tuple vs=>match vs.toList with
  | []=>some (.tup [])
  | _=>none
 | v=>sv1 v
theorem sv1_ok {v:Value} {x:SV} (h:sv1 v=some x) (e:Env):VR e x v∧x.one=true:=by
 unfold sv1 at h
 split at h<;>first | (cases h;exact ⟨by constructor,rfl⟩) | cases h
theorem svs_ok (e:Env):∀ {l:List Value} {xs:List SV},svs l=some xs→VRs e xs l∧xs.all SV.one=true
 | [],xs,h=>by simp [svs] at h;subst h;exact ⟨.nil,rfl⟩
 | v :: t,xs,h=>by
  unfold svs at h
  split at h
  ·rename_i x hx
   split at h
   ·rename_i l hl
    cases h
    obtain ⟨h1,h2⟩:=svs_ok e hl
    obtain ⟨h3,h4⟩:=sv1_ok hx e
    exact ⟨.cons h3 h1,by simp [h4];simpa using h2⟩
   ·cases h
  ·cases h
theorem svOf_ok {v:Value} {x:SV} (h:svOf v=some x) (e:Env):VR e x v:=by
 unfold svOf at h
 split at h
 ·rename_i cs
  split at h
  ·rename_i l hl
   cases h
   exact .agg (svs_ok e hl).1
  ·cases h
 ·rename_i vs
  split at h
  ·rename_i hv
   cases h
   obtain ⟨vs⟩:=vs
   simp at hv;subst hv
   exact .tup .nil
  ·cases h
 ·exact (sv1_ok h e).1
def eqB:List UInt8→List UInt8→Bool
 | []=>fun b=>List.casesOn b true (fun _ _=>false)
 | a :: s=>fun b=>List.casesOn b false (fun x t=>cond (Nat.beq a.toNat x.toNat) (eqB s t) false)
theorem eqB_ok:∀ (s t:List UInt8),eqB s t=decide (s=t)
 | [],[]=>rfl
 | [],_ :: _=>rfl
 | _ :: _,[]=>rfl
 | a :: s,b :: t=>by
  show cond (Nat.beq a.toNat b.toNat) (eqB s t) false=_
  rw [eqB_ok s t,beq_dec]
  by_cases h1:a=b<;>by_cases h2:s=t<;>simp [h1,h2,UInt8.toNat_inj]
def kNum (k:IntKind):Nat:=IntKind.casesOn k (nat_lit 0) (nat_lit 1) (nat_lit 2) (nat_lit 3) (nat_lit 4) (nat_lit 5) (nat_lit 6) (nat_lit 7)
def kEq (k j:IntKind):Bool:=Nat.beq (kNum k) (kNum j)
theorem kEq_ok {k j:IntKind} (h:kEq k j=true):k=j:=by cases k<;>cases j<;>first | rfl | cases h
def eqI (a b:Int):Bool:=Int.casesOn a (fun m=>Int.casesOn b (fun n=>Nat.beq m n) (fun _=>false)) (fun m=>Int.casesOn b (fun _=>false) (fun n=>Nat.beq m n))
theorem eqI_eq (a b:Int):eqI a b=(a == b):=by
 cases a with
 | ofNat m=>cases b with
  | ofNat n=>show Nat.beq m n=_;rw [beq_dec,Bool.eq_iff_iff];simp [Int.ofNat_inj]
  | negSucc n=>rfl
 | negSucc m=>cases b with
  | ofNat n=>rfl
  | negSucc n=>show Nat.beq m n=_;rw [beq_dec,Bool.eq_iff_iff];simp [Int.negSucc_inj]
def optEq (a b:Option Nat):Bool:=match a with
 | none=>match b with
  | none=>true
  | some _=>false
 | some x=>match b with
  | none=>false
  | some y=>Nat.beq x y
theorem optEq_ok {a b:Option Nat} (h:optEq a b=true):a=b:=by
 cases a<;>cases b<;>first | rfl | cases h | exact congrArg some (Nat.eq_of_beq_eq_true h)
def fuelL:Nat:=200
def beqL (q:SV→SV→Bool) (f:Nat):List SV→List SV→Bool :=
 Nat.rec (fun _ _=>false) (fun _ ih a b=>List.casesOn a (List.casesOn b true (fun _ _=>false)) (fun x s=>List.casesOn b false (fun y t=>cond (q x y) (ih s t) false))) f
def SV.beq1 (q:SV→SV→Bool) (a b:SV):Bool:=match a with
 | .bool x=>match b with | .bool y=>cond x y (not y) | _=>false
 | .int k x=>match b with | .int j y=>cond (kEq k j) (eqI x y) false | _=>false
 | .str s=>match b with | .str t=>eqB s t | _=>false
 | .ptr x o=>match b with | .ptr y p=>cond (Nat.beq x y) (Nat.beq o p) false | _=>false
 | .sl a b' c d e=>match b with | .sl a2 b2 c2 d2 e2=>cond (Nat.beq a a2) (cond (Nat.beq b' b2) (cond (Nat.beq c c2) (cond (Nat.beq d d2) (optEq e e2) false) false) false) false | _=>false
 | .map x=>match b with | .map y=>Nat.beq x y | _=>false
 | .fn f x y=>match b with | .fn g u v=>cond (Nat.beq f g) (cond (beqL q fuelL x u) (beqL q fuelL y v) false) false | _=>false
 | .yld x=>match b with | .yld y=>Nat.beq x y | _=>false
 | .emp x z=>match b with | .emp y u=>cond (Nat.beq x y) (Nat.beq z u) false | _=>false
 | .nilp=>match b with | .nilp=>true | _=>false
 | .nils=>match b with | .nils=>true | _=>false
 | .nilm=>match b with | .nilm=>true | _=>false
 | .nilf=>match b with | .nilf=>true | _=>false
 | .nili=>match b with | .nili=>true | _=>false
 | .we=>false
 | .iface t v=>match b with | .iface u w=>cond (Nat.beq t u) (q v w) false | _=>false
 | .agg x=>match b with | .agg y=>beqL q fuelL x y | _=>false
 | .tup x=>match b with | .tup y=>beqL q fuelL x y | _=>false
def SV.beqN (f:Nat):SV→SV→Bool:=Nat.rec (fun _ _=>false) (fun _ ih a b=>SV.beq1 ih a b) f
def SV.beq (a b:SV):Bool:=SV.beqN (nat_lit 30) a b
theorem beqL_ok {q:SV→SV→Bool} (hq:∀ a b,q a b=true→a=b):∀ (f:Nat) {a b:List SV},beqL q f a b=true→a=b
 | 0,_,_,h=>by cases h
 | f + 1,[],[],_=>rfl
 | f + 1,[],_ :: _,h=>by cases h
 | f + 1,_ :: _,[],h=>by cases h
 | f + 1,x :: s,y :: t,h=>by
  have h':cond (q x y) (beqL q f s t) false=true:=h
  cases hx:q x y with
  | false=>rw [hx] at h';cases h'
  | true=>rw [hx] at h';rw [hq x y hx,beqL_ok hq f h']
theorem cond_and {a b:Bool} (h:cond a b false=true):a=true∧b=true:=by cases a<;>simp_all
theorem beq1_agg {q:SV→SV→Bool} (hq:∀ a b,q a b=true→a=b) {x y:List SV} (h:SV.beq1 q (.agg x) (.agg y)=true):SV.agg x=SV.agg y:=by
 have h2:beqL q fuelL x y=true:=h
 rw [beqL_ok hq fuelL h2]
theorem beq1_tup {q:SV→SV→Bool} (hq:∀ a b,q a b=true→a=b) {x y:List SV} (h:SV.beq1 q (.tup x) (.tup y)=true):SV.tup x=SV.tup y:=by
 have h2:beqL q fuelL x y=true:=h
 rw [beqL_ok hq fuelL h2]
theorem SV.beq1_ok {q:SV→SV→Bool} (hq:∀ a b,q a b=true→a=b) {a b:SV} (h:SV.beq1 q a b=true):a=b:=by
 cases a<;>cases b<;>first
  | rfl
  | (exact absurd (show false=true from h) Bool.false_ne_true)
  | (have h2:=cond_and h;rw [kEq_ok h2.1];have:=h2.2;rw [eqI_eq] at this;rw [eq_of_beq this])
  | (have h2:=cond_and h;rw [Nat.eq_of_beq_eq_true h2.1,Nat.eq_of_beq_eq_true h2.2])
  | (rw [Nat.eq_of_beq_eq_true (h:Nat.beq _ _=true)])
  | (have h2:eqB _ _=true:=h;rw [eqB_ok] at h2;rw [of_decide_eq_true h2])
  | (have h2:=cond_and h;have h3:=cond_and h2.2;have h4:=cond_and h3.2;have h5:=cond_and h4.2;rw [Nat.eq_of_beq_eq_true h2.1,Nat.eq_of_beq_eq_true h3.1,Nat.eq_of_beq_eq_true h4.1,Nat.eq_of_beq_eq_true h5.1,optEq_ok h5.2])
  | (have h2:=cond_and h;have h3:=cond_and h2.2;rw [Nat.eq_of_beq_eq_true h2.1,beqL_ok hq _ h3.1,beqL_ok hq _ h3.2])
  | (have h2:=cond_and h;rw [Nat.eq_of_beq_eq_true h2.1,hq _ _ h2.2])
  | exact beq1_agg hq h
  | exact beq1_tup hq h
  | (rename_i x y;cases x<;>cases y<;>first | rfl | cases h)
theorem SV.beqN_ok:∀ (f:Nat) {a b:SV},SV.beqN f a b=true→a=b
 | 0,_,_,h=>by cases h
 | f + 1,a,b,h=>SV.beq1_ok (fun _ _ h=>SV.beqN_ok f h) h
theorem SV.beq_ok {a b:SV} (h:SV.beq a b=true):a=b:=SV.beqN_ok _ h
end
end Go.Proofs.YtbbokgpklihkoaaGreatDoor.W.E
