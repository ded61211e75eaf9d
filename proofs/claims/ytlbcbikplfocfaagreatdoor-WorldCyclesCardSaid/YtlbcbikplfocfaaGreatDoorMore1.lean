/- CoH CoG CoI -/
import Derived.Test.YtlbcbikplfocfaaGreatDoorMore0
import Derived.Test.YtlbcbikplfocfaaGreatDoorEvB
import Derived.Test.YtlbcbikplfocfaaGreatDoorEvR2
import Derived.Test.YtlbcbikplfocfaaGreatDoorObjD
import Derived.Test.YtlbcbikplfocfaaGreatDoorPart0
import Derived.Test.YtlbcbikplfocfaaGreatDoorPart1
import Derived.Test.YtlbcbikplfocfaaGreatDoorPart10
import Derived.Test.YtlbcbikplfocfaaGreatDoorPart11
import Derived.Test.YtlbcbikplfocfaaGreatDoorPart12
import Derived.Test.YtlbcbikplfocfaaGreatDoorPart13
import Derived.Test.YtlbcbikplfocfaaGreatDoorPart14
import Derived.Test.YtlbcbikplfocfaaGreatDoorPart15
import Derived.Test.YtlbcbikplfocfaaGreatDoorPart16
import Derived.Test.YtlbcbikplfocfaaGreatDoorPart17
import Derived.Test.YtlbcbikplfocfaaGreatDoorPart18
import Derived.Test.YtlbcbikplfocfaaGreatDoorPart19
import Derived.Test.YtlbcbikplfocfaaGreatDoorPart2
import Derived.Test.YtlbcbikplfocfaaGreatDoorPart20
import Derived.Test.YtlbcbikplfocfaaGreatDoorPart21
import Derived.Test.YtlbcbikplfocfaaGreatDoorPart22
import Derived.Test.YtlbcbikplfocfaaGreatDoorPart24
import Derived.Test.YtlbcbikplfocfaaGreatDoorPart25
import Derived.Test.YtlbcbikplfocfaaGreatDoorPart26
import Derived.Test.YtlbcbikplfocfaaGreatDoorPart4
import Derived.Test.YtlbcbikplfocfaaGreatDoorPart6
import Derived.Test.YtlbcbikplfocfaaGreatDoorPart7
import Derived.Test.YtlbcbikplfocfaaGreatDoorPart8
import Derived.Test.YtlbcbikplfocfaaGreatDoorPart9
set_option linter.unusedVariables false
set_option linter.unusedSimpArgs false
namespace Go.Proofs.YtlbcbikplfocfaaGreatDoor.W
section
open Go.RowKit
def Que (W:World) (base:Nat) (v:Value) (l:List Int):Prop :=
 (v=.slice none 0 0∧l=[])∨∃ g o cap arr,v=.slice (some ⟨g,o,none⟩) l.length cap∧base≤g∧W.heap[g]?=some (.cells arr 2 (0,0))∧l.length≤cap∧cap≤maxLen∧o + cap≤arr.size∧∀ (j:Nat) (n:Int),l[j]?=some n→arr[o + j]?=some (.int .i64 n)
theorem Que.of {W:World} {base:Nat} {v:Value} {l:List Int} (h:Own W base v l):Que W base v l:=by
 rcases h.2 with ⟨rfl,hz⟩ | ⟨g,cap,cur,rfl,h0,hg,h1,h2,h3,h4⟩
 ·exact .inl ⟨rfl,List.eq_nil_of_length_eq_zero hz⟩
 ·refine .inr ⟨g,0,cap,cur,rfl,h0,hg,h1,h2,by omega,fun j n hj=>?_⟩
  have hlt:=(List.getElem?_eq_some_iff.1 hj).1
  have h5:=congrArg (fun l=>l[j]?) h4
  simp only [ints,List.getElem?_map,hj,Option.map_some] at h5
  rw [List.getElem?_take_of_lt (by omega)] at h5
  rw [Nat.zero_add,← Array.getElem?_toList];exact h5
theorem Que.own {W:World} {base:Nat} {v:Value} {l:List Int} (h:Que W base v l):∀ b,v.ownBlock=some b→base≤b∧b < W.heap.size:=by
 intro b hb
 rcases h with ⟨rfl,-⟩ | ⟨g,o,cap,arr,rfl,h0,hg,-⟩
 ·cases hb
 ·cases hb;exact ⟨h0,(zN hg).1⟩
theorem Que.keep {W W':World} {base:Nat} {v:Value} {l:List Int} (h:Que W base v l) (hk:∀ b,v.ownBlock=some b→W'.heap[b]?=W.heap[b]?):Que W' base v l :=
 h.elim .inl fun ⟨g,o,cap,arr,e,h0,hg,r⟩=>.inr ⟨g,o,cap,arr,e,h0,(hk g (by rw [e];rfl)).trans hg,r⟩
theorem Que.bl {W W':World} {base:Nat} {v:Value} {l:List Int} (h:Que W base v l) (hb:Bl W W'):Que W' base v l:=h.keep fun b hb2=>hb.at (h.own b hb2).2
theorem Que.form {W:World} {base:Nat} {v:Value} {l:List Int} (h:Que W base v l):∃ a c,v=.slice a l.length c:=by
 rcases h with ⟨rfl,rfl⟩ | ⟨g,o,cap,arr,rfl,-⟩
 ·exact ⟨_,_,rfl⟩
 ·exact ⟨_,_,rfl⟩
theorem Que.front {W:World} {base:Nat} {v:Value} {n:Int} {t:List Int} (h:Que W base v (n :: t)) :
  ∃ g o cap,v=.slice (some ⟨g,o,none⟩) (t.length + 1) cap∧t.length + 1≤cap∧W.cell? ⟨g,o,none⟩=some (.int .i64 n)∧base≤g ∧
   (cap=1→Que W base (.slice (some ⟨g,o,none⟩) 0 0) t)∧(cap≠1→Que W base (.slice (some ⟨g,o + 1,none⟩) t.length (cap - 1)) t):=by
 rcases h with ⟨-,e⟩ | ⟨g,o,cap,arr,rfl,h0,hg,h1,h2,h3,h4⟩
 ·cases e
 ·rw [List.length_cons] at h1
  refine ⟨g,o,cap,by rw [List.length_cons],h1,?_,h0,fun hc=>?_,fun hc=>?_⟩
  ·rw [cell_of hg];exact h4 0 n rfl
  ·have ht:t=[]:=List.eq_nil_of_length_eq_zero (by omega)
   subst ht
   exact .inr ⟨g,o,0,arr,rfl,h0,hg,Nat.le_refl _,Nat.zero_le _,by omega,fun j n hj=>by simp at hj⟩
  ·exact .inr ⟨g,o + 1,cap - 1,arr,rfl,h0,hg,by omega,by omega,by omega,fun j m hj=>by
    have:=h4 (j + 1) m (by simpa using hj)
    rw [Nat.add_assoc,Nat.add_comm 1 j];exact this⟩
theorem Que.app {W:World} {base:Nat} {v:Value} {l:List Int} (hbs:base≤W.heap.size) (h:Que W base v l) (n:Int) (hl:l.length≤4398046511104) :
  ∃ v' W',(∀ ty,(Builtin.append_ #[156,156] ty #[v,.slice (some ⟨W.heap.size,0,none⟩) 1 1]).run Tryz.prog (W.alloc (.cells #[.int .i64 n] 2))=.ok v' W') ∧
   Que W' base v' (l++[n])∧Below base W W'∧W.heap.size < W'.heap.size∧(∀ b,b < W.heap.size→v.ownBlock≠some b→W'.heap[b]?=W.heap[b]?)∧(∀ b,v'.ownBlock=some b→v.ownBlock=some b∨W.heap.size≤b):=by
 obtain ⟨i0,hi,hz0,hz1,hz2⟩:=info_parts Tryz.infoI
 rcases h with ⟨rfl,rfl⟩ | ⟨g,o,cap,arr,rfl,h0,hg,h1,h2,h3,h4⟩
 ·obtain ⟨g',cap',W',e1,e2,e3,e4,-,e5⟩:=Own.appB hbs (Own.nil W base) n hl
  refine ⟨_,W',e1,Que.of e2,e3,e4,fun b q1 q2=>(e5 b q1 q2).1,fun b hb=>?_⟩
  cases hb
  by_cases hlt:g' < W.heap.size
  ·exact absurd rfl (e5 g' hlt (fun h=>by cases h)).2
  ·exact .inr (by show W.heap.size≤g';omega)
 ·have hnews:∀ j u,[Value.int .i64 n][j]?=some u→(W.alloc (.cells #[.int .i64 n] 2)).cell? ((⟨W.heap.size,0,none⟩:Addr).add j)=some u:=by
   intro j u h;rw [Addr.add_lit,Nat.zero_add,cell_of (MapKept.heap_alloc W _).1];simpa using h
  have hgl:=(zN hg).1
  have hgA:(W.alloc (.cells #[.int .i64 n] 2)).heap[g]?=some (.cells arr 2 (0,0)):=(Below.heap_alloc _ _ _ hgl).trans hg
  by_cases hroom:l.length + 1≤cap
  ·have hlt:o + l.length < arr.size:=by omega
   have hr:=fun ty=>run_append_room_cells (P:=Tryz.prog) (W.alloc (.cells #[.int .i64 n] 2)) 156 ty 2 i0 Tryz.underlying156 hi g o l.length cap ⟨W.heap.size,0,none⟩ 1 1 [.int .i64 n] (by rw [hz1];rfl) hnews (by intro u hu;simp at hu;rw [hu];rfl) hroom
    (fun j hj=>by
     simp at hj;subst hj
     rw [hz1,Nat.mul_one,Nat.add_zero,cell_of hgA];simp [hlt]) (fun j hj=>by simp [World.frozen?,hgA])
   rw [hz1,Nat.mul_one] at hr
   have hset:((W.alloc (.cells #[.int .i64 n] 2)).setCells g (o + l.length) [.int .i64 n])=(W.alloc (.cells #[.int .i64 n] 2)).setCell ⟨g,o + l.length,none⟩ (.int .i64 n):=rfl
   rw [hset] at hr
   refine ⟨_,_,hr,.inr ⟨g,o,cap,arr.setIfInBounds (o + l.length) (.int .i64 n),by simp,h0,heap_setCell_same _ g _ _ _ _ hgA,by simp;omega,h2,by simp;omega,fun j m hj=>?_⟩,⟨rfl,rfl,rfl,by rw [World.size_setCell,zL];omega,fun b hb=>?_⟩,by rw [World.size_setCell,zL];omega,fun b q1 q2=>?_,fun b hb=>.inl (by cases hb;rfl)⟩
   ·rw [Array.getElem?_setIfInBounds]
    by_cases e:l.length=j
    ·subst e
     simp at hj
     rw [if_pos rfl,if_pos hlt,hj]
    ·rw [if_neg (by omega)]
     have hj2:j < l.length:=by have:=(List.getElem?_eq_some_iff.1 hj).1;simp at this;omega
     rw [List.getElem?_append_left hj2] at hj
     exact h4 j m hj
   ·exact (Below.heap_setCell _ _ _ _ (by show b≠g;omega)).trans (Below.heap_alloc _ _ _ (by omega))
   ·exact (Below.heap_setCell _ _ _ _ (fun e=>q2 (by show some g=some b;rw [e]))).trans (Below.heap_alloc _ _ _ q1)
  ·obtain ⟨v',w4,hap,ho,hgrow⟩:=run_append_arg_grows (P:=Tryz.prog) (W.alloc (.cells #[.int .i64 n] 2)) 156 156 2 i0 _ 1 8 Tryz.underlying156 hi hz0 hz1 hz2 rfl (by decide) ⟨g,o,none⟩ l.length cap (ints l) (by simp [ints])
    (fun j u hj=>by
     rw [Addr.add_lit,cell_of hgA]
     simp only [ints,List.getElem?_map] at hj
     cases hc:l[j]? with
     | none=>rw [hc] at hj;cases hj
     | some m=>rw [hc] at hj;cases hj;exact h4 j m hc) ⟨W.heap.size,0,none⟩ 1 1 [.int .i64 n] rfl hnews (by omega) (by unfold maxLen;omega) (by omega)
   have hz:=hgrow.size
   rw [zL] at hz
   have ho2:Own w4 base v' (l++[n]):=by
    have e:(l++[n]).length=l.length + 1:=by simp
    have e2:ints (l++[n])=ints l++[.int .i64 n]:=by simp [ints]
    have h5:w4.ownsRow base 2 1 v' (l.length + 1) (ints l++[.int .i64 n]) :=
     ⟨ho.1,ho.2.elim .inl fun ⟨g,cap,cur,e,h0,r⟩=>.inr ⟨g,cap,cur,e,by rw [zL] at h0;omega,r⟩⟩
    show w4.ownsRow base 2 1 v' (l++[n]).length (ints (l++[n]))
    rw [e,e2];exact h5
   exact ⟨v',w4,fun ty=>hap,Que.of ho2,⟨hgrow.os,hgrow.tape,hgrow.output,by omega,fun b hb=>(hgrow.block b (by rw [zL];omega) (by simp)).trans (Below.heap_alloc _ _ _ (by omega))⟩,by omega,
    fun b q1 q2=>(hgrow.block b (by rw [zL];omega) (by simp)).trans (Below.heap_alloc _ _ _ q1),fun b hb=>.inr (by have:=(ho.lt b hb).1;rw [zL] at this;omega)⟩
end
section
open Go.RowKit
open Go.ChangeMaps (setBlock)
theorem MidM.trans {mb:Nat} {W W1 W2:World} (h:MidM mb W W1) (k:MidM mb W1 W2):MidM mb W W2 :=
 ⟨Nat.le_trans h.size k.size,fun b h1 h2=>(k.oth b (Nat.lt_of_lt_of_le h1 h.size) h2).trans (h.oth b h1 h2)⟩
inductive Reach (h:Hp) (e:List V):Int→Prop
 | base {n:Int}:h.has n=true→0 < occ n e→Reach h e n
 | step {m n:Int}:Reach h e m→n∈h.refsOf (vref m)→Reach h e n
def lft (h:Hp) (e:List V) (n:Int):Int:=if h.has n=true then (occ n h.vals:Int) + occ n e else 0
theorem map_inj {α β:Type} (f:α→β):∀ {l:List α},(l.map f).Nodup→∀ {x y:α},x∈l→y∈l→f x=f y→x=y
 | [],_,_,_,hx,_,_=>by cases hx
 | a :: l,hn,x,y,hx,hy,h=>by
  have hn':f a ∉ l.map f∧(l.map f).Nodup:=List.nodup_cons.1 hn
  rcases List.mem_cons.1 hx with rfl | hx
  ·rcases List.mem_cons.1 hy with rfl | hy
   ·rfl
   ·exact absurd (List.mem_map.2 ⟨y,hy,h.symm⟩) hn'.1
  ·rcases List.mem_cons.1 hy with rfl | hy
   ·exact (hn'.1 (by rw [← h];exact List.mem_map_of_mem (by assumption))).elim
   ·exact map_inj f hn'.2 hx hy h
structure EntI (es:Array MapEntry) (l:List (Int × Int)):Prop where
 ent:∀ x∈es.toList,∃ n v,x.key=.int .i64 n∧x.val=.int .i64 v∧get l n=some v
 has:∀ n v,get l n=some v→∃ x∈es.toList,x.key=.int .i64 n
 inj:∀ x∈es.toList,∀ y∈es.toList,x.key=y.key→x=y
theorem EntI.of {es:Array MapEntry} {l:List (Int × Int)} (he:Ents (fun n:Int=>Value.int .i64 n) evI es.toList l) (hn:(l.map (·.1)).Nodup):EntI es l:=by
 have hent:∀ x∈es.toList,∃ n v,x.key=.int .i64 n∧x.val=.int .i64 v∧get l n=some v:=by
  intro x hmem
  obtain ⟨i,hi⟩:=List.mem_iff_getElem?.1 hmem
  have hk:=congrArg (fun l=>l[i]?) he.keys
  have hv:=congrArg (fun l=>l[i]?) he.vals
  simp only [List.getElem?_map,hi,Option.map_some] at hk hv
  cases hc:l[i]? with
  | none=>rw [hc] at hk;cases hk
  | some c =>
   rw [hc] at hk hv
   simp only [Option.map_some,Option.some.injEq] at hk hv
   exact ⟨c.1,c.2,hk,hv,mem_get hn (List.mem_of_getElem? hc)⟩
 have hkn:(es.toList.map (·.key)).Nodup:=by
  rw [he.keys]
  have e:l.map (fun p=>Value.int .i64 p.1)=(l.map (·.1)).map fun n=>Value.int .i64 n:=by rw [List.map_map];rfl
  rw [e]
  exact List.Pairwise.map _ (fun a b h e=>h (by injection e)) hn
 refine ⟨hent,fun n v h=>?_,fun x hx y hy h=>map_inj _ hkn hx hy h⟩
 have:(Value.int .i64 n)∈l.map (fun p=>Value.int .i64 p.1):=List.mem_map.2 ⟨_,get_mem h,rfl⟩
 rw [← he.keys] at this
 obtain ⟨x,hx,e⟩:=List.mem_map.1 this
 exact ⟨x,hx,e⟩
structure P3 (es:Array MapEntry) (l:List (Int × Int)) (seen:Array Nat) (lB:List (Int × Bool)) (ws:List Int):Prop where
 iff:∀ n,(get lB n).getD false=true↔n∈ws
 val:∀ n b,get lB n=some b→b=true
 pos:∀ n∈ws,0 < (get l n).getD 0
 cov:∀ x∈es.toList,seen.contains x.born=true→∀ n v,x.key=.int .i64 n→get l n=some v→0 < v→n∈ws
 src:∀ n∈ws,∃ x∈es.toList,seen.contains x.born=true∧x.key=.int .i64 n
 nd:ws.Nodup
theorem P3.start (es:Array MapEntry) (l:List (Int × Int)):P3 es l #[] [] [] :=
 ⟨fun n=>by simp [get],fun n b h=>(by cases h),fun n h=>(by cases h),fun x _ h=>(by simp at h),fun n h=>(by cases h),List.nodup_nil⟩
theorem P3.skip {es:Array MapEntry} {l:List (Int × Int)} {seen:Array Nat} {lB:List (Int × Bool)} {ws:List Int} (p:P3 es l seen lB ws) (hI:EntI es l) (hnd:(es.toList.map (·.born)).Nodup) {x:MapEntry} (hx:x∈(leftOf es seen).toList) {n v:Int} (hk:x.key=.int .i64 n) (hv:get l n=some v) (h0:¬ 0 < v) :
  P3 es l (seen.push x.born) lB ws:=by
 refine ⟨p.iff,p.val,p.pos,fun y hy hc m u hm hu h1=>?_,fun m hm=>?_,p.nd⟩
 ·rw [contains_push] at hc
  rcases Bool.or_eq_true _ _ ▸ hc with h2 | h2
  ·exact p.cov y hy h2 m u hm hu h1
  ·have:y=x:=born_inj hnd hy (mem_left hx).1 (beq_iff_eq.1 h2)
   subst this
   rw [hk] at hm;cases hm
   rw [hv] at hu;cases hu
   exact absurd h1 h0
 ·obtain ⟨y,hy,h1,h2⟩:=p.src m hm
  exact ⟨y,hy,by rw [contains_push,h1];rfl,h2⟩
theorem P3.add {es:Array MapEntry} {l:List (Int × Int)} {seen:Array Nat} {lB:List (Int × Bool)} {ws:List Int} (p:P3 es l seen lB ws) (hI:EntI es l) (hnd:(es.toList.map (·.born)).Nodup) {x:MapEntry} (hx:x∈(leftOf es seen).toList) {n v:Int} (hk:x.key=.int .i64 n) (hv:get l n=some v) (h0:0 < v) :
  P3 es l (seen.push x.born) (put lB n true) (ws++[n]):=by
 refine ⟨fun m=>?_,fun m b hb=>?_,fun m hm=>?_,fun y hy hc m u hm hu h1=>?_,fun m hm=>?_,?_⟩
 ·rw [get_put,List.mem_append,List.mem_singleton]
  by_cases e:n=m
  ·simp [e]
  ·rw [if_neg e,p.iff m]
   exact ⟨.inl,fun h=>h.elim id fun h=>absurd h.symm e⟩
 ·rw [get_put] at hb
  by_cases e:n=m
  ·rw [if_pos e] at hb;cases hb;rfl
  ·rw [if_neg e] at hb;exact p.val m b hb
 ·rcases List.mem_append.1 hm with hm | hm
  ·exact p.pos m hm
  ·rw [List.mem_singleton] at hm;rw [hm,hv];exact h0
 ·rw [contains_push] at hc
  rcases Bool.or_eq_true _ _ ▸ hc with h2 | h2
  ·exact List.mem_append_left _ (p.cov y hy h2 m u hm hu h1)
  ·have:y=x:=born_inj hnd hy (mem_left hx).1 (beq_iff_eq.1 h2)
   subst this
   rw [hk] at hm;cases hm
   exact List.mem_append_right _ (List.mem_singleton.2 rfl)
 ·rcases List.mem_append.1 hm with hm | hm
  ·obtain ⟨y,hy,h1,h2⟩:=p.src m hm
   exact ⟨y,hy,by rw [contains_push,h1];rfl,h2⟩
  ·rw [List.mem_singleton] at hm
   exact ⟨x,(mem_left hx).1,by rw [contains_push];simp,by rw [hm];exact hk⟩
 ·rw [List.nodup_append]
  refine ⟨p.nd,by simp,fun a ha b hb=>?_⟩
  rw [List.mem_singleton] at hb
  rintro rfl
  subst hb
  obtain ⟨y,hy,h1,h2⟩:=p.src a ha
  have:y=x:=hI.inj y hy x (mem_left hx).1 (h2.trans hk.symm)
  subst this
  rw [(mem_left hx).2] at h1;cases h1
theorem P3.fin {es:Array MapEntry} {l:List (Int × Int)} {seen:Array Nat} {lB:List (Int × Bool)} {ws:List Int} (p:P3 es l seen lB ws) (hI:EntI es l) (h0:(leftOf es seen).size=0) (n:Int):n∈ws↔0 < (get l n).getD 0:=by
 refine ⟨p.pos n,fun h=>?_⟩
 cases hg:get l n with
 | none=>rw [hg] at h;simp at h
 | some v =>
  rw [hg] at h
  obtain ⟨x,hx,hk⟩:=hI.has n v hg
  exact p.cov x hx (all_seen es seen h0 x hx) n v hk hg h
theorem nodup_len:∀ {ws ns:List Int},ws.Nodup→(∀ n∈ws,n∈ns)→ws.length≤ns.length
 | [],_,_,_=>Nat.zero_le _
 | a :: t,ns,hn,h=>by
  obtain ⟨h1,h2⟩:=List.nodup_cons.1 hn
  have ha:=h a List.mem_cons_self
  have ih:=nodup_len (ws:=t) (ns:=ns.erase a) h2 fun n hn'=>(List.mem_erase_of_ne (fun e=>h1 (by rw [← e];exact hn'))).2 (h n (List.mem_cons_of_mem _ hn'))
  have h3:=List.length_erase_of_mem ha
  have h4:=List.length_pos_of_mem ha
  rw [List.length_cons];omega
theorem run_clear {P:Program} {T K E:TypeId} {W:World} {b c:Nat} {es:Array MapEntry} (hT:P.underlying T=some (.map K E)) (hb:W.heap[b]?=some (.map es c)) (rt:TypeId) :
  (Builtin.clear_ #[T] rt #[.map (some b)]).run P W=.ok (.tuple #[]) (setMap W b #[] c):=by
 have e0:∀ w,(underlying T).run P w=.ok (.map K E) w:=fun w=>by simp [underlying,go_sem,hT]
 unfold Builtin.clear_
 simp [go_sem,e0,run_getMap hb,run_setMap hb,setMap]
structure P4 (h:Hp) (e:List V) (C:Int→Prop) (lB:List (Int × Bool)) (ws:List Int):Prop where
 val:∀ n b,get lB n=some b→b=true∧h.has n=true
 sound:∀ n,(get lB n).isSome=true→Reach h e n
 base:∀ n,h.has n=true→0 < occ n e→(get lB n).isSome=true
 wsub:∀ n∈ws,(get lB n).isSome=true
 clos:∀ m,(get lB m).isSome=true→m∈ws∨(∀ n∈h.refsOf (vref m),(get lB n).isSome=true)∨C m
 len:ws.length≤lB.length
def InC (h:Hp) (lB:List (Int × Bool)) (n0:Int) (i:Nat):Int→Prop:=fun m=>m=n0∧∀ n∈(h.refsOf (vref n0)).take i,(get lB n).isSome=true
theorem get_keys {lB:List (Int × Bool)} {n:Int} (h:(get lB n).isSome=true):n∈lB.map (·.1):=by
 obtain ⟨b,hb⟩:=Option.isSome_iff_exists.1 h
 exact List.mem_map.2 ⟨_,get_mem hb,rfl⟩
theorem P4.start {h:Hp} {e:List V} {lB:List (Int × Bool)} {ws:List Int} (hiff:∀ n,(get lB n).getD false=true↔n∈ws) (hval:∀ n b,get lB n=some b→b=true) (hws:∀ n,n∈ws↔(h.has n=true∧0 < occ n e)) (hnd:ws.Nodup):P4 h e (fun _=>False) lB ws:=by
 have hs:∀ n,(get lB n).isSome=true↔n∈ws:=fun n=>by
  rw [← hiff n]
  cases hg:get lB n with
  | none=>simp
  | some b=>have:=hval n b hg;subst this;simp
 have hl:ws.length≤lB.length:=by
  have:=nodup_len (ns:=lB.map (·.1)) hnd fun n hn=>get_keys ((hs n).2 hn)
  rwa [List.length_map] at this
 refine ⟨fun n b hb=>⟨hval n b hb,((hws n).1 ((hs n).1 (by rw [hb];rfl))).1⟩,fun n hn=>?_,fun n h1 h2=>(hs n).2 ((hws n).2 ⟨h1,h2⟩),fun n hn=>(hs n).2 hn,fun m hm=>.inl ((hs m).1 hm),hl⟩
 obtain ⟨h1,h2⟩:=(hws n).1 ((hs n).1 hn)
 exact .base h1 h2
theorem P4.pop {h:Hp} {e:List V} {lB:List (Int × Bool)} {n:Int} {t:List Int} (p:P4 h e (fun _=>False) lB (n :: t)):P4 h e (InC h lB n 0) lB t:=by
 refine ⟨p.val,p.sound,p.base,fun m hm=>p.wsub m (List.mem_cons_of_mem _ hm),fun m hm=>?_,by have:=p.len;rw [List.length_cons] at this;omega⟩
 rcases p.clos m hm with h1 | h1 | h1
 ·rcases List.mem_cons.1 h1 with rfl | h1
  ·exact .inr (.inr ⟨rfl,fun n hn=>by simp at hn⟩)
  ·exact .inl h1
 ·exact .inr (.inl h1)
 ·exact h1.elim
theorem P4.skip {h:Hp} {e:List V} {lB:List (Int × Bool)} {n0:Int} {i:Nat} {z:Int} {ws:List Int} (p:P4 h e (InC h lB n0 i) lB ws) (hz:(h.refsOf (vref n0))[i]?=some z) (hs:(get lB z).isSome=true):P4 h e (InC h lB n0 (i + 1)) lB ws:=by
 refine ⟨p.val,p.sound,p.base,p.wsub,fun m hm=>?_,p.len⟩
 rcases p.clos m hm with h1 | h1 | ⟨h1,h2⟩
 ·exact .inl h1
 ·exact .inr (.inl h1)
 ·refine .inr (.inr ⟨h1,fun n hn=>?_⟩)
  rcases (mem_take_succ hz n).1 hn with h3 | rfl
  ·exact h2 n h3
  ·exact hs
theorem refs_has {h:Hp} {m n:Int} (hn:n∈h.refsOf (vref m)):h.has n=true:=by
 unfold Hp.refsOf at hn
 cases ho:h.of (vref m) with
 | none=>rw [ho] at hn;cases hn
 | some o =>
  rw [ho] at hn
  obtain ⟨x,hx,rfl⟩:=List.mem_map.1 hn
  have h1:=(List.mem_filter.1 hx).2
  unfold Hp.of at h1
  by_cases hk:x.k=4
  ·rw [if_pos hk] at h1;exact h1
  ·rw [if_neg hk] at h1;cases h1
theorem P4.push {h:Hp} {e:List V} {lB:List (Int × Bool)} {n0:Int} {i:Nat} {z:Int} {ws:List Int} (p:P4 h e (InC h lB n0 i) lB ws) (hr:Reach h e n0) (hz:(h.refsOf (vref n0))[i]?=some z) (hs:get lB z=none) :
  P4 h e (InC h (put lB z true) n0 (i + 1)) (put lB z true) (ws++[z])∧(put lB z true).length=lB.length + 1:=by
 have hzm:=List.mem_of_getElem? hz
 have hmono:∀ n,(get lB n).isSome=true→(get (put lB z true) n).isSome=true:=fun n hn=>by
  rw [get_put];split
  ·rfl
  ·exact hn
 have hzs:(get (put lB z true) z).isSome=true:=by rw [get_put,if_pos rfl];rfl
 have hlen:(put lB z true).length=lB.length + 1:=by rw [put_new hs];simp
 refine ⟨⟨fun n b hb=>?_,fun n hn=>?_,fun n h1 h2=>hmono n (p.base n h1 h2),fun n hn=>?_,fun m hm=>?_,by rw [List.length_append,hlen];have:=p.len;simp;omega⟩,hlen⟩
 ·rw [get_put] at hb
  by_cases e1:z=n
  ·rw [if_pos e1] at hb;cases hb;subst e1;exact ⟨rfl,refs_has hzm⟩
  ·rw [if_neg e1] at hb;exact p.val n b hb
 ·rw [get_put] at hn
  by_cases e1:z=n
  ·subst e1;exact .step hr hzm
  ·rw [if_neg e1] at hn;exact p.sound n hn
 ·rcases List.mem_append.1 hn with hn | hn
  ·exact hmono n (p.wsub n hn)
  ·rw [List.mem_singleton] at hn;rw [hn];exact hzs
 ·by_cases e1:z=m
  ·subst e1;exact .inl (List.mem_append_right _ (List.mem_singleton.2 rfl))
  ·rw [get_put,if_neg e1] at hm
   rcases p.clos m hm with h1 | h1 | ⟨h1,h2⟩
   ·exact .inl (List.mem_append_left _ h1)
   ·exact .inr (.inl fun n hn=>hmono n (h1 n hn))
   ·refine .inr (.inr ⟨h1,fun n hn=>?_⟩)
    rcases (mem_take_succ hz n).1 hn with h3 | rfl
    ·exact hmono n (h2 n h3)
    ·exact hzs
theorem P4.done {h:Hp} {e:List V} {lB:List (Int × Bool)} {n0:Int} {ws:List Int} (p:P4 h e (InC h lB n0 (h.refsOf (vref n0)).length) lB ws):P4 h e (fun _=>False) lB ws:=by
 refine ⟨p.val,p.sound,p.base,p.wsub,fun m hm=>?_,p.len⟩
 rcases p.clos m hm with h1 | h1 | ⟨h1,h2⟩
 ·exact .inl h1
 ·exact .inr (.inl h1)
 ·rw [List.take_length] at h2;subst h1;exact .inr (.inl h2)
theorem P4.fin {h:Hp} {e:List V} {lB:List (Int × Bool)} (p:P4 h e (fun _=>False) lB []) (n:Int):(get lB n).getD false=true↔Reach h e n:=by
 have hs:(get lB n).getD false=true↔(get lB n).isSome=true:=by
  cases hg:get lB n with
  | none=>simp
  | some b=>have:=(p.val n b hg).1;subst this;simp
 rw [hs]
 clear hs
 refine ⟨p.sound n,fun hr=>?_⟩
 induction hr with
 | base h1 h2=>exact p.base _ h1 h2
 | step _ hn ih =>
  rcases p.clos _ ih with h1 | h1 | h1
  ·cases h1
  ·exact h1 _ hn
  ·exact h1.elim
theorem P4.few {h:Hp} {e:List V} {C:Int→Prop} {lB:List (Int × Bool)} {ws:List Int} (p:P4 h e C lB ws) (hn:(lB.map (·.1)).Nodup):lB.length≤h.nums.length:=by
 have:=nodup_len (ns:=h.nums) hn fun n hn=>(mem_nums h n).2 (by
  obtain ⟨q,hq,rfl⟩:=List.mem_map.1 hn
  exact (p.val q.1 q.2 (mem_get (by assumption) hq)).2)
 rwa [List.length_map] at this
theorem refsOf_len {w:World} {hp:Nat} {h:Hp} {F:Foot} (r:HR w hp h F) (y:Int):(h.refsOf (vref y)).length≤2097152:=by
 cases ho:get h.all y with
 | none =>
  have:h.refsOf (vref y)=[]:=by unfold Hp.refsOf;rw [of_vref,ho]
  rw [this];simp
 | some o =>
  have e1:h.refsOf (vref y)=h.refsIn o.values:=by unfold Hp.refsOf;rw [of_vref,ho];rfl
  rw [e1]
  refine Nat.le_trans (refsIn_len _ _) ?_
  rcases r.case (vref y) with ⟨h0,-⟩ | ⟨L,c,r1,hc,hcn,-,h1,-⟩
  ·rw [of_vref,ho] at h0;cases h0
  ·rw [of_vref,ho] at h1;cases h1
   exact ents_len c.o (r1.obs c hc).few (r1.obs c hc).dict.few.2
def sliceLenV:Value→Nat | .slice _ n _=>n | _=>0
def mapSz (W:World) (b:Nat):Nat:=match W.heap[b]? with | some (.map es _)=>es.size | _=>0
theorem mapSz_of {β:Type} {ev:β→Value} {W:World} {mb:Nat} {l:List (Int × β)} (h:Pm ev W mb l):mapSz W mb=l.length:=by
 obtain ⟨es,c,hm,he,-⟩:=h.mem
 unfold mapSz
 rw [hm]
 have:=he.length
 simpa using this
set_option maxRecDepth 100000 in
set_option maxHeartbeats 16000000 in
theorem marks_any (w:World) (hp:Nat) (h:Hp) (F:Foot) (r:HR w hp h F) (x:Value) (e:List V) (hx:Vs w x e) (hf:Few h e) :
  Calls Tryz.prog 269 #[.pointer (some ⟨hp,0,none⟩),x] w fun en w'=>∃ mb l,en=.returned (.map (some mb))∧w.heap.size≤mb∧Pm evB w' mb l∧(∀ n,h.has n=true→((get l n).getD false=true↔Reach h e n))∧Bl w w':=by
 have hmm:=@run_makeMap Tryz.prog
 have cc:=counts_any w hp h F r x e hx hf
 have hnl:=nums_len h
 have hsm:=hf.sm
 replace hsm:h.all.length≤1048576:=hsm
 obtain ⟨nv,hnv⟩:∃ nv,nv=h.nums.length:=⟨_,rfl⟩
 have hnb:nv≤1048576:=by omega
 have hLb:∀ n,0≤lft h e n∧lft h e n < 4611686018427387904∧(totR h n h.nums:Int)≤lft h e n:=fun n=>by
  have h1:=occ_le n h.vals
  have h2:=occ_le n e
  have h3:=hf.vals
  have h4:=totR_nums hf.cons.nd n
  unfold lft
  rw [h4]
  split<;>omega
 have HH:=zH (And.intro r (And.intro hx (And.intro hf (And.intro hnv hLb))))
 clear r hx hf hnl hsm hnv hLb
 go_enter Tryz.func269,Tryz.ntmps269
 go_wp2_with fail
 refine cc.mono ?_
 rintro en W1 ⟨mb,l0,rfl,hmb,hpm0,hl0,hb1⟩
 have ca:=all_nums W1 hp h F (HH.out.1.bl hb1) HH.out.2.2.1.ne HH.out.2.2.1.sm
 have H1:=zH (And.intro hb1 (And.intro hpm0 (And.intro hl0 hmb)))
 have hmb1:=hpm0.lt
 clear hb1 hpm0 hl0 cc hmb
 go_wp2_with fail
 refine ca.mono ?_
 rintro en W2 ⟨y2,rfl,hox,hb2⟩
 obtain ⟨a,cc,rfl,hxa⟩:=hox.form
 rw [← HH.out.2.2.2.1] at hxa ⊢
 have H2:=zH (And.intro hxa (And.intro (H1.out.1.trans hb2) (H1.out.2.1.bl hb2)))
 clear ca hox hb2 hxa
 go_wp2
 go_loopw [23] (fun v23 wr=>∃ (j:Nat) (l:List (Int × Int)),j≤nv∧v23=.int .i64 j∧Bl w wr∧MidM mb W2 wr∧Pm evI wr mb l∧∀ n,(get l n).getD 0=lft h e n - totR h n (h.nums.take j)) (fun v23 _=>nv - (intOf v23).toNat)
 case atStart=>exact ⟨0,l0,Nat.zero_le _,rfl,H2.out.2.1,MidM.refl _ _,H2.out.2.2,fun n=>by rw [H1.out.2.2.1 n];show lft h e n=lft h e n - ((0:Nat):Int);simp⟩
 case round =>
  obtain ⟨j,l,hj,rfl,hb,hmid,hpm,hl⟩:=hrel
  by_cases hjn:j < nv
  ·obtain ⟨g,rfl,hg1,hg2,hgc⟩:=H2.out.1 (by omega)
   obtain ⟨y,hy⟩:∃ y,h.nums[j]?=some y:=⟨_,List.getElem?_eq_getElem (by rw [← HH.out.2.2.2.1];exact hjn)⟩
   have y0:wr.cell? ⟨g,j,none⟩=some (.int .i64 y):=(hmid.cell hg2 (by omega) j).trans (hgc j y hy)
   have cr:=cref_any wr y
   have HO:=zH (And.intro hb (And.intro hmid (And.intro hpm (And.intro hl hy))))
   clear hb hmid hpm hl hy hgc
   go_wp2_with fail
   refine cr.mono ?_
   rintro en W5 ⟨rfl,hb5⟩
   have cn:=refs_any W5 hp h F ((HH.out.1.bl HO.out.1).bl hb5) (vref y)
   have hs5:=hb5.sz
   have HB5:=zH hb5
   clear hb5 cr
   go_wp2_with fail
   refine cn.mono ?_
   rintro en W6 ⟨y6,rfl,ho6,hb6⟩
   obtain ⟨a6,c6,rfl,hxa6⟩:=ho6.form
   obtain ⟨nr,hnr⟩:∃ nr,nr=(h.refsOf (vref y)).length:=⟨_,rfl⟩
   rw [← hnr] at hxa6 ⊢
   have hnr2:nr≤2097152:=by rw [hnr];exact refsOf_len HH.out.1 y
   have H6:=zH (And.intro hxa6 (And.intro hnr (And.intro (HO.out.1.trans (HB5.out.trans hb6)) (And.intro (HO.out.2.1.bl (HB5.out.trans hb6)) (HO.out.2.2.1.bl (HB5.out.trans hb6))))))
   have hmb5:mb < W5.heap.size:=(HO.out.2.2.1.bl HB5.out).lt
   clear hb6 ho6 cn hxa6 hnr
   go_wp2
   go_loopw [32] (fun v32 wr3=>∃ (i:Nat) (l:List (Int × Int)),i≤nr∧v32=.int .i64 i∧Bl w wr3∧MidM mb W6 wr3∧Pm evI wr3 mb l∧∀ n,(get l n).getD 0=lft h e n - totR h n (h.nums.take j) - ((h.refsOf (vref y)).take i).count n) (fun v32 _=>nr - (intOf v32).toNat)
   case atStart=>exact ⟨0,l,Nat.zero_le _,rfl,H6.out.2.2.1,MidM.refl _ _,H6.out.2.2.2.2,fun n=>by rw [HO.out.2.2.2.1 n];simp⟩
   case round =>
    rename World=>wr3
    obtain ⟨i,l3,hi,rfl,hb3,hmid3,hpm3,hl3⟩:=hrel
    by_cases hin:i < nr
    ·obtain ⟨g6,rfl,hg61,hg62,hgc6⟩:=H6.out.1 (by omega)
     obtain ⟨z,hz⟩:∃ z,(h.refsOf (vref y))[i]?=some z:=⟨_,List.getElem?_eq_getElem (by rw [← H6.out.2.1];exact hin)⟩
     have z0:wr3.cell? ⟨g6,i,none⟩=some (.int .i64 z):=(hmid3.cell hg62 (by omega) i).trans (hgc6 i z hz)
     obtain ⟨q,hq⟩:∃ q,q=(get l3 z).getD 0:=⟨_,rfl⟩
     have lk:=lookI hpm3 z (rfl:wr3.heap[mb]?=wr3.heap[mb]?)
     rw [← hq] at lk
     obtain ⟨es',c',hput,hpm7⟩:=putI hpm3 z (wrap64 (q - 1))
     have mu:=hput wr3 rfl
     have hw:wrap64 (q - 1)=q - 1:=by
      have h1:=HH.out.2.2.2.2 z
      have h2:=totR_le h z h.nums (j + 1)
      have h3:=totR_succ (h:=h) HO.out.2.2.2.2 z
      have h4:=count_take_le (h.refsOf (vref y)) i z
      have h5:=hl3 z
      rw [← hq] at h5
      unfold wrap64;omega
     have hl4:∀ n,(get (put l3 z (wrap64 (q - 1))) n).getD 0=lft h e n - totR h n (h.nums.take j) - ((h.refsOf (vref y)).take (i + 1)).count n:=fun n=>by
      rw [hw,get_put,count_succ hz n]
      by_cases e1:z=n
      ·subst e1
       rw [if_pos rfl,if_pos rfl,Option.getD_some,hq,hl3];omega
      ·rw [if_neg e1,if_neg e1,hl3 n];omega
     have HR3:=zH (And.intro (hb3.setMap H1.out.2.2.2 es' c') (And.intro (hmid3.set es' c') (And.intro (hpm7 wr3 hpm3.lt) hl4)))
     clear hb3 hmid3 hpm3 hl3 hz hgc6 hq hput hpm7 hw hl4
     go_wp2
     go_round
     case rel=>exact ⟨i + 1,_,by omega,by go_num,HR3.out⟩
     case measure=>simp [intOf];omega
    ·obtain rfl:i=nr:=by omega
     have hl4:∀ n,(get l3 n).getD 0=lft h e n - totR h n (h.nums.take (j + 1)):=fun n=>by
      rw [hl3 n,H6.out.2.1,List.take_length,totR_succ (h:=h) HO.out.2.2.2.2 n];omega
     have HR3:=zH (And.intro hb3 (And.intro (H6.out.2.2.2.1.trans hmid3) (And.intro hpm3 hl4)))
     clear hb3 hmid3 hpm3 hl3 hl4
     go_wp2
     go_round
     case rel=>exact ⟨j + 1,_,by omega,by go_num,HR3.out⟩
     case measure=>simp [intOf];omega
  ·obtain rfl:j=nv:=by omega
   have hl1:∀ n,(get l n).getD 0=if h.has n=true then (occ n e:Int) else 0:=fun n=>by
    rw [hl n,HH.out.2.2.2.1,List.take_length,totR_nums HH.out.2.2.1.cons.nd n]
    unfold lft
    split<;>omega
   obtain ⟨es,clock,hm,hes,hbn⟩:=hpm.mem
   have hI:=EntI.of hes hpm.nd
   have hmw:=hpm.lt
   have hw0:=hb.sz
   have hrg:=run_range_map (P:=Tryz.prog) (wr.alloc (.map #[] 0)) 76 2 3 mb es clock Tryz.underlying76 ((Below.heap_alloc _ _ _ hmw).trans hm)
   rw [zL] at hrg
   have H3:=zH (And.intro hb (And.intro hm (And.intro hbn (And.intro hI hl1))))
   clear hb hmid hpm hl hl1 hm hes hbn hI H2
   go_wp2
   go_loopw [11] (fun v11 wr3=>∃ (seen:Array Nat) (lB:List (Int × Bool)) (ws:List Int),Bl w wr3∧wr3.heap[wr.heap.size + 1]?=some (.mapIter (some mb) clock seen clock)∧wr3.heap[mb]?=some (.map es clock)∧Pm evB wr3 wr.heap.size lB∧Own wr3 (wr.heap.size + 2) v11 ws∧P3 es l seen lB ws) (fun _ wr3=>(leftOf es (wr3.iterSeen (wr.heap.size + 1))).size)
   case atStart =>
    refine ⟨#[],[],[],(H3.out.1.al' _).al' _,?_,?_,(Pm.new _).bl (Bl.al _ _),Own.nil _ _,P3.start _ _⟩
    ·have:=(MapKept.heap_alloc (wr.alloc (.map #[] 0)) (.mapIter (some mb) clock #[] clock)).1
     rw [zL] at this
     exact this
    ·exact (Below.heap_alloc _ _ _ (by rw [zL];omega)).trans ((Below.heap_alloc _ _ _ hmw).trans H3.out.2.1)
   case round =>
    rename World=>wr3
    obtain ⟨seen,lB,ws,hb,hit,hm3,hpB,ho,hp3⟩:=hrel
    have hitl:=(zN hit).1
    rcases run_next_at (P:=Tryz.prog) wr3 0 (wr.heap.size + 1) mb clock clock seen es clock hit hm3 H3.out.2.2.1.1 (Nat.le_refl _) with ⟨h0,hrun⟩ | ⟨x1,he,w1,hw1,hrun⟩
    ·have hnx:∀ ty,(Instr.next (.pointer (some ⟨wr.heap.size + 1,0,none⟩)) false ty).run Tryz.prog wr3=_:=fun _=>hrun
     have hcl:=run_clear (P:=Tryz.prog) Tryz.underlying76 hm3
     obtain ⟨va,vc,rfl,-⟩:=ho.form
     have hws:∀ n,n∈ws↔(h.has n=true∧0 < occ n e):=fun n=>by
      rw [hp3.fin H3.out.2.2.2.1 h0 n,H3.out.2.2.2.2 n]
      cases h.has n<;>simp
     have hbC:Bl w (setMap wr3 mb #[] clock):=hb.setMap H1.out.2.2.2 _ _
     have hpC:Pm evB (setMap wr3 mb #[] clock) wr.heap.size lB:=hpB.keep (setMap_other (by omega) _ _)
     have hoC:Own (setMap wr3 mb #[] clock) (wr.heap.size + 2) (.slice va ws.length vc) ws:=ho.keep fun b hb2=>setMap_other (by have:=(ho.lt b hb2).1;omega) _ _
     have hp4:=P4.start (h:=h) (e:=e) hp3.iff hp3.val hws hp3.nd
     have HE:=zH (And.intro hbC (And.intro hpC (And.intro (Que.of hoC) hp4)))
     clear hb hit hm3 hpB ho hp3 hrun h0 hws hbC hpC hoC hp4
     go_wp2
     go_loopw [11] (fun v11 wr4=>∃ (lB:List (Int × Bool)) (ws:List Int),Bl w wr4∧Pm evB wr4 wr.heap.size lB∧Que wr4 (wr.heap.size + 2) v11 ws∧P4 h e (fun _=>False) lB ws) (fun v11 wr4=>sliceLenV v11 + (j + 1 - mapSz wr4 wr.heap.size))
     case atStart=>exact ⟨lB,ws,HE.out⟩
     case round =>
      rename World=>wr4
      clear HE hcl hnx hrg
      obtain ⟨lB,ws,hb,hpB,hq,hp4⟩:=hrel
      cases ws with
      | nil =>
       obtain ⟨va,vc,rfl⟩:=hq.form
       have HF:=zH (And.intro hw0 (And.intro hpB (And.intro (fun n=>hp4.fin n) hb)))
       clear hb hpB hq hp4
       go_wp2
       go_ret
       exact ⟨_,lB,rfl,HF.out.1,HF.out.2.1,fun n _=>HF.out.2.2.1 n,HF.out.2.2.2⟩
      | cons n t =>
       obtain ⟨g,o,cap,rfl,hcap,q0,hg0,hqa,hqb⟩:=hq.front
       have hmB:=hpB.lt
       have hfw:=hp4.few hpB.nd
       rw [← HH.out.2.2.2.1] at hfw
       have hR:Reach h e n:=hp4.sound n (hp4.wsub n List.mem_cons_self)
       have hgo:=hq.own g rfl
       have cr:=cref_any wr4 n
       have HO:=zH (And.intro hb (And.intro hpB (And.intro hqa (And.intro hqb (And.intro hp4.pop (And.intro hR (And.intro hfw (And.intro (mapSz_of hpB) hgo))))))))
       clear hb hpB hq hp4 hqa hqb hfw hR hgo
       by_cases hc1:cap=1
       ·have ht:t=[]:=List.eq_nil_of_length_eq_zero (by omega)
        subst ht
        subst hc1
        clear hcap
        go_wp2_with fail
        refine cr.mono ?_
        rintro en W5 ⟨rfl,hb5⟩
        have cn:=refs_any W5 hp h F ((HH.out.1.bl HO.out.1).bl hb5) (vref n)
        have HB5:=zH hb5
        clear hb5 cr
        go_wp2_with fail
        refine cn.mono ?_
        rintro en W6 ⟨y6,rfl,ho6,hb6⟩
        obtain ⟨a6,c6,rfl,hxa6⟩:=ho6.form
        obtain ⟨nr,hnr⟩:∃ nr,nr=(h.refsOf (vref n)).length:=⟨_,rfl⟩
        rw [← hnr] at hxa6 ⊢
        have hnr2:nr≤2097152:=by rw [hnr];exact refsOf_len HH.out.1 n
        have hb46:=HB5.out.trans hb6
        have hs56:=hb6.sz
        have hs45:=HB5.out.sz
        have H6:=zH (And.intro hxa6 (And.intro hnr (And.intro (HO.out.1.trans hb46) (And.intro (HO.out.2.1.bl hb46) (And.intro hb46 (hb6.sz))))))
        clear hb6 ho6 cn hxa6 hnr hb46
        go_wp2
        go_loopw [11,72] (fun v11 v72 wr5=>∃ (i:Nat) (lC:List (Int × Bool)) (us:List Int),i≤nr∧v72=.int .i64 i∧Bl w wr5∧Pm evB wr5 wr.heap.size lC∧Que wr5 (wr.heap.size + 2) v11 us∧P4 h e (InC h lC n i) lC us∧us.length + (j + 1 - lC.length)≤0 + (j + 1 - lB.length) ∧
         W6.heap.size≤wr5.heap.size∧(∀ b,W5.heap.size≤b→b < W6.heap.size→wr5.heap[b]?=W6.heap[b]?)∧(∀ b,v11.ownBlock=some b→b < W5.heap.size∨W6.heap.size≤b)) (fun _ v72 _=>nr - (intOf v72).toNat)
        case atStart =>
         exact ⟨0,lB,[],Nat.zero_le _,rfl,H6.out.2.2.1,H6.out.2.2.2.1,(HO.out.2.2.1 trivial).bl H6.out.2.2.2.2.1,HO.out.2.2.2.2.1,by simp,Nat.le_refl _,fun _ _ _=>rfl,fun b hb=>by cases hb;have:=HO.out.2.2.2.2.2.2.2.2.2;exact .inl (by show g < _;omega)⟩
        case round =>
         rename World=>wr5
         obtain ⟨i,lC,us,hi,rfl,hb,hpC,hq,hp4,hms,hsz,hblk,hdis⟩:=hrel
         by_cases hin:i < nr
         ·obtain ⟨g6,rfl,hg61,hg62,hgc6⟩:=H6.out.1 (by omega)
          obtain ⟨z,hz⟩:∃ z,(h.refsOf (vref n))[i]?=some z:=⟨_,List.getElem?_eq_getElem (by rw [← H6.out.2.1];exact hin)⟩
          have z0:wr5.cell? ⟨g6,i,none⟩=some (.int .i64 z):=(World.cell?_of_block (w:=W6) (a:=⟨g6,i,none⟩) (hblk g6 hg61 hg62)).trans (hgc6 i z hz)
          have lk:=lookB hpC z (rfl:wr5.heap[wr.heap.size]?=wr5.heap[wr.heap.size]?)
          obtain ⟨va,vc,rfl⟩:=hq.form
          cases hgz:get lC z with
          | some b =>
           have hbt:=(hp4.val z b hgz).1
           subst hbt
           rw [hgz] at lk
           have hp5:=hp4.skip hz (by rw [hgz];rfl)
           have HR:=zH (And.intro hb (And.intro hpC (And.intro hq (And.intro hp5 (And.intro hms (And.intro hsz (And.intro hblk hdis)))))))
           clear hb hpC hq hp4 hms hblk hdis hz hgz hgc6 hp5
           go_wp2
           go_round
           case rel=>exact ⟨i + 1,lC,us,by omega,by go_num,HR.out⟩
           case measure=>simp [intOf];omega
          | none =>
           rw [hgz] at lk
           obtain ⟨hp5,hlen5⟩:=hp4.push HO.out.2.2.2.2.2.1 hz hgz
           obtain ⟨es',c',hput,hpm7⟩:=putBl hpC z true
           have mu:=hput wr5 rfl
           obtain ⟨W7,hW7⟩:∃ W7,W7=setMap wr5 wr.heap.size es' c':=⟨_,rfl⟩
           rw [← hW7] at mu
           have hoth:∀ b,b≠wr.heap.size→W7.heap[b]?=wr5.heap[b]?:=fun b hb=>by rw [hW7];exact setMap_other hb _ _
           have hs7:W7.heap.size=wr5.heap.size:=by rw [hW7,setMap_size]
           have hb7:Bl w W7:=by rw [hW7];exact hb.setMap hw0 _ _
           have hp7:Pm evB W7 wr.heap.size (put lC z true):=by rw [hW7];exact hpm7 wr5 hpC.lt
           have hq7:Que W7 (wr.heap.size + 2) (.slice va us.length vc) us:=hq.keep fun b hb2=>hoth b (by have:=(hq.own b hb2).1;omega)
           have hfw5:=hp5.few hp7.nd
           rw [← HH.out.2.2.2.1] at hfw5
           have hul:us.length≤4398046511104:=by have:=hp4.len;omega
           have hqs:=hq.own
           have hbs7:wr.heap.size + 2≤W7.heap.size:=by have:=hb.sz;omega
           obtain ⟨v8,W8,hap,hq8,hb8,hs8,hk8,hd8⟩:=Que.app hbs7 hq7 z hul
           have ap:=hap 156
           have HR:=zH (show Bl w W8∧Pm evB W8 wr.heap.size (put lC z true)∧Que W8 (wr.heap.size + 2) v8 (us++[z])∧P4 h e (InC h (put lC z true) n (i + 1)) (put lC z true) (us++[z])∧(us++[z]).length + (j + 1 - (put lC z true).length)≤0 + (j + 1 - lB.length)∧W6.heap.size≤W8.heap.size ∧
             (∀ b,W5.heap.size≤b→b < W6.heap.size→W8.heap[b]?=W6.heap[b]?)∧(∀ b,v8.ownBlock=some b→b < W5.heap.size∨W6.heap.size≤b) from
            ⟨Below.trans hb7 (Below.mono hb8 (by omega)),hp7.keep (hb8.block _ (by omega)),hq8,hp5,by rw [List.length_append,hlen5] at *;simp;omega,by omega,fun b q1 q2=>by
             rw [hk8 b (by omega) (fun e=>by have:=hdis b e;omega),hoth b (by omega)];exact hblk b q1 q2,fun b hb2=>by
             rcases hd8 b hb2 with h1 | h1
             ·exact hdis b h1
             ·exact .inr (by omega)⟩)
           clear hb hpC hq hp4 hms hblk hdis hz hgz hgc6 hp5 hput hpm7 hW7 hoth hb7 hp7 hq7 hap hq8 hb8 hk8 hd8 hqs hlen5
           go_wp2_with (at_builtin;refine wpList_app rfl (.tmp 82) (.tmp 84) 156 rfl (.slice va us.length vc) (.slice (some ⟨W7.heap.size,0,none⟩) 1 1) (by simp [Go.Act.eval]) (by simp [Go.Act.eval]) v8 W8 ap ?_)
           go_round
           case rel=>exact ⟨i + 1,_,_,by omega,by go_num,HR.out⟩
           case measure=>simp [intOf];omega
         ·obtain rfl:i=nr:=by omega
          obtain ⟨va,vc,rfl⟩:=hq.form
          have hp5:P4 h e (fun _=>False) lC us:=by rw [H6.out.2.1] at hp4;exact hp4.done
          have hmz:=mapSz_of hpC
          have HR:=zH (And.intro (And.intro hb (And.intro hpC (And.intro hq hp5))) (And.intro hmz hms))
          clear hb hpC hq hp4 hms hblk hdis hp5 hmz
          go_wp2
          go_roundw
          case rel=>exact ⟨lC,us,HR.out.1⟩
          case measure =>
           have h1:=HR.out.2.1
           have h2:=HR.out.2.2
           have h3:=HO.out.2.2.2.2.2.2.2.1
           have h4:=HO.out.2.2.2.2.2.2.1
           simp [sliceLenV]
           omega
       ·obtain ⟨k,hk⟩:∃ k,k=t.length:=⟨_,rfl⟩
        rw [← hk] at hcap ⊢
        have hc2:1 < cap:=by omega
        have HC:=zH (And.intro hc1 hk)
        clear hc1 hk
        go_wp2_with fail
        refine cr.mono ?_
        rintro en W5 ⟨rfl,hb5⟩
        have cn:=refs_any W5 hp h F ((HH.out.1.bl HO.out.1).bl hb5) (vref n)
        have HB5:=zH hb5
        clear hb5 cr
        go_wp2_with fail
        refine cn.mono ?_
        rintro en W6 ⟨y6,rfl,ho6,hb6⟩
        obtain ⟨a6,c6,rfl,hxa6⟩:=ho6.form
        obtain ⟨nr,hnr⟩:∃ nr,nr=(h.refsOf (vref n)).length:=⟨_,rfl⟩
        rw [← hnr] at hxa6 ⊢
        have hnr2:nr≤2097152:=by rw [hnr];exact refsOf_len HH.out.1 n
        have hb46:=HB5.out.trans hb6
        have hs56:=hb6.sz
        have hs45:=HB5.out.sz
        have H6:=zH (And.intro hxa6 (And.intro hnr (And.intro (HO.out.1.trans hb46) (And.intro (HO.out.2.1.bl hb46) (And.intro hb46 (hb6.sz))))))
        clear hb6 ho6 cn hxa6 hnr hb46
        go_wp2
        go_loopw [11,72] (fun v11 v72 wr5=>∃ (i:Nat) (lC:List (Int × Bool)) (us:List Int),i≤nr∧v72=.int .i64 i∧Bl w wr5∧Pm evB wr5 wr.heap.size lC∧Que wr5 (wr.heap.size + 2) v11 us∧P4 h e (InC h lC n i) lC us∧us.length + (j + 1 - lC.length)≤k + (j + 1 - lB.length) ∧
         W6.heap.size≤wr5.heap.size∧(∀ b,W5.heap.size≤b→b < W6.heap.size→wr5.heap[b]?=W6.heap[b]?)∧(∀ b,v11.ownBlock=some b→b < W5.heap.size∨W6.heap.size≤b)) (fun _ v72 _=>nr - (intOf v72).toNat)
        case atStart =>
         exact ⟨0,lB,t,Nat.zero_le _,rfl,H6.out.2.2.1,H6.out.2.2.2.1,by rw [HC.out.2];exact (HO.out.2.2.2.1 HC.out.1).bl H6.out.2.2.2.2.1,HO.out.2.2.2.2.1,by rw [HC.out.2];exact Nat.le_refl _,Nat.le_refl _,fun _ _ _=>rfl,fun b hb=>by cases hb;have:=HO.out.2.2.2.2.2.2.2.2.2;exact .inl (by show g < _;omega)⟩
        case round =>
         rename World=>wr5
         obtain ⟨i,lC,us,hi,rfl,hb,hpC,hq,hp4,hms,hsz,hblk,hdis⟩:=hrel
         by_cases hin:i < nr
         ·obtain ⟨g6,rfl,hg61,hg62,hgc6⟩:=H6.out.1 (by omega)
          obtain ⟨z,hz⟩:∃ z,(h.refsOf (vref n))[i]?=some z:=⟨_,List.getElem?_eq_getElem (by rw [← H6.out.2.1];exact hin)⟩
          have z0:wr5.cell? ⟨g6,i,none⟩=some (.int .i64 z):=(World.cell?_of_block (w:=W6) (a:=⟨g6,i,none⟩) (hblk g6 hg61 hg62)).trans (hgc6 i z hz)
          have lk:=lookB hpC z (rfl:wr5.heap[wr.heap.size]?=wr5.heap[wr.heap.size]?)
          obtain ⟨va,vc,rfl⟩:=hq.form
          cases hgz:get lC z with
          | some b =>
           have hbt:=(hp4.val z b hgz).1
           subst hbt
           rw [hgz] at lk
           have hp5:=hp4.skip hz (by rw [hgz];rfl)
           have HR:=zH (And.intro hb (And.intro hpC (And.intro hq (And.intro hp5 (And.intro hms (And.intro hsz (And.intro hblk hdis)))))))
           clear hb hpC hq hp4 hms hblk hdis hz hgz hgc6 hp5
           go_wp2
           go_round
           case rel=>exact ⟨i + 1,lC,us,by omega,by go_num,HR.out⟩
           case measure=>simp [intOf];omega
          | none =>
           rw [hgz] at lk
           obtain ⟨hp5,hlen5⟩:=hp4.push HO.out.2.2.2.2.2.1 hz hgz
           obtain ⟨es',c',hput,hpm7⟩:=putBl hpC z true
           have mu:=hput wr5 rfl
           obtain ⟨W7,hW7⟩:∃ W7,W7=setMap wr5 wr.heap.size es' c':=⟨_,rfl⟩
           rw [← hW7] at mu
           have hoth:∀ b,b≠wr.heap.size→W7.heap[b]?=wr5.heap[b]?:=fun b hb=>by rw [hW7];exact setMap_other hb _ _
           have hs7:W7.heap.size=wr5.heap.size:=by rw [hW7,setMap_size]
           have hb7:Bl w W7:=by rw [hW7];exact hb.setMap hw0 _ _
           have hp7:Pm evB W7 wr.heap.size (put lC z true):=by rw [hW7];exact hpm7 wr5 hpC.lt
           have hq7:Que W7 (wr.heap.size + 2) (.slice va us.length vc) us:=hq.keep fun b hb2=>hoth b (by have:=(hq.own b hb2).1;omega)
           have hfw5:=hp5.few hp7.nd
           rw [← HH.out.2.2.2.1] at hfw5
           have hul:us.length≤4398046511104:=by have:=hp4.len;omega
           have hqs:=hq.own
           have hbs7:wr.heap.size + 2≤W7.heap.size:=by have:=hb.sz;omega
           obtain ⟨v8,W8,hap,hq8,hb8,hs8,hk8,hd8⟩:=Que.app hbs7 hq7 z hul
           have ap:=hap 156
           have HR:=zH (show Bl w W8∧Pm evB W8 wr.heap.size (put lC z true)∧Que W8 (wr.heap.size + 2) v8 (us++[z])∧P4 h e (InC h (put lC z true) n (i + 1)) (put lC z true) (us++[z])∧(us++[z]).length + (j + 1 - (put lC z true).length)≤k + (j + 1 - lB.length)∧W6.heap.size≤W8.heap.size ∧
             (∀ b,W5.heap.size≤b→b < W6.heap.size→W8.heap[b]?=W6.heap[b]?)∧(∀ b,v8.ownBlock=some b→b < W5.heap.size∨W6.heap.size≤b) from
            ⟨Below.trans hb7 (Below.mono hb8 (by omega)),hp7.keep (hb8.block _ (by omega)),hq8,hp5,by rw [List.length_append,hlen5] at *;simp;omega,by omega,fun b q1 q2=>by
             rw [hk8 b (by omega) (fun e=>by have:=hdis b e;omega),hoth b (by omega)];exact hblk b q1 q2,fun b hb2=>by
             rcases hd8 b hb2 with h1 | h1
             ·exact hdis b h1
             ·exact .inr (by omega)⟩)
           clear hb hpC hq hp4 hms hblk hdis hz hgz hgc6 hp5 hput hpm7 hW7 hoth hb7 hp7 hq7 hap hq8 hb8 hk8 hd8 hqs hlen5
           go_wp2_with (at_builtin;refine wpList_app rfl (.tmp 82) (.tmp 84) 156 rfl (.slice va us.length vc) (.slice (some ⟨W7.heap.size,0,none⟩) 1 1) (by simp [Go.Act.eval]) (by simp [Go.Act.eval]) v8 W8 ap ?_)
           go_round
           case rel=>exact ⟨i + 1,_,_,by omega,by go_num,HR.out⟩
           case measure=>simp [intOf];omega
         ·obtain rfl:i=nr:=by omega
          obtain ⟨va,vc,rfl⟩:=hq.form
          have hp5:P4 h e (fun _=>False) lC us:=by rw [H6.out.2.1] at hp4;exact hp4.done
          have hmz:=mapSz_of hpC
          have HR:=zH (And.intro (And.intro hb (And.intro hpC (And.intro hq hp5))) (And.intro hmz hms))
          clear hb hpC hq hp4 hms hblk hdis hp5 hmz
          go_wp2
          go_roundw
          case rel=>exact ⟨lC,us,HR.out.1⟩
          case measure =>
           have h1:=HR.out.2.1
           have h2:=HR.out.2.2
           have h3:=HO.out.2.2.2.2.2.2.2.1
           have h4:=HO.out.2.2.2.2.2.2.1
           simp [sliceLenV]
           omega
    ·obtain ⟨va,vc,rfl,-⟩:=ho.form
     obtain ⟨n,v,hkey,hval,hgv⟩:=H3.out.2.2.2.1.ent x1 (mem_left he).1
     have hbw1:Bl wr3 w1:=by rcases hw1 with rfl | rfl;exact Bl.refl _;exact Bl.dr _
     have hlt1:wr.heap.size + 1 < w1.heap.size:=Nat.lt_of_lt_of_le hitl hbw1.sz
     obtain ⟨W,hW⟩:∃ W,W=setBlock w1 (wr.heap.size + 1) (.mapIter (some mb) clock (seen.push x1.born) clock):=⟨_,rfl⟩
     have hbW:Bl w W:=by rw [hW];exact (hb.trans hbw1).setBlock (by omega) _
     have hoth:∀ b,b≠wr.heap.size + 1→W.heap[b]?=w1.heap[b]?:=fun b hb=>by rw [hW];exact setBlock_other hb _
     have hitW:W.heap[wr.heap.size + 1]?=some (.mapIter (some mb) clock (seen.push x1.born) clock):=by rw [hW];exact setBlock_at hlt1 _
     have hmW:W.heap[mb]?=some (.map es clock):=(hoth mb (by omega)).trans ((hbw1.at (zN hm3).1).trans hm3)
     have hpW:Pm evB W wr.heap.size lB:=(hpB.bl hbw1).keep (hoth _ (by omega))
     have hoW:Own W (wr.heap.size + 2) (.slice va ws.length vc) ws:=by
      have h1:=ho.bl hbw1
      exact h1.keep fun b hb2=>hoth b (by have:=(h1.lt b hb2).1;omega)
     have hen:=run_entry_at (P:=Tryz.prog) W (wr.heap.size + 1) mb clock seen es clock x1 hitW hmW (mem_left he).1 H3.out.2.2.1.2
     rw [hkey,hval] at hrun hen
     rw [← hW] at hrun
     have hnx:∀ ty,(Instr.next (.pointer (some ⟨wr.heap.size + 1,0,none⟩)) false ty).run Tryz.prog wr3=_:=fun _=>hrun
     have hWs:wr.heap.size + 2≤W.heap.size:=by rw [hW,setBlock_size];omega
     have HM1:=zH (left_shrinks es seen x1 he)
     have HIT:=zH hit
     by_cases hv:0 < v
     ·have hp4:=hp3.add H3.out.2.2.2.1 H3.out.2.2.1.2 he hkey hgv hv
      obtain ⟨es',c',hput,hpm7⟩:=putBl hpW n true
      have mu:=hput W rfl
      obtain ⟨W5,hW5⟩:∃ W5,W5=setMap W wr.heap.size es' c':=⟨_,rfl⟩
      rw [← hW5] at mu
      have hb5:Bl w W5:=by rw [hW5];exact hbW.setMap hw0 _ _
      have hoth5:∀ b,b≠wr.heap.size→W5.heap[b]?=W.heap[b]?:=fun b hb=>by rw [hW5];exact setMap_other hb _ _
      have hp5:Pm evB W5 wr.heap.size (put lB n true):=by rw [hW5];exact hpm7 W hpW.lt
      have ho5:Own W5 (wr.heap.size + 2) (.slice va ws.length vc) ws:=hoW.keep fun b hb2=>hoth5 b (by have:=(hoW.lt b hb2).1;omega)
      have hs5:wr.heap.size + 2≤W5.heap.size:=by rw [hW5,setMap_size];exact hWs
      have hwl:ws.length≤4398046511104:=by
       have h1:=nodup_len (ns:=h.nums) hp3.nd fun m hm=>(mem_nums h m).2 (by
        have h2:=hp3.pos m hm
        rw [H3.out.2.2.2.2 m] at h2
        by_cases h3:h.has m=true
        ·exact h3
        ·rw [if_neg h3] at h2;omega)
       rw [← HH.out.2.2.2.1] at h1
       omega
      obtain ⟨g',cap',W7,hap,ho7,hb7,hs7,hg7,hk7⟩:=Own.appB hs5 ho5 n hwl
      have ap:=hap 156
      have HA:=zH (show Bl w W7∧W7.heap[wr.heap.size + 1]?=some (.mapIter (some mb) clock (seen.push x1.born) clock)∧W7.heap[mb]?=some (.map es clock)∧Pm evB W7 wr.heap.size (put lB n true)∧Own W7 (wr.heap.size + 2) (.slice (some ⟨g',0,none⟩) (ws.length + 1) cap') (ws++[n])∧P3 es l (seen.push x1.born) (put lB n true) (ws++[n]) from
       ⟨Below.trans hb5 (Below.mono hb7 (by omega)),(hb7.block _ (by omega)).trans ((hoth5 _ (by omega)).trans hitW),(hb7.block _ (by omega)).trans ((hoth5 _ (by omega)).trans hmW),hp5.keep (hb7.block _ (by omega)),ho7,hp4⟩)
      clear hb hit hm3 hpB ho hp3 hrun he hkey hval hbw1 hlt1 hW hbW hoth hitW hmW hpW hoW hp4 hput hpm7 hW5 hb5 hoth5 hp5 ho5 hap ho7 hb7 hk7 hgv hw1
      go_wp2_with (at_builtin;refine wpList_app rfl (.tmp 54) (.tmp 56) 156 rfl (.slice va ws.length vc) (.slice (some ⟨W5.heap.size,0,none⟩) 1 1) (by simp [Go.Act.eval]) (by simp [Go.Act.eval]) (.slice (some ⟨g',0,none⟩) (ws.length + 1) cap') W7 ap ?_)
      go_roundw
      case rel=>exact ⟨_,_,_,HA.out⟩
      case measure =>
       have:=HM1.out
       have e1:wr3.iterSeen (wr.heap.size + 1)=seen:=by unfold World.iterSeen;rw [HIT.out]
       have e2:W7.iterSeen (wr.heap.size + 1)=seen.push x1.born:=by unfold World.iterSeen;rw [HA.out.2.1]
       rw [e1,e2]
       exact this
     ·have hp4:=hp3.skip H3.out.2.2.2.1 H3.out.2.2.1.2 he hkey hgv hv
      have HA:=zH (And.intro hbW (And.intro hitW (And.intro hmW (And.intro hpW (And.intro hoW hp4)))))
      clear hb hit hm3 hpB ho hp3 hrun he hkey hval hbw1 hlt1 hW hbW hoth hitW hmW hpW hoW hp4 hgv hw1
      go_wp2
      go_roundw
      case rel=>exact ⟨_,_,_,HA.out⟩
      case measure =>
       have:=HM1.out
       have e1:wr3.iterSeen (wr.heap.size + 1)=seen:=by unfold World.iterSeen;rw [HIT.out]
       have e2:W.iterSeen (wr.heap.size + 1)=seen.push x1.born:=by unfold World.iterSeen;rw [HA.out.2.1]
       rw [e1,e2]
       exact this
end
section
open Go.RowKit
theorem Vs.al {w:World} {x:Value} {e:List V} (h:Vs w x e) {W:World} (hb:Bl w W):Vs W x e :=
 h.elim .inl fun ⟨b,o,c,e1,h1,h2,h3,h4⟩=>.inr ⟨b,o,c,e1,Nat.lt_of_lt_of_le h1 hb.sz,h2,h3,fun j u hj=>hb.sm (h4 j u hj)⟩
set_option maxRecDepth 100000 in
set_option maxHeartbeats 8000000 in
theorem garbage_any (w:World) (hp:Nat) (h:Hp) (F:Foot) (r:HR w hp h F) (x:Value) (e:List V) (hx:Vs w x e) (hf:Few h e) :
  Calls Tryz.prog 214 #[.pointer (some ⟨hp,0,none⟩),x] w fun en w'=>∃ y p,en=.returned y∧(∀ n,h.has n=true→(p n=true↔(¬ Reach h e n∧0 < h.refs n)))∧Own w' w.heap.size y (h.nums.filter p)∧Bl w w':=by
 have hb0:Bl w (w.alloc (.cells #[.pointer (some ⟨hp,0,none⟩)] 52)):=Bl.al _ _
 have cm:=marks_any (w.alloc (.cells #[.pointer (some ⟨hp,0,none⟩)] 52)) hp h F (r.bl hb0) x e (hx.al hb0) hf
 have g0:=(MapKept.heap_alloc w (.cells #[.pointer (some ⟨hp,0,none⟩)] 52)).1
 have HH:=zH (And.intro r (And.intro hf hb0))
 clear r hx hf hb0
 go_enter Tryz.func214,Tryz.ntmps214
 go_wp2_with fail
 refine cm.mono ?_
 rintro en W2 ⟨mb,l,rfl,hmb,hpm,hl,hb2⟩
 rw [zL] at hmb
 have hsz2:=hb2.sz
 rw [zL] at hsz2
 have hn1:¬ w.heap.size=W2.heap.size:=by omega
 have hl0:w.heap.size < W2.heap.size:=by omega
 have g2:W2.heap[w.heap.size]?=some (.cells #[.pointer (some ⟨hp,0,none⟩)] 52 (0,0)):=(hb2.at (by rw [zL];omega)).trans g0
 have gc:W2.cell? ⟨w.heap.size,0,none⟩=some (.pointer (some ⟨hp,0,none⟩)):=by rw [cell_of g2];rfl
 obtain ⟨W3,hW3⟩:∃ W3,W3=W2.alloc (.cells #[.map (some mb)] 253):=⟨_,rfl⟩
 have hb3:Bl W2 W3:=by rw [hW3];exact Bl.al _ _
 have hs3:W3.heap[W2.heap.size]?=some (.cells #[.map (some mb)] 253 (0,0)):=by rw [hW3];exact (MapKept.heap_alloc W2 _).1
 have hbA:=HH.out.2.2.trans (hb2.trans hb3)
 have cs:=some_any W3 hp h F (HH.out.1.bl hbA) HH.out.2.1.ne HH.out.2.1.sm W2.heap.size w.heap.size (fun n=>!((get l n).getD false) && decide (0 < h.count (vref n))) fun W hb n =>
  garb1_any W hp h F ((HH.out.1.bl hbA).bl hb) W2.heap.size w.heap.size mb l ((hb.at (zN hs3).1).trans hs3) ((hb.at (by have:=hb3.sz;omega)).trans ((hb3.at hl0).trans g2)) ((hpm.bl hb3).bl hb) n
 have HL:=zH (And.intro hl (And.intro hbA (Nat.le_trans hb2.sz hb3.sz)))
 rw [hW3] at cs
 clear cm hpm hl hb2 hmb g2 hb3 hs3 hbA g0
 go_wp2_with fail
 refine cs.mono ?_
 rintro en W4 ⟨y,rfl,hoy,hb4⟩
 rw [← hW3] at hoy hb4
 have HF:=zH (And.intro hoy hb4)
 clear hoy hb4 cs hW3
 go_wp2
 go_ret
 refine ⟨y,_,rfl,fun n hn=>?_,HF.out.1.base (by have:=HL.out.2.2;rw [zL] at this;omega),HL.out.2.1.trans HF.out.2⟩
 have h1:=HL.out.1 n hn
 have h2:h.count (vref n)=h.refs n:=by
  unfold Hp.count
  obtain ⟨o,ho⟩:=Option.isSome_iff_exists.1 hn
  rw [of_vref,ho]
 rw [h2,← h1]
 cases (get l n).getD false<;>simp
end
end Go.Proofs.YtlbcbikplfocfaaGreatDoor.W
