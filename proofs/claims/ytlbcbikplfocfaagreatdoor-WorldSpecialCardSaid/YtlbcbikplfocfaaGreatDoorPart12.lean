/- Make2 Values Drop Live Live2 Look -/
import Derived.Test.YtlbcbikplfocfaaGreatDoorPart11
import Derived.Shelf.Abstract
import Derived.Laws.IdiomRangeMap
import Derived.LoopTactic
import Derived.Maps.RangeRun
set_option linter.unusedVariables false
set_option linter.unusedSimpArgs false
namespace Go.Proofs.YtlbcbikplfocfaaGreatDoor.W
section
open Go.RowKit
theorem make_bad (w:World) (hp:Nat) (kind:Int) (name:List UInt8) (n:Int) (x:Value) (hk:¬ (1≤kind∧kind≤12)) :
  Calls Tryz.prog 23 #[.pointer (some ⟨hp,0,none⟩),.int .i64 kind,.string (bs name),.int .i64 n,x] w fun e w'=>e=.returned V.nil.agg∧Bl w w':=by
 have hcase:decide (kind < 1)=true∨(decide (kind < 1)=false∧decide (kind > 12)=true):=by
  by_cases q1:kind < 1
  ·exact .inl (decide_eq_true q1)
  ·exact .inr ⟨decide_eq_false q1,decide_eq_true (by omega)⟩
 rcases hcase with t0 | ⟨t0,t1⟩
 all_goals
  go_enter Tryz.func23,Tryz.ntmps23
  go_wp2
  refine bodyPost_ret (v:=V.nil.agg) (by simp [results,Tryz.results23,go_sem]) rfl ⟨rfl,?_⟩
  (repeat (first | exact qA _ | assumption | refine qB ?_ _ | refine qC ?_ | refine qD ?_ _ | refine qE ?_ _ (by simp<;>omega) _))
theorem keep2 {w w':World} {b0 o0 b1 o1:Nat} {x u:Value} (h:w.cell? ⟨b0,o0,none⟩=some x∧w.cell? ⟨b1,o1,none⟩=some u) (hb:Bl w w'):w'.cell? ⟨b0,o0,none⟩=some x∧w'.cell? ⟨b1,o1,none⟩=some u:=⟨hb.sm h.1,hb.sm h.2⟩
def newC (W:World) (a kind:Int) (name:List UInt8) (n:Int):CO:=⟨a,⟨kind,name,n,[],[]⟩,W.heap.size + 1 + 1,W.heap.size + 1,W.heap.size,.slice none 0 0,.slice none 0 0,[]⟩
def newW (W:World) (kind:Int) (name:List UInt8) (n:Int):World :=
 (((W.alloc (.map #[] 0)).alloc (.cells #[.map (some W.heap.size),.slice none 0 0] 171)).alloc (.cells #[.int .i64 kind,.string (bs name),.int .i64 n,.slice none 0 0,.pointer (some ⟨W.heap.size + 1,0,none⟩)] 91)).drew
theorem newC_foot {W:World} {a kind:Int} {name:List UInt8} {n:Int} {b:Nat} (h:(newC W a kind name n).foot b):W.heap.size≤b∧b < W.heap.size + 3:=by
 rcases h with h | h | h | h | h
 ·have h:b=W.heap.size + 1 + 1:=h;omega
 ·have h:b=W.heap.size + 1:=h;omega
 ·have h:b=W.heap.size:=h;omega
 ·cases h
 ·cases h
theorem make_step {W:World} {hp:Nat} {h:Hp} {F:Foot} {L:Lay} (hr:HRL W hp h F L) (a kind:Int) (name:List UInt8) (n:Int) {es':Array MapEntry} {c':Nat}
  (he:Ents (fun n:Int=>Value.int .i64 n) (fun b:Nat=>Value.pointer (some ⟨b,0,none⟩)) es'.toList (put (L.cos.map fun c=>(c.n,c.ob)) a (W.heap.size + 1 + 1))∧Born es' c') :
  HR (setMap (newW W kind name n) L.am es' c') hp { h with all:=put h.all a ⟨kind,name,n,[],[]⟩ } (fun b=>F b∨(newC W a kind name n).foot b) ∧
   Step W.heap.size F W (setMap (newW W kind name n) L.am es' c') (fun b=>F b∨(newC W a kind name n).foot b):=by
 have hsz:(setMap (newW W kind name n) L.am es' c').heap.size=W.heap.size + 3:=by rw [setMap_size];show (((W.alloc _).alloc _).alloc _).heap.size=_;simp only [zL]
 have ham:=hr.lt _ hr.own.2.1
 have hoth:∀ b,b≠L.am→(setMap (newW W kind name n) L.am es' c').heap[b]?=(newW W kind name n).heap[b]?:=fun b h=>setMap_other h _ _
 have hold:∀ b,b < W.heap.size→(newW W kind name n).heap[b]?=W.heap[b]?:=fun b hb =>
  (Below.heap_alloc _ _ _ (by simp only [zL];omega)).trans ((Below.heap_alloc _ _ _ (by simp only [zL];omega)).trans (Below.heap_alloc _ _ _ hb))
 have hob:(newW W kind name n).heap[W.heap.size + 1 + 1]?=some (.cells #[.int .i64 kind,.string (bs name),.int .i64 n,.slice none 0 0,.pointer (some ⟨W.heap.size + 1,0,none⟩)] 91 (0,0)):=by
  have:=(MapKept.heap_alloc ((W.alloc (.map #[] 0)).alloc (.cells #[.map (some W.heap.size),.slice none 0 0] 171)) (.cells #[.int .i64 kind,.string (bs name),.int .i64 n,.slice none 0 0,.pointer (some ⟨W.heap.size + 1,0,none⟩)] 91)).1
  simp only [zL] at this
  exact this
 have hF:∀ b,F b∨(newC W a kind name n).foot b→b < (setMap (newW W kind name n) L.am es' c').heap.size:=by
  rintro b (hb | hb)
  ·have:=hr.lt b hb;omega
  ·have:=newC_foot hb;omega
 refine ⟨⟨_,hr.add (c:=newC W a kind name n) (fun b hb=>⟨(newC_foot hb).1,hF b (.inr hb)⟩) ⟨(hoth _ (by show W.heap.size + 1 + 1≠_;omega)).trans hob,World.ownsRow_nil _ _ _ _,?_,Nat.zero_le _⟩ ⟨es',c',setMap_at (by show L.am < (((W.alloc _).alloc _).alloc _).heap.size;simp only [zL];omega) _ _,he.1,he.2⟩ (fun b hb hne=>(hoth b hne).trans (hold b (hr.lt b hb))) (by omega)⟩,rfl,rfl,rfl,by omega,fun b hb hnf=>?_,?_,hF⟩
 ·refine (DictIs.new W).bl fun b hb=>?_
  have hb':b=W.heap.size + 1∨b=W.heap.size:=by
   rcases hb with h | h | h
   ·exact .inl h
   ·exact .inr h
   ·cases h
  rw [hoth b (by omega)]
  exact Below.heap_alloc _ _ _ (by simp only [zL];omega)
 ·rw [hoth b (fun e=>hnf (by rw [e];exact hr.own.2.1))];exact hold b hb
 ·rintro b (hb | hb)
  ·exact .inl hb
  ·exact .inr (newC_foot hb).1
theorem HR.setLoc {w:World} {hp:Nat} {h:Hp} {F:Foot} (r:HR w hp h F) {p:Addr} (hn:¬ F p.block) (u:Value):HR (w.setCell p u) hp h F :=
 r.keep (by rw [World.size_setCell];exact Nat.le_refl _) fun b hb=>Below.heap_setCell _ _ _ _ (fun e=>hn (by rw [← e];exact hb))
theorem HStep.setV {w W:World} {hp:Nat} {h':Hp} {F F':Foot} (r:HR W hp h' F') (s:Step w.heap.size F w W F') {b:Nat} (hb:w.heap.size≤b) (hn:¬ F' b) (x y z:Value) :
  HStep w hp F h' (((W.setCell ⟨b,0,none⟩ x).setCell ⟨b,1,none⟩ y).setCell ⟨b,2,none⟩ z) :=
 ⟨F',((r.setLoc hn _).setLoc hn _).setLoc hn _,((s.setCell (.inl hb) _).setCell (.inl hb) _).setCell (.inl hb) _⟩
theorem Hp.make_eq (h:Hp) (kind:Int) (name:List UInt8) (n:Int) (l:List V) (a:Int) (ha:a=wrap64 (h.last + 1)) (k1:1≤kind) (k2:kind≤12)
  (hof:Hp.of { { h with last:=a } with all:=W.put h.all a ⟨kind,name,n,[],[]⟩ } (vref a)=some ⟨kind,name,n,[],[]⟩) :
  h.make kind name n l=((Hp.replace { { h with last:=a } with all:=W.put h.all a ⟨kind,name,n,[],[]⟩ } (vref a) 0 0 l).1,vref a):=by
 have put_put:∀ (l:List (Int × Ob)) (a:Int) (x y:Ob),W.put (W.put l a x) a y=W.put l a y:=by
  intro l a x y
  induction l with
  | nil=>simp [W.put]
  | cons p t ih =>
   obtain ⟨k,v⟩:=p
   by_cases h:k=a
   ·simp [W.put,h]
   ·simp [W.put,h,ih]
 unfold Hp.make
 rw [if_pos ⟨k1,k2⟩,← ha]
 unfold Hp.replace
 rw [hof]
 simp [Hp.set,put_put,hold]
theorem keep2m {w:World} {m:Nat} {es:Array MapEntry} {c':Nat} {b0 o0 b1 o1:Nat} {x u:Value} (h:w.cell? ⟨b0,o0,none⟩=some x∧w.cell? ⟨b1,o1,none⟩=some u) (n0:b0≠m) (n1:b1≠m):(setMap w m es c').cell? ⟨b0,o0,none⟩=some x∧(setMap w m es c').cell? ⟨b1,o1,none⟩=some u :=
 ⟨(World.cell?_of_block (w:=w) (a:=⟨b0,o0,none⟩) (setMap_other n0 es c')).trans h.1,(World.cell?_of_block (w:=w) (a:=⟨b1,o1,none⟩) (setMap_other n1 es c')).trans h.2⟩
set_option maxRecDepth 100000 in
set_option maxHeartbeats 8000000 in
theorem make_ok (w:World) (hp:Nat) (h:Hp) (F:Foot) (r:HR w hp h F) (kind:Int) (name:List UInt8) (n:Int) (x:Value) (l:List V) (hx:Vx F w x l) (hl:l.length≤big) (k1:1≤kind) (k2:kind≤12) :
  Calls Tryz.prog 23 #[.pointer (some ⟨hp,0,none⟩),.int .i64 kind,.string (bs name),.int .i64 n,x] w fun e w'=>e=.returned (h.make kind name n l).2.agg∧HStep w hp F (h.make kind name n l).1 w':=by
 obtain ⟨L,r⟩:=r
 have t0:decide (kind < 1)=false:=decide_eq_false (by omega)
 have t1:decide (kind > 12)=false:=decide_eq_false (by omega)
 obtain ⟨⟨f1,f2,f3⟩,f4,f5,f6,f7⟩:=r.head
 have HRR:=zH r
 have HX:=zH hx
 have HL:=zH (And.intro hl (And.intro k1 k2))
 clear r hx hl k1 k2 f2
 go_enter Tryz.func23,Tryz.ntmps23
 go_wp2
 refine named (p:=fun W=>Code.wp _ _ _ _ W) (fun W hW=>?_)
 obtain ⟨a,ha⟩:∃ a,a=wrap64 (h.last + 1):=⟨_,rfl⟩
 rw [← ha] at hW ⊢
 have hr:HRL W hp { h with last:=a } F L:=by rw [hW];exact (HRR.out.setLast a).bl (Bl.al _ _)
 obtain ⟨⟨g1,g2,g3⟩,g4,g5,g6,g7⟩:=hr.head
 have hst:Step w.heap.size F w W F:=by
  rw [hW]
  exact ((Step.refl HRR.out.lt).setCell (.inr HRR.out.own.1) _).alloc (by rw [World.size_setCell];exact Nat.le_refl _) _
 have hbx:W.heap[w.heap.size]?=some (.cells #[.int .i64 0,.int .i64 0,.string ⟨#[]⟩] 27):=by
  rw [hW]
  have:=(MapKept.heap_alloc (w.setCell ⟨hp,2,none⟩ (.int .i64 a)) (.cells #[.int .i64 0,.int .i64 0,.string ⟨#[]⟩] 27)).1
  rw [World.size_setCell] at this
  exact this
 have hsz:W.heap.size=w.heap.size + 1:=by rw [hW];simp
 obtain ⟨es',c',mu',hents⟩:=hr.all_put a (W.heap.size + 1 + 1)
 have mu:=mu' (newW W kind name n) ((Below.heap_alloc _ _ _ (by first | omega | (simp only [zL];omega))).trans ((Below.heap_alloc _ _ _ (by first | omega | (simp only [zL];omega))).trans (Below.heap_alloc _ _ _ (by first | omega | (simp only [zL];omega)))))
 have hpa:hp≠L.am:=by rintro e;obtain ⟨es,cc,hm,-⟩:=hr.all;have:=hr.blk;rw [e,hm] at this;cases this
 unfold newW at mu
 have HMS:=zH (make_step hr a kind name n (c':=c') hents)
 have HST:=zH hst
 have HBX:=zH hbx
 have HSZ:=zH hsz
 have HA:=zH ha
 clear hW hr hst hbx hents mu' hsz ha f1 f3 f4 f5 f6 f7 g2 g4
 go_region_held3 (fun w'=>w'.cell? ⟨hp,0,none⟩=some (.map (some L.am))∧w'.cell? ⟨hp,2,none⟩=some (.int .i64 a)) (first | exact ⟨g1,g3⟩ | exact keep2 (by assumption) (Bl.dr _) | exact keep2 (by assumption) (Bl.al _ _) | exact keep2 (by assumption) ((Bl.al _ _).trans (Bl.al _ _)) | exact keep2m (by assumption) hpa hpa) ((go_at_call 82;refine (dict_new _).mono ?_;rintro e w' ⟨rfl,rfl⟩))
 refine named (p:=fun W=>Exit.then _ _ _ _ W) (fun V hV=>?_)
 have hV2:V=setMap (newW W kind name n) L.am es' c':=hV
 have hr2:=HMS.out.1
 have hs2:=HMS.out.2
 rw [← hV2] at hr2 hs2
 obtain ⟨F2,hF2⟩:∃ F2:Foot,F2=(fun b=>F b∨(newC W a kind name n).foot b):=⟨_,rfl⟩
 rw [← hF2] at hr2 hs2
 have hVs:V.heap.size=W.heap.size + 3:=by rw [hV2,setMap_size];show (((W.alloc _).alloc _).alloc _).heap.size=_;simp only [zL]
 have hg3:V.cell? ⟨hp,2,none⟩=some (.int .i64 a):=by obtain ⟨L2,q⟩:=hr2;exact q.head.1.2.2
 have hlb:Loc F2 V w.heap.size:=⟨by have:=HSZ.out;omega,fun hf=>by rw [hF2] at hf;rcases hf with hf | hf;(have:=HRR.out.lt _ hf;omega);(have:=newC_foot hf;have:=HSZ.out;omega)⟩
 have hbx:V.heap[w.heap.size]?=some (.cells #[.int .i64 0,.int .i64 0,.string ⟨#[]⟩] 27 (0,0)):=(hs2.block _ (by have:=HSZ.out;omega) (fun hf=>by have:=HRR.out.lt _ hf;omega)).trans HBX.out
 have hst2:=HST.out.call HST.out.size hs2
 have hxv:=(HX.out.step HST.out).step hs2
 have hof:Hp.of { { h with last:=a } with all:=put h.all a ⟨kind,name,n,[],[]⟩ } (vref a)=some ⟨kind,name,n,[],[]⟩:=by
  unfold Hp.of;rw [if_pos rfl];show get (put h.all a _) a=_;rw [get_put,if_pos rfl]
 have c2:=replace_any (V.alloc (.cells (vref a).ca 27)) hp _ F2 (hr2.bl (Bl.al _ _)) (vref a) 0 0 x l (hxv.bl (Bl.al _ _)).vs HL.out.1 (fun o ho=>by rw [hof] at ho;cases ho;have:=HL.out.1;simpa using this)
 have HV:=zH (And.intro hlb (And.intro hbx (And.intro hst2 hof)))
 clear hV hV2 hr2 hs2 hF2 hVs hlb hbx hst2 hxv g1 g3 g5 mu hpa hof HMS
 go_wp2_with fail
 refine c2.mono ?_
 rintro e V2 ⟨rfl,F3,hr3,hs3⟩
 have hb1:V2.heap[V.heap.size]?=some (.cells (vref a).ca 27 (0,0)):=(hs3.block _ (by rw [zL];omega) (fun hf=>by have:=HV.out.2.2.1.lt _ hf;omega)).trans (MapKept.heap_alloc V (.cells (vref a).ca 27)).1
 have hb2:V2.heap[w.heap.size]?=some (.cells #[.int .i64 0,.int .i64 0,.string ⟨#[]⟩] 27 (0,0)):=(hs3.block _ (by rw [zL];have:=HV.out.1.1;omega) HV.out.1.2).trans ((Below.heap_alloc _ _ _ HV.out.1.1).trans HV.out.2.1)
 have v0:V2.cell? ⟨V.heap.size,0,none⟩=some (.int .i64 4):=by rw [cell_of hb1];rfl
 have v1:V2.cell? ⟨V.heap.size,1,none⟩=some (.int .i64 a):=by rw [cell_of hb1];rfl
 have v2:V2.cell? ⟨V.heap.size,2,none⟩=some (.string ⟨#[]⟩):=by rw [cell_of hb1];rfl
 have s0:V2.cell? ⟨w.heap.size,0,none⟩=some (.int .i64 0):=by rw [cell_of hb2];rfl
 have s1:V2.cell? ⟨w.heap.size,1,none⟩=some (.int .i64 0):=by rw [cell_of hb2];rfl
 have s2:V2.cell? ⟨w.heap.size,2,none⟩=some (.string ⟨#[]⟩):=by rw [cell_of hb2];rfl
 have sf:∀ o,V2.frozen? ⟨w.heap.size,o,none⟩=false:=fun o=>by simp [World.frozen?,hb2]
 have em:=Hp.make_eq h kind name n l a HA.out HL.out.2.1 HL.out.2.2 HV.out.2.2.2
 have hst3:Step w.heap.size F w V2 F3:=(HV.out.2.2.1.alloc HV.out.2.2.1.size _).call (by rw [zL];have:=HV.out.2.2.1.size;omega) hs3
 have hl3:¬ F3 w.heap.size:=fun hf=>(hs3.foot _ hf).elim HV.out.1.2 (fun h=>by have:=HV.out.1.1;rw [zL] at h;omega)
 have HE:=zH (show Ending.returned (vref a).agg=.returned (h.make kind name n l).2.agg∧HStep w hp F (h.make kind name n l).1 (((V2.setCell ⟨w.heap.size,0,none⟩ (.int .i64 4)).setCell ⟨w.heap.size,1,none⟩ (.int .i64 a)).setCell ⟨w.heap.size,2,none⟩ (.string ⟨#[]⟩)) from ⟨by rw [em],by rw [em];exact HStep.setV hr3 hst3 (Nat.le_refl _) hl3 _ _ _⟩)
 clear hr3 hs3 hb1 hb2 em hst3 hl3 c2
 go_wp2
 refine bodyPost_ret (v:=(vref a).agg) (by simp [results,Tryz.results23,go_sem,s0,s1,s2]) rfl ?_
 exact HE.out
theorem make_any (w:World) (hp:Nat) (h:Hp) (F:Foot) (r:HR w hp h F) (kind:Int) (name:List UInt8) (n:Int) (x:Value) (l:List V) (hx:Vx F w x l) (hl:l.length≤big) :
  Calls Tryz.prog 23 #[.pointer (some ⟨hp,0,none⟩),.int .i64 kind,.string (bs name),.int .i64 n,x] w fun e w'=>e=.returned (h.make kind name n l).2.agg∧HStep w hp F (h.make kind name n l).1 w':=by
 by_cases hk:1≤kind∧kind≤12
 ·exact make_ok w hp h F r kind name n x l hx hl hk.1 hk.2
 ·have e:h.make kind name n l=(h,V.nil):=by unfold Hp.make;rw [if_neg hk]
  rw [e]
  exact (make_bad w hp kind name n x hk).mono fun e w' ⟨q1,q2⟩=>⟨q1,HStep.of_bl r q2⟩
end
section
open Go.RowKit Go.Shelf
attribute [local go_sem] Oper.semAt_some
theorem vals_take {d:Row} {k:Nat} {p:V × V} (h:d[k]?=some p):((d.take (k + 1)).map (·.2)).flatMap V.cs=((d.take k).map (·.2)).flatMap V.cs++p.2.cs:=by
 rw [List.take_add_one,h];simp
set_option maxRecDepth 100000 in
set_option maxHeartbeats 8000000 in
theorem values_any (w:World) (c:CO) (ho:ObAt w c) :
  Calls Tryz.prog 220 #[.pointer (some ⟨c.ob,0,none⟩)] w (NewVs w c.o.values):=by
 obtain ⟨i0,hi,hz0,hz1,hz2⟩:=info_parts Tryz.infoV
 have hfew:=ho.dict.few.2
 have hfi:=ho.few
 replace hfi:c.o.items.length≤1048576:=hfi
 obtain ⟨⟨c1,c2,c3,c4,c5⟩,c6⟩:=ho.cells (Bl.refl w)
 have hvi:=Vs.of_own ho.items
 have cl:=clone_any w c.it c.o.items hvi ho.few
 have HD:=zH ho.dict
 clear ho c1 c2 c3 hvi
 refine (callsIn_wide (n:=3)).1 ?_
 refine callsIn_of_wp_marks Tryz.func220 rfl trivial ?_ rfl
 simp only [Tryz.ntmps220,zS,Nat.reduceAdd,Nat.reduceSub]
 gi_wp2_with (refine ⟨trivial,?_⟩;first | (gi_at_call 205;refine (callsIn_wide.2 cl).mono ?_;rintro e W0 hx;obtain ⟨a,nn,cc,rfl,hx2,hb0⟩:=hx.form;have c5':=hb0.sm c5;have hs0:=hb0.sz;have c7:c.ob < W0.heap.size:=Nat.lt_of_lt_of_le c6 hs0;have hn7:¬ c.ob=W0.heap.size:=(Nat.ne_of_lt c7);have HX:=zH hx2;clear hx hx2) | (gi_at_call 279;refine (callsIn_wide.2 (dict_all _ _)).mono ?_;rintro e w' ⟨rfl,rfl⟩))
 refine named (p:=fun W=>Code.wpIn _ _ _ _ _ _ W) (fun W1 hW1=>?_)
 have hb01:Bl W0 W1:=by rw [hW1];(repeat (first | exact qA _ | assumption | refine qB ?_ _ | refine qC ?_ | refine qD ?_ _ | refine qE ?_ _ (by simp<;>omega) _))
 have hs1:W1.heap.size=W0.heap.size + 2:=by rw [hW1,zL,zL]
 have hbox:W1.heap[W0.heap.size]?=some (.cells #[.slice a nn cc] 29 (0,0)):=by
  rw [hW1];exact (Below.heap_alloc _ _ _ (by simp)).trans (MapKept.heap_alloc W0 _).1
 have hptr:W1.heap[W0.heap.size + 1]?=some (.cells #[.pointer (some ⟨c.db,0,none⟩)] 88 (0,0)):=by
  rw [hW1]
  have:=(MapKept.heap_alloc (W0.alloc (.cells #[.slice a nn cc] 29)) (.cells #[.pointer (some ⟨c.db,0,none⟩)] 88)).1
  rw [zL] at this
  exact this
 have hrow:W1.ownsRow w.heap.size 27 3 (.slice a nn cc) c.o.items.length (c.o.items.flatMap V.cs):=by
  obtain ⟨x,hx,hr,-⟩:=HX.out
  cases hx
  exact ⟨hr.1,hr.2.elim .inl (fun ⟨g,cap,cur,e,h0,hg,q⟩=>.inr ⟨g,cap,cur,e,h0,(hb01.at (zN hg).1).trans hg,q⟩)⟩
 have hown:∀ b,(Value.slice a nn cc).ownBlock=some b→w.heap.size≤b∧b < W0.heap.size:=fun b hb=>by
  obtain ⟨x,hx,hr,-⟩:=HX.out
  cases hx
  exact hr.lt b hb
 have hb1:=hb0.trans hb01
 have hd1:=HD.out.blm hb1
 clear hW1 c4 c5 c6 c5' c7 hn7 cl hb0 hb01
 refine range_fn (gf:=314) (lb:=#[.pointer (some ⟨W0.heap.size + 1,0,none⟩)]) rfl (enters_of Tryz.func314 (by kernel_rfl) rfl) (all_any (W0.heap.size + 1) c.db c.mb c.sl c.rows c.o.d) ?_
  (fun k F W=>∃ v,Coll W0.heap.size w.heap.size 29 27 3 (c.o.items.length + k) (c.o.items.flatMap V.cs++((c.o.d.take k).map (·.2)).flatMap V.cs) v W∧(∀ b,CFoot W0.heap.size v b→F b)∧(∀ b,F b→b < W.heap.size)∧(∀ b,F b→w.heap.size≤b))
  (fun _ _ _=>False) ?stI ?stX ?ltI (fun b=>b=W0.heap.size∨(Value.slice a nn cc).ownBlock=some b) ?h0 ?hpre ?hround ?hdone ?hstop
 ·intro x hx
  obtain ⟨p,-,rfl⟩:=List.mem_map.1 hx
  rfl
 case stI =>
  rintro k F W W' ⟨v,hc,h1,h2,h3⟩ hk
  exact ⟨v,hc.keep (fun b hb=>hk.block b (h1 b hb)),h1,fun b hb=>Nat.lt_of_lt_of_le (h2 b hb) hk.size,h3⟩
 case stX=>intro c F W W' h _;exact h
 case ltI=>rintro k F W ⟨v,hc,h1,h2,h3⟩;exact h2
 case h0 =>
  refine ⟨.slice a nn cc,⟨hbox,by simpa using hrow⟩,fun b hb=>hb,?_,?_⟩
  ·rintro b (rfl | h)
   ·omega
   ·have:=(hown b h).2;omega
  ·rintro b (rfl | h)
   ·omega
   ·have:=hown b h;omega
 case hpre =>
  intro W F hb _ _
  exact ⟨by rw [cell_of ((hb.at (by omega)).trans hptr)];rfl,hd1.blm hb⟩
 case hround =>
  rintro l k x F W K hx ⟨v,hc,h1,h2,h3⟩ hnl hll hK
  obtain ⟨p,hp,rfl⟩:∃ p,c.o.d[k]?=some p∧x=#[p.1.agg,p.2.agg]:=by
   unfold pairsOf at hx
   rw [List.getElem?_map] at hx
   cases hp:c.o.d[k]? with
   | none=>rw [hp] at hx;cases hx
   | some p=>rw [hp] at hx;injection hx with hx;exact ⟨p,rfl,hx.symm⟩
  have hkd:=(List.getElem?_eq_some_iff.1 hp).1
  have HK:=zH hK
  have HC:=zH hc
  have HP:=zH hp
  have HRW:=zH (And.intro hrow hown)
  clear hK hc hx hp hrow hown
  obtain ⟨n,hn⟩:∃ n,n=c.o.items.length:=⟨_,rfl⟩
  gi_wp2
  refine HK.out _ _ (by (repeat (first | exact qA _ | assumption | refine qB ?_ _ | refine qC ?_ | refine qD ?_ _ | refine qE ?_ _ (by simp<;>omega) _))) ?_
  intro Wb hWb hsb hos htp hou
  have hWl:W.heap.size≠l:=by omega
  have hC2:Coll W0.heap.size w.heap.size 29 27 3 (c.o.items.length + k) (c.o.items.flatMap V.cs++((c.o.d.take k).map (·.2)).flatMap V.cs) v Wb:=HC.out.keep fun b hb=>by
   have hb2:=h1 b hb
   rw [hWb b (fun e=>hnl (by rw [← e];exact hb2))]
   exact Below.heap_alloc _ _ _ (h2 b hb2)
  have hnb:Wb.heap[W.heap.size]?=some (.cells p.2.ca 27 (0,0)):=by
   rw [hWb _ hWl];exact (MapKept.heap_alloc W _).1
  obtain ⟨q1,q2⟩:=hC2.cells
  rw [← hn] at hC2 hfi
  obtain ⟨g',cap',w4,hap,d1,d2,hsz4,hC3,hstep⟩:=hC2.app 29 i0 _ 32 Tryz.underlying29 hi hz0 hz1 hz2 rfl (by decide) p.2.cs rfl (cs_one _) (by unfold maxLen;omega) (by omega) (by rw [hsb,zL];have:=h2 _ (h1 _ (.inl rfl));omega) (by decide)
  obtain ⟨F',hst,hF'⟩:=hstep F (fun b hb=>h1 b hb) (fun b hb=>by rw [hsb,zL];exact Nat.lt_succ_of_lt (h2 b hb))
  have y0:Wb.cell? ⟨W.heap.size,0,none⟩=some (.int .i64 p.2.k):=by rw [cell_of hnb];rfl
  have y1:Wb.cell? ⟨W.heap.size,1,none⟩=some (.int .i64 p.2.n):=by rw [cell_of hnb];rfl
  have y2:Wb.cell? ⟨W.heap.size,2,none⟩=some (.string (bs p.2.s)):=by rw [cell_of hnb];rfl
  have HREL:=zH (show ∃ F',Step Wb.heap.size F Wb (w4.setCell ⟨W0.heap.size,0,none⟩ (.slice (some ⟨g',0,none⟩) (n + k + 1) cap')) F'∧∃ v,Coll W0.heap.size w.heap.size 29 27 3 (c.o.items.length + (k + 1)) (c.o.items.flatMap V.cs++((c.o.d.take (k + 1)).map (·.2)).flatMap V.cs) v (w4.setCell ⟨W0.heap.size,0,none⟩ (.slice (some ⟨g',0,none⟩) (n + k + 1) cap'))∧(∀ b,CFoot W0.heap.size v b→F' b)∧(∀ b,F' b→b < (w4.setCell ⟨W0.heap.size,0,none⟩ (.slice (some ⟨g',0,none⟩) (n + k + 1) cap')).heap.size)∧(∀ b,F' b→w.heap.size≤b) from by
   refine ⟨F',hst,_,by rw [vals_take HP.out,← hn,← List.append_assoc];exact hC3,?_,hst.lt,?_⟩
   ·rintro b (rfl | hb)
    ·exact (hF' _).2 (.inl (h1 _ (.inl rfl)))
    ·cases hb;exact (hF' _).2 (.inr rfl)
   ·intro b hb
    rcases hst.foot b hb with h | h
    ·exact h3 b h
    ·have:=h2 _ (h1 _ (.inl rfl));rw [hsb,zL] at h;omega)
  have ap:(Builtin.append_ #[29,29] 29 #[v,.slice (some ⟨Wb.heap.size,0,none⟩) 1 1]).run Tryz.prog (Wb.alloc (.cells p.2.ca 27))=.ok (.slice (some ⟨g',0,none⟩) (n + k + 1) cap') w4:=hap _
  have hll2:W0.heap.size < Wb.heap.size:=by rw [hsb,zL];have:=h2 _ (h1 _ (.inl rfl));omega
  have hll3:W.heap.size < Wb.heap.size:=by rw [hsb,zL];omega
  clear HC HP hWb hC2 hnb hC3 hstep hst hF' hap hsb
  gi_wp2_with (gi_at_builtin;refine wpListIn_app rfl (.tmp 18) (.tmp 20) 29 rfl v (.slice (some ⟨Wb.heap.size,0,none⟩) 1 1) (by simp [Go.Act.eval]) (by simp [Go.Act.eval]) (.slice (some ⟨g',0,none⟩) (n + k + 1) cap') w4 ap ?_)
  have HR2:=HREL.out
  rw [hn] at HR2
  exact HR2
 case hdone =>
  rintro F' W' hst ⟨v,hc,h1,h2,h3⟩ hD hnD
  obtain ⟨a,c',rfl⟩:=hc.form
  obtain ⟨q1,q2⟩:=hc.cells
  have hbw:Below w.heap.size w W':=by
   refine ⟨hst.os.trans hb1.os,hst.tape.trans hb1.tape,hst.output.trans hb1.output,Nat.le_trans hb1.sz hst.size,fun b hb=>?_⟩
   rw [hst.block b (by omega) (fun e=>by rcases e with e | e;omega;(have:=hown b e;omega))]
   exact hb1.at hb
  have HF:=zH (show ∀ o,NewVs w c.o.values (.returned (.slice a (c.o.items.length + (pairsOf c.o.d).length) c')) (W'.putObj W1.heap.size o) from fun o=>by
   have e:(pairsOf c.o.d).length=c.o.d.length:=by simp [pairsOf]
   refine NewVs.put ⟨_,rfl,?_,hbw⟩ (by omega) (fun b hb e=>hnD (by rw [← e];exact h1 b (.inr hb))) o
   have h:=hc.row
   rw [e,List.take_length] at h
   unfold Ob.values
   rw [e,List.length_append,List.length_map,List.flatMap_append]
   exact h)
  have HDD:=zH hD
  clear hst hc h1 h2 h3 hnD hbw hD
  gi_wp2
  refine ⟨by simp,.inl ⟨_,_,rfl,run_takeDeferred HDD.out,?_⟩⟩
  refine ⟨_,results_tmp (t:=2) rfl _ _ _,?_⟩
  exact HF.out _
 case hstop=>intro c F' W' _ h _ _;exact h.elim
end
section
open Go.RowKit
def delC:List CO→Int→List CO
 | [],_=>[]
 | d :: t,n=>if d.n=n then t else d :: delC t n
theorem delC_map {γ:Type} (f:CO→γ) (l:List CO) (n:Int):(delC l n).map (fun d=>(d.n,f d))=del (l.map fun d=>(d.n,f d)) n:=by
 induction l with
 | nil=>rfl
 | cons d t ih =>
  by_cases h:d.n=n
  ·simp [delC,del,h]
  ·simp only [delC,if_neg h,List.map_cons,del,ih]
theorem delC_sub (l:List CO) (n:Int):(delC l n).Sublist l:=by
 induction l with
 | nil=>exact List.Sublist.refl _
 | cons d t ih =>
  by_cases h:d.n=n
  ·simp only [delC,if_pos h];exact List.sublist_cons_self _ _
  ·simp only [delC,if_neg h];exact ih.cons_cons _
theorem HRL.del_all {w:World} {hp:Nat} {h:Hp} {F:Foot} {L:Lay} (r:HRL w hp h F L) (n:Int) :
  ∃ es' c',(∀ (W':World) (rt:TypeId),W'.heap[L.am]?=w.heap[L.am]?→(Builtin.delete_ #[75,2] rt #[.map (some L.am),.int .i64 n]).run Tryz.prog W'=.ok (.tuple #[]) (setMap W' L.am es' c')) ∧
   HRL (setMap w L.am es' c') hp { h with all:=del h.all n } F { L with cos:=delC L.cos n }:=by
 obtain ⟨es,c,hm,he,hbn⟩:=r.both
 obtain ⟨es2,c2,hm2,he2⟩:=r.refs
 obtain ⟨es',c',hdel,he',hb'⟩:=run_delB Tryz.underlying75 (key_i64 Tryz.underlying2) (ek:=fun n:Int=>Value.int .i64 n) (ev:=fun b:Nat=>Value.pointer (some ⟨b,0,none⟩)) he n #[75,2] rfl c
 have ham:=(zN hm).1
 have hoth:∀ b,b≠L.am→(setMap w L.am es' c').heap[b]?=w.heap[b]?:=fun b h=>setMap_other h _ _
 have hhp:hp≠L.am:=by rintro e;have:=r.blk;rw [e,hm] at this;cases this
 have hsub:=delC_sub L.cos n
 refine ⟨es',c',fun W' rt hW'=>hdel W' L.am rt (hW'.trans hm),(hoth hp hhp).trans r.blk,⟨es',c',setMap_at ham _ _,?_⟩,⟨es2,c2,(hoth _ r.ne.1.symm).trans hm2,he2⟩,r.lr,?_,fun d hd=>?_,nodup_del r.nd n,⟨r.ne.1,fun d hd=>r.ne.2 d (hsub.subset hd)⟩,r.apart.sublist hsub,⟨r.own.1,r.own.2.1,r.own.2.2.1,fun d hd=>r.own.2.2.2 d (hsub.subset hd)⟩,fun b hb=>by rw [setMap_size];exact r.lt b hb,⟨es',c',setMap_at ham _ _,hb' hbn⟩⟩
 ·have:(delC L.cos n).map (fun c=>(c.n,c.ob))=_:=delC_map (·.ob) L.cos n
  rw [this];exact he'
 ·show del h.all n=_
  rw [r.eq];exact (delC_map (·.o) L.cos n).symm
 ·have hd:=hsub.subset hd
  exact (r.obs d hd).keep fun b hb=>hoth b (fun e=>(r.notIn hd).2.1 (by rw [← e];exact hb))
theorem NewVs.fresh {w w':World} {l:List V} {x:Value} (h:NewVs w l (.returned x) w'):∀ b o n c,x=.slice (some ⟨b,o,none⟩) n c→w.heap.size≤b:=by
 rintro b o n c rfl
 obtain ⟨y,hy,ho,hb⟩:=h
 cases hy
 rcases ho.2 with ⟨e2,-⟩ | ⟨g,cap,cur,e2,h0,-⟩
 ·cases e2
 ·cases e2;exact h0
theorem ents_len (o:Ob) (h1:o.items.length≤1048576) (h2:o.d.length≤4096):o.values.length≤2097152:=by
 unfold Ob.values;rw [List.length_append,List.length_map];omega
set_option maxRecDepth 100000 in
set_option maxHeartbeats 8000000 in
theorem drop_any (w:World) (hp:Nat) (h:Hp) (F:Foot) (r:HR w hp h F) (n:Int) (o:Ob) (hn:get h.all n=some o) :
  Calls Tryz.prog 145 #[.pointer (some ⟨hp,0,none⟩),.int .i64 n] w fun e w'=>∃ x F',e=.returned x∧HR w' hp (h.drop n).1 F'∧Step w.heap.size F w w' F'∧Vx F' w' x o.values∧(∀ b o n c,x=.slice (some ⟨b,o,none⟩) n c→w.heap.size≤b):=by
 obtain ⟨L,r⟩:=r
 obtain ⟨c,hc,hcn,rfl,hcob⟩:∃ c,c∈L.cos∧c.n=n∧o=c.o∧get (L.cos.map fun c=>(c.n,c.ob)) n=some c.ob:=by
  rcases r.find n with ⟨h1,-⟩ | ⟨c,hc,e1,e2,e3⟩
  ·rw [hn] at h1;cases h1
  ·rw [hn] at e2;cases e2;exact ⟨c,hc,e1,rfl,e3⟩
 obtain ⟨⟨f1,f2,f3⟩,f4,f5,f6,f7⟩:=r.head
 have lk:(Instr.lookup 75 (.map (some L.am)) (.int .i64 n) false).run Tryz.prog w=.ok (.pointer (some ⟨c.ob,0,none⟩)) w:=by
  rw [r.look n w rfl,hcob];rfl
 have cv:=values_any w c (r.obs c hc)
 have hlen:=ents_len c.o (r.obs c hc).few (r.obs c hc).dict.few.2
 have HRR:=zH r
 have HN:=zH hn
 clear r hn hc hcn hcob f2 f3 f4
 go_enter Tryz.func145,Tryz.ntmps145
 go_wp2_with fail
 refine cv.mono ?_
 rintro e W1 hx
 obtain ⟨a,nn,cc,rfl,hx2,hb1⟩:=hx.form
 have hv:=hx2.vx HRR.out.lt
 have HFR:=zH (hx2.fresh)
 have hr1:=HRR.out.bl hb1
 have ch:=hold_wide W1 hp h F L hr1 (-1) _ _ hv.vs hlen
 have HB:=zH (And.intro hv hb1)
 clear hx hx2 hv hb1 hr1 cv f1 f5 f6 f7 lk
 go_wp2_with fail
 refine ch.mono ?_
 rintro e W2 ⟨rfl,lr,hr2,hs2⟩
 obtain ⟨⟨f1,f2,f3⟩,f4,f5,f6,f7⟩:=hr2.head
 obtain ⟨es',c',dl,hr3⟩:=hr2.del_all n
 have dl2:∀ rt,(Builtin.delete_ #[75,2] rt #[.map (some L.am),.int .i64 n]).run Tryz.prog W2=.ok (.tuple #[]) (setMap W2 L.am es' c'):=fun rt=>dl W2 rt rfl
 have f1':W2.cell? ⟨hp,0,none⟩=some (.map (some L.am)):=f1
 have HE:=zH (show ∃ x F',Ending.returned (.slice a nn cc)=.returned x∧HR (setMap W2 L.am es' c') hp (h.drop n).1 F'∧Step w.heap.size F w (setMap W2 L.am es' c') F'∧Vx F' (setMap W2 L.am es' c') x c.o.values∧(∀ b o n c,x=.slice (some ⟨b,o,none⟩) n c→w.heap.size≤b) from by
  have e:(h.drop n).1={ (h.withRefs (hold (-1) h.refs c.o.values)) with all:=del (h.withRefs (hold (-1) h.refs c.o.values)).all n }:=by
   unfold Hp.drop;rw [HN.out];rfl
  have s2:Step w.heap.size F w W2 F:=(Step.of_bl HB.out.2 HRR.out.lt).call HB.out.2.sz (hs2.widen (fun b e=>by rw [e];exact HRR.out.own.2.2.1) hr2.lt)
  have s3:Step W2.heap.size F W2 (setMap W2 L.am es' c') F:=⟨rfl,rfl,rfl,by rw [setMap_size];exact Nat.le_refl _,fun k h1 h2=>setMap_other (fun e=>h2 (by rw [e];exact HRR.out.own.2.1)) _ _,fun _ h=>.inl h,hr3.lt⟩
  have v1:Vx F W2 (.slice a nn cc) c.o.values:=HB.out.1.step (hs2.widen (fun b e=>by rw [e];exact HRR.out.own.2.2.1) hr2.lt)
  exact ⟨_,F,rfl,by rw [e];exact ⟨_,hr3⟩,s2.call s2.size s3,v1.step s3,HFR.out⟩)
 clear hr3 hs2 hr2 dl ch f1
 go_wp2
 go_ret
 exact HE.out
end
section
open Go.RowKit
def seenF (f:MapEntry→Int):List MapEntry→Array Nat→Int
 | [],_=>0
 | x :: l,seen=>(if seen.contains x.born then f x else 0) + seenF f l seen
theorem seenF_other (f:MapEntry→Int) (seen:Array Nat) (b:Nat):∀ (es:List MapEntry),b ∉ es.map (·.born)→seenF f es (seen.push b)=seenF f es seen
 | [],_=>rfl
 | x :: l,h=>by
  have hx:(x.born == b)=false:=by
   cases hc:x.born == b with
   | false=>rfl
   | true=>exact absurd (List.mem_cons.2 (Or.inl (beq_iff_eq.1 hc).symm)) h
  have ih:=seenF_other f seen b l (fun e=>h (List.mem_cons.2 (Or.inr e)))
  simp only [seenF,contains_push,hx,Bool.or_false,ih]
theorem seenF_push (f:MapEntry→Int) (seen:Array Nat) (e:MapEntry) (hs:seen.contains e.born=false):∀ (es:List MapEntry),(es.map (·.born)).Nodup→e∈es→seenF f es (seen.push e.born)=seenF f es seen + f e
 | x :: l,hn,he=>by
  have hn':x.born ∉ l.map (·.born)∧(l.map (·.born)).Nodup:=List.nodup_cons.1 hn
  rcases List.mem_cons.1 he with rfl | h
  ·simp only [seenF,contains_push,hs,beq_self_eq_true,Bool.or_true,if_true,Bool.false_eq_true,if_false,seenF_other f seen e.born l hn'.1]
   omega
  ·have hx:(x.born == e.born)=false:=by
    cases hc:x.born == e.born with
    | false=>rfl
    | true=>exact absurd (by rw [beq_iff_eq.1 hc];exact List.mem_map.2 ⟨e,h,rfl⟩) hn'.1
   simp only [seenF,contains_push,hx,Bool.or_false,seenF_push f seen e hs l hn'.2 h]
   omega
theorem seenF_all (f:MapEntry→Int) (es:Array MapEntry) (seen:Array Nat) (h:(leftOf es seen).size=0):seenF f es.toList seen=(es.toList.map f).sum:=by
 have key:∀ l:List MapEntry,(∀ x∈l,seen.contains x.born=true)→seenF f l seen=(l.map f).sum:=by
  intro l
  induction l with
  | nil=>intro _;rfl
  | cons x l ih=>intro h;simp only [seenF,h x List.mem_cons_self,if_true,List.map_cons,List.sum_cons,ih fun y hy=>h y (List.mem_cons_of_mem _ hy)]
 exact key _ fun x hx=>all_seen es seen h x hx
theorem seenF_none (f:MapEntry→Int):∀ (es:List MapEntry),seenF f es #[]=0
 | []=>rfl
 | x :: l=>by simp [seenF,seenF_none f l]
theorem live_sum (h:Hp) (kind:Int):(h.live kind:Int)=(h.all.map fun p=>if kind=0∨p.2.kind=kind then (1:Int) else 0).sum:=by
 unfold Hp.live
 induction h.all with
 | nil=>rfl
 | cons p t ih =>
  rw [List.filter_cons,List.map_cons,List.sum_cons,← ih]
  by_cases h1:kind=0<;>by_cases h2:p.2.kind=kind<;>simp [h1,h2]<;>omega
theorem ents_sum {β:Type} {f:MapEntry→Int} {g:β→Int} {ev:β→Value} {ek:β→Value} {es:List MapEntry} {l:List β} (hl:es.map (·.val)=l.map ev) (hg:∀ e∈es,∀ c∈l,e.val=ev c→f e=g c):(es.map f).sum=(l.map g).sum:=by
 induction es generalizing l with
 | nil =>
  have:l=[]:=by simpa using hl.symm
  subst this;rfl
 | cons e t ih =>
  match l,hl with
  | c :: l,hl =>
   simp only [List.map_cons,List.cons.injEq] at hl
   rw [List.map_cons,List.sum_cons,List.map_cons,List.sum_cons,hg e List.mem_cons_self c List.mem_cons_self hl.1,ih hl.2 fun e he c hc=>hg e (List.mem_cons_of_mem _ he) c (List.mem_cons_of_mem _ hc)]
theorem heap_new (w:World):Calls Tryz.prog 21 #[] w fun e w'=>e=.returned (.pointer (some ⟨w.heap.size + 2,0,none⟩))∧HStep w (w.heap.size + 2) (fun _=>False) ⟨[],fun _=>0,0⟩ w':=by
 have hmm:=@run_makeMap Tryz.prog
 have h1:=(MapKept.heap_alloc w (.map #[] 0)).1
 have h2:=(MapKept.heap_alloc (w.alloc (.map #[] 0)) (.map #[] 0)).1
 have h3:=(MapKept.heap_alloc ((w.alloc (.map #[] 0)).alloc (.map #[] 0)) (.cells #[.map (some w.heap.size),.map (some (w.heap.size + 1)),.int .i64 0] 78)).1
 simp only [zL] at h2 h3
 have HE:=zH (show HStep w (w.heap.size + 2) (fun _=>False) ⟨[],fun _=>0,0⟩ (((w.alloc (.map #[] 0)).alloc (.map #[] 0)).alloc (.cells #[.map (some w.heap.size),.map (some (w.heap.size + 1)),.int .i64 0] 78)) from by
  have hm1:(((w.alloc (.map #[] 0)).alloc (.map #[] 0)).alloc (.cells #[.map (some w.heap.size),.map (some (w.heap.size + 1)),.int .i64 0] 78)).heap[w.heap.size]?=some (.map #[] 0) :=
   (Below.heap_alloc _ _ _ (by simp only [zL];omega)).trans ((Below.heap_alloc _ _ _ (by simp only [zL];omega)).trans h1)
  have hm2:(((w.alloc (.map #[] 0)).alloc (.map #[] 0)).alloc (.cells #[.map (some w.heap.size),.map (some (w.heap.size + 1)),.int .i64 0] 78)).heap[w.heap.size + 1]?=some (.map #[] 0) :=
   (Below.heap_alloc _ _ _ (by simp only [zL];omega)).trans h2
  refine ⟨fun b=>w.heap.size≤b∧b < w.heap.size + 3,⟨⟨w.heap.size,w.heap.size + 1,[],[]⟩,h3,⟨#[],0,hm1,Ents.nil⟩,⟨#[],0,hm2,Ents.nil⟩,fun _=>rfl,rfl,fun c hc=>(by cases hc),by simp,⟨show w.heap.size≠w.heap.size + 1 by omega,fun c hc=>(by cases hc)⟩,by simp,⟨by omega,show w.heap.size≤w.heap.size∧w.heap.size < w.heap.size + 3 by omega,show w.heap.size≤w.heap.size + 1∧w.heap.size + 1 < w.heap.size + 3 by omega,fun c hc=>(by cases hc)⟩,fun b hb=>by simp only [zL];omega,⟨#[],0,hm1,Born.nil 0⟩⟩,?_⟩
  refine ⟨rfl,rfl,rfl,by simp only [zL];omega,fun b hb _=>?_,fun b hb=>.inr hb.1,fun b hb=>by simp only [zL];omega⟩
  exact (Below.heap_alloc _ _ _ (by simp only [zL];omega)).trans ((Below.heap_alloc _ _ _ (by simp only [zL];omega)).trans (Below.heap_alloc _ _ _ hb)))
 go_enter Tryz.func21,Tryz.ntmps21
 go_wp2
 go_ret
 exact ⟨rfl,HE.out⟩
end
section
open Go.RowKit
open Go.ChangeMaps (setBlock)
def kindAt (w:World) (v:Value):Int:=match v with | .pointer (some a)=>(match w.cell? a with | some (.int _ k)=>k | _=>0) | _=>0
def liveF (w:World) (kind:Int) (e:MapEntry):Int:=if kind=0∨kindAt w e.val=kind then 1 else 0
theorem setBlock_size (w:World) (r:Nat) (o:Obj):(setBlock w r o).heap.size=w.heap.size:=by simp [setBlock]
theorem setBlock_at {w:World} {r:Nat} (h:r < w.heap.size) (o:Obj):(setBlock w r o).heap[r]?=some o:=by simp [setBlock,Array.getElem?_setIfInBounds,h]
theorem setBlock_other {w:World} {r k:Nat} (h:k≠r) (o:Obj):(setBlock w r o).heap[k]?=w.heap[k]?:=by simp [setBlock,Array.getElem?_setIfInBounds,Ne.symm h]
theorem Bl.setBlock {a w:World} (h:Bl a w) {r:Nat} (hr:a.heap.size≤r) (o:Obj):Bl a (setBlock w r o) :=
 ⟨h.os,h.tape,h.output,by rw [setBlock_size];exact h.sz,fun b hb=>(setBlock_other (by omega) o).trans (h.at hb)⟩
theorem wrap64_succ (n:Int):wrap64 (wrap64 n + 1)=wrap64 (n + 1):=by unfold wrap64;omega
set_option maxRecDepth 100000 in
set_option maxHeartbeats 8000000 in
theorem live_any (w:World) (hp:Nat) (h:Hp) (F:Foot) (r:HR w hp h F) (kind:Int) :
  Calls Tryz.prog 76 #[.pointer (some ⟨hp,0,none⟩),.int .i64 kind] w fun e w'=>e=.returned (.int .i64 (wrap64 (h.live kind)))∧Bl w w':=by
 obtain ⟨L,r⟩:=r
 obtain ⟨es,clock,hm,he,hbn⟩:=r.both
 obtain ⟨⟨f1,f2,f3⟩,f4,f5,f6,f7⟩:=r.head
 have hrg:=run_range_map (P:=Tryz.prog) w 75 2 87 L.am es clock Tryz.underlying75 hm
 have hent:∀ e∈es.toList,∃ c∈L.cos,e.key=.int .i64 c.n∧e.val=.pointer (some ⟨c.ob,0,none⟩)∧w.cell? ⟨c.ob,0,none⟩=some (.int .i64 c.o.kind)∧c.ob < w.heap.size:=by
  intro e hmem
  obtain ⟨i,hi⟩:=List.mem_iff_getElem?.1 hmem
  have hk:=congrArg (fun l=>l[i]?) he.keys
  have hv:=congrArg (fun l=>l[i]?) he.vals
  simp only [List.getElem?_map,hi,Option.map_some] at hk hv
  cases hc:L.cos[i]? with
  | none=>rw [hc] at hk;cases hk
  | some c =>
   rw [hc] at hk hv
   simp only [Option.map_some,Option.some.injEq] at hk hv
   have hmc:=List.mem_of_getElem? hc
   obtain ⟨⟨q,-⟩,q2⟩:=(r.obs c hmc).cells (Bl.refl w)
   exact ⟨c,hmc,hk,hv,q,q2⟩
 have hsum:(es.toList.map (liveF w kind)).sum=(h.live kind:Int):=by
  rw [live_sum,r.eq,List.map_map]
  refine ents_sum (β:=CO) (f:=liveF w kind) (ev:=fun c=>.pointer (some ⟨c.ob,0,none⟩)) (ek:=fun _=>.int .i64 0) ?_ ?_
  ·have:=he.vals
   rw [List.map_map] at this;exact this
  ·intro e he2 c hc hv
   obtain ⟨⟨q,-⟩,-⟩:=(r.obs c hc).cells (Bl.refl w)
   show (if kind=0∨kindAt w e.val=kind then (1:Int) else 0)=_
   have:kindAt w e.val=c.o.kind:=by rw [hv];simp [kindAt,q]
   rw [this];rfl
 have hbd:∀ x∈es.toList,x.born < clock:=hbn.1
 have HR:=zH r
 have HM:=zH hm
 have HBN:=zH hbn
 have HSUM:=zH hsum
 have HENT:=zH hent
 have HBD:=zH hbd
 clear r hm he hbn hent hsum hbd f2 f3 f4 f7
 have hk0:(kind == 0)=true∨(kind == 0)=false:=by cases kind == 0<;>simp
 rcases hk0 with t0 | t0
 all_goals
  have T0:=zH t0
  go_enter Tryz.func76,Tryz.ntmps76
  go_wp2
  go_loopw [5] (fun v5 wr=>∃ seen:Array Nat,Bl w wr∧wr.heap[w.heap.size]?=some (.mapIter (some L.am) clock seen clock)∧v5=.int .i64 (wrap64 (seenF (liveF w kind) es.toList seen))) (fun _ wr=>(leftOf es (wr.iterSeen w.heap.size)).size)
  case atStart=>exact ⟨#[],Bl.al _ _,(MapKept.heap_alloc w _).1,by rw [seenF_none,show wrap64 0=0 from by unfold wrap64;omega]⟩
  case round =>
   obtain ⟨seen,hb,hit,rfl⟩:=hrel
   have hb1:wr.heap[L.am]?=some (.map es clock):=(hb.at f6).trans HM.out
   have hitl:=(zN hit).1
   rcases run_next_at (P:=Tryz.prog) wr 0 w.heap.size L.am clock clock seen es clock hit hb1 HBD.out (Nat.le_refl _) with ⟨h0,hrun⟩ | ⟨e,he,w1,hw1,hrun⟩
   ·have hnx:∀ ty,(Instr.next (.pointer (some ⟨w.heap.size,0,none⟩)) false ty).run Tryz.prog wr=_:=fun _=>hrun
    have HE:=zH (show seenF (liveF w kind) es.toList seen=(h.live kind:Int)∧Bl w wr from ⟨by rw [seenF_all _ es seen h0];exact HSUM.out,hb⟩)
    clear hb1 hb hit
    go_wp2
    go_ret
    exact ⟨by rw [HE.out.1];rfl,HE.out.2⟩
   ·obtain ⟨c,hc,hkey,hval,hcell,hcl⟩:=HENT.out e (mem_left he).1
    have hbw1:Bl wr w1:=by rcases hw1 with rfl | rfl;exact Bl.refl _;exact Bl.dr _
    have hlt1:w.heap.size < w1.heap.size:=Nat.lt_of_lt_of_le hitl hbw1.sz
    obtain ⟨W,hW⟩:∃ W,W=setBlock w1 w.heap.size (.mapIter (some L.am) clock (seen.push e.born) clock):=⟨_,rfl⟩
    have hbW:Bl w W:=by rw [hW];exact (hb.trans hbw1).setBlock (Nat.le_refl _) _
    have hitW:W.heap[w.heap.size]?=some (.mapIter (some L.am) clock (seen.push e.born) clock):=by rw [hW];exact setBlock_at hlt1 _
    have hen:=run_entry_at (P:=Tryz.prog) W w.heap.size L.am clock seen es clock e hitW ((hbW.at f6).trans HM.out) (mem_left he).1 HBN.out.2
    rw [hkey,hval] at hrun hen
    rw [← hW] at hrun
    have hnx:∀ ty,(Instr.next (.pointer (some ⟨w.heap.size,0,none⟩)) false ty).run Tryz.prog wr=_:=fun _=>hrun
    have hcell2:W.cell? ⟨c.ob,0,none⟩=some (.int .i64 c.o.kind):=hbW.sm hcell
    have hlf:liveF w kind e=if kind=0∨c.o.kind=kind then 1 else 0:=by unfold liveF;rw [hval];simp [kindAt,hcell]
    have hpush:=seenF_push (liveF w kind) seen e (mem_left he).2 es.toList HBN.out.2 (mem_left he).1
    have HM1:=zH (left_shrinks es seen e he)
    have HP:=zH (And.intro hlf hpush)
    have HA:=zH (And.intro hbW (And.intro hitW hit))
    clear hb1 hrun hlf hpush he hval hkey hcell hb hbw1 hlt1 hW hbW hitW hit hw1
    have hk1:(c.o.kind == kind)=true∨(c.o.kind == kind)=false:=by cases c.o.kind == kind<;>simp
    rcases hk1 with t1 | t1
    all_goals
     go_wp2
     go_roundw
     case rel =>
      refine ⟨seen.push e.born,HA.out.1,HA.out.2.1,?_⟩
      rw [HP.out.2,HP.out.1]
      have u0:=T0.out
      simp only [beq_iff_eq,beq_eq_false_iff_ne] at u0 t1
      simp [u0,t1,wrap64_succ]
     case measure =>
      have:=HM1.out
      have e1:wr.iterSeen w.heap.size=seen:=by unfold World.iterSeen;rw [HA.out.2.2]
      have e2:W.iterSeen w.heap.size=seen.push e.born:=by unfold World.iterSeen;rw [HA.out.2.1]
      rw [e1,e2]
      exact this
end
section
open Go.RowKit
theorem Tryz.infoI:(Tryz.prog.info? 2).map (fun i=>(i.zero,i.size,i.bytes))=some (some (.int .i64 0),1,8):=by kernel_rfl
abbrev ints (l:List Int):List Value:=l.map fun n=>.int .i64 n
def lookTo (h:Hp) (wait:List Int) (n:Int):List Int:=if (get h.all n).isSome=true∧h.refs n=0 then wait++[n] else wait
abbrev Wait (wb base:Nat) (wait:List Int) (v:Value) (w:World):Prop:=Coll wb base 156 2 1 wait.length (ints wait) v w
def Looked (w:World) (wb base:Nat) (wait:List Int) (v:Value) (w':World):Prop :=
 ∃ v',Wait wb base wait v' w'∧Step w.heap.size (CFoot wb v) w w' (fun b=>CFoot wb v b∨CFoot wb v' b)
theorem Looked.of_bl {w w':World} {wb base:Nat} {wait:List Int} {v:Value} (h:Wait wb base wait v w) (hb:Bl w w'):Looked w wb base wait v w' :=
 ⟨v,h.keep fun b hb'=>hb.at (h.lt b hb'),by
  have:=Step.of_bl (F:=CFoot wb v) hb h.lt
  exact ⟨this.os,this.tape,this.output,this.size,this.block,fun b hb=>.inl (hb.elim id id),fun b hb=>this.lt b (hb.elim id id)⟩⟩
set_option maxRecDepth 100000 in
set_option maxHeartbeats 8000000 in
theorem look_yes (w:World) (hp:Nat) (h:Hp) (F:Foot) (r:HR w hp h F) (n:Int) (hb wb base:Nat) (wait:List Int) (v:Value) (hbx:w.heap[hb]?=some (.cells #[.pointer (some ⟨hp,0,none⟩)] 52 (0,0)))
  (hc:Wait wb base wait v w) (hbase:base≤w.heap.size) (hl:wait.length≤4398046511104) (h1:(get h.all n).isSome=true) (h2:h.refs n=0) :
  Calls Tryz.prog 144 #[.int .i64 n,.pointer (some ⟨hb,0,none⟩),.pointer (some ⟨wb,0,none⟩)] w fun e w'=>e=.returned (.tuple #[])∧Looked w wb base (wait++[n]) v w':=by
 obtain ⟨i0,hi,hz0,hz1,hz2⟩:=info_parts Tryz.infoI
 obtain ⟨L,r⟩:=r
 obtain ⟨⟨f1,f2,f3⟩,f4,f5,f6,f7⟩:=r.head
 obtain ⟨o,ho⟩:=Option.isSome_iff_exists.1 h1
 obtain ⟨ob,hob⟩:∃ ob,get (L.cos.map fun c=>(c.n,c.ob)) n=some ob:=by
  rcases r.find n with ⟨e1,-⟩ | ⟨c,-,-,-,e3⟩
  ·rw [ho] at e1;cases e1
  ·exact ⟨_,e3⟩
 have lk:(Instr.lookup 75 (.map (some L.am)) (.int .i64 n) false).run Tryz.prog w=.ok (.pointer (some ⟨ob,0,none⟩)) w:=by
  rw [r.look n w rfl,hob];rfl
 have lr:(Instr.lookup 76 (.map (some L.rm)) (.int .i64 n) false).run Tryz.prog w=.ok (.int .i64 0) w:=by
  rw [r.lookR n w rfl,h2]
 have g0:w.cell? ⟨hb,0,none⟩=some (.pointer (some ⟨hp,0,none⟩)):=by rw [cell_of hbx];rfl
 obtain ⟨g1,g2⟩:=hc.cells
 have hwl:=(zN hc.box).1
 obtain ⟨g',cap',w4,hap,d1,d2,hsz4,hC3,hstep⟩:=hc.app 156 i0 _ 8 Tryz.underlying156 hi hz0 hz1 hz2 rfl (by decide) [.int .i64 n] rfl (by intro u hu;simp at hu;rw [hu];rfl) (by unfold maxLen;omega) (by omega) hbase (by decide)
 have ap:(Builtin.append_ #[156,156] 156 #[v,.slice (some ⟨w.heap.size,0,none⟩) 1 1]).run Tryz.prog (w.alloc (.cells #[.int .i64 n] 2))=.ok (.slice (some ⟨g',0,none⟩) (wait.length + 1) cap') w4:=hap _
 have HE:=zH (show Looked w wb base (wait++[n]) v (w4.setCell ⟨wb,0,none⟩ (.slice (some ⟨g',0,none⟩) (wait.length + 1) cap')) from by
  obtain ⟨F',hst,hF'⟩:=hstep (CFoot wb v) (fun b hb=>hb) hc.lt
  refine ⟨.slice (some ⟨g',0,none⟩) (wait.length + 1) cap',by simpa [Wait,ints] using hC3,hst.os,hst.tape,hst.output,hst.size,hst.block,?_,?_⟩
  ·rintro b (hb | hb | hb)
   ·exact .inl hb
   ·exact .inl (.inl hb)
   ·cases hb;exact hst.foot _ ((hF' _).2 (.inr rfl))
  ·rintro b (hb | hb | hb)
   ·exact hst.lt b ((hF' _).2 (.inl hb))
   ·exact hst.lt b ((hF' _).2 (.inl (.inl hb)))
   ·cases hb;exact hst.lt _ ((hF' _).2 (.inr rfl)))
 clear r hc hbx ho hob h1 h2 hC3 hstep hap hi hz0 hz1 hz2 f3 f4
 go_enter Tryz.func144,Tryz.ntmps144
 go_wp2_with (at_builtin;refine wpList_app rfl (.tmp 20) (.tmp 22) 156 rfl v (.slice (some ⟨w.heap.size,0,none⟩) 1 1) (by simp [Go.Act.eval]) (by simp [Go.Act.eval]) (.slice (some ⟨g',0,none⟩) (wait.length + 1) cap') w4 ap ?_)
 go_end0
 exact ⟨rfl,HE.out⟩
set_option maxRecDepth 100000 in
theorem look_no (w:World) (hp:Nat) (h:Hp) (F:Foot) (r:HR w hp h F) (n:Int) (hb wb:Nat) (hbx:w.heap[hb]?=some (.cells #[.pointer (some ⟨hp,0,none⟩)] 52 (0,0)))
  (hno:¬ ((get h.all n).isSome=true∧h.refs n=0)) :
  Calls Tryz.prog 144 #[.int .i64 n,.pointer (some ⟨hb,0,none⟩),.pointer (some ⟨wb,0,none⟩)] w fun e w'=>e=.returned (.tuple #[])∧Bl w w':=by
 obtain ⟨L,r⟩:=r
 obtain ⟨⟨f1,f2,f3⟩,f4,f5,f6,f7⟩:=r.head
 have g0:w.cell? ⟨hb,0,none⟩=some (.pointer (some ⟨hp,0,none⟩)):=by rw [cell_of hbx];rfl
 rcases r.find n with ⟨h0,e3⟩ | ⟨c,-,-,h0,e3⟩
 ·have lk:(Instr.lookup 75 (.map (some L.am)) (.int .i64 n) false).run Tryz.prog w=.ok (.pointer none) w:=by
   rw [r.look n w rfl,e3];rfl
  clear r hbx hno h0 e3 f3 f4
  go_enter Tryz.func144,Tryz.ntmps144
  go_wp2
  go_end0
  exact ⟨rfl,by (repeat (first | exact qA _ | assumption | refine qB ?_ _ | refine qC ?_ | refine qD ?_ _ | refine qE ?_ _ (by simp<;>omega) _))⟩
 ·have lk:(Instr.lookup 75 (.map (some L.am)) (.int .i64 n) false).run Tryz.prog w=.ok (.pointer (some ⟨c.ob,0,none⟩)) w:=by
   rw [r.look n w rfl,e3];rfl
  have lr:=r.lookR n w rfl
  have hne:(h.refs n == 0)=false:=by
   rw [beq_eq_false_iff_ne]
   intro e;exact hno ⟨by rw [h0];rfl,e⟩
  clear r hbx hno h0 e3 f3 f4
  go_enter Tryz.func144,Tryz.ntmps144
  go_wp2
  go_end0
  exact ⟨rfl,by (repeat (first | exact qA _ | assumption | refine qB ?_ _ | refine qC ?_ | refine qD ?_ _ | refine qE ?_ _ (by simp<;>omega) _))⟩
theorem look_any (w:World) (hp:Nat) (h:Hp) (F:Foot) (r:HR w hp h F) (n:Int) (hb wb base:Nat) (wait:List Int) (v:Value) (hbx:w.heap[hb]?=some (.cells #[.pointer (some ⟨hp,0,none⟩)] 52 (0,0)))
  (hc:Wait wb base wait v w) (hbase:base≤w.heap.size) (hl:wait.length≤4398046511104) :
  Calls Tryz.prog 144 #[.int .i64 n,.pointer (some ⟨hb,0,none⟩),.pointer (some ⟨wb,0,none⟩)] w fun e w'=>e=.returned (.tuple #[])∧Looked w wb base (lookTo h wait n) v w':=by
 by_cases hy:(get h.all n).isSome=true∧h.refs n=0
 ·rw [lookTo,if_pos hy];exact look_yes w hp h F r n hb wb base wait v hbx hc hbase hl hy.1 hy.2
 ·rw [lookTo,if_neg hy];exact (look_no w hp h F r n hb wb hbx hy).mono fun e w' ⟨h1,h2⟩=>⟨h1,Looked.of_bl hc h2⟩
end
end Go.Proofs.YtlbcbikplfocfaaGreatDoor.W
