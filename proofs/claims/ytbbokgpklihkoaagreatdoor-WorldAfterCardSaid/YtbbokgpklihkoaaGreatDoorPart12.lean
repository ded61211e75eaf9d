/- Values Drop Live Live2 Look SweepP Sweep1 -/
import Derived.Test.YtbbokgpklihkoaaGreatDoorPart11
import Derived.Shelf.Abstract
import Derived.Laws.IdiomRangeMap
import Derived.LoopTactic
import Derived.Maps.RangeRun
set_option linter.unusedVariables false
set_option linter.unusedSimpArgs false
namespace Go.Proofs.YtbbokgpklihkoaaGreatDoor.W
section
open Go.RowKit Go.Shelf
attribute [local go_sem] Oper.semAt_some
theorem vals_take {d:Row} {k:Nat} {p:V × V} (h:d[k]?=some p):((d.take (k + 1)).map (·.2)).flatMap V.cs=((d.take k).map (·.2)).flatMap V.cs++p.2.cs:=by
 rw [List.take_add_one,h];simp
set_option maxRecDepth 100000 in
set_option maxHeartbeats 8000000 in
theorem values_any (w:World) (c:CO) (ho:ObAt w c) :
  Calls Tryz.prog 353 #[.pointer (some ⟨c.ob,0,none⟩)] w (NewVs w c.o.values):=by
 obtain ⟨i0,hi,hz0,hz1,hz2⟩:=info_parts Tryz.infoV
 have hfew:=ho.dict.few.2
 have hfi:=ho.few
 replace hfi:c.o.items.length≤1048576:=hfi
 obtain ⟨⟨c1,c2,c3,c4,c5⟩,c6⟩:=ho.cells (Bl.refl w)
 have hvi:=Vs.of_own ho.items
 have cl:=clone_any w c.it c.o.items hvi ho.few
 have HD:=zH ho.dict
 clear ho c1 c2 c3 hvi
 refine (callsIn_wide (n:=3)).1 ?_
 refine callsIn_of_wp_marks Tryz.func353 rfl trivial ?_ rfl
 simp only [Tryz.ntmps353,zS,Nat.reduceAdd,Nat.reduceSub]
 gi_wp2_with (refine ⟨trivial,?_⟩;first | (gi_at_call 292;refine (callsIn_wide.2 cl).mono ?_;rintro e W0 hx;obtain ⟨a,nn,cc,rfl,hx2,hb0⟩:=hx.form;have c5':=hb0.sm c5;have hs0:=hb0.sz;have c7:c.ob < W0.heap.size:=Nat.lt_of_lt_of_le c6 hs0;have hn7:¬ c.ob=W0.heap.size:=(Nat.ne_of_lt c7);have HX:=zH hx2;clear hx hx2) | (gi_at_call 431;refine (callsIn_wide.2 (dict_all _ _)).mono ?_;rintro e w' ⟨rfl,rfl⟩))
 refine named (p:=fun W=>Code.wpIn _ _ _ _ _ _ W) (fun W1 hW1=>?_)
 have hb01:Bl W0 W1:=by rw [hW1];(repeat (first | exact qA _ | assumption | refine qB ?_ _ | refine qC ?_ | refine qD ?_ _ | refine qE ?_ _ (by simp<;>omega) _))
 have hs1:W1.heap.size=W0.heap.size + 2:=by rw [hW1,zL,zL]
 have hbox:W1.heap[W0.heap.size]?=some (.cells #[.slice a nn cc] 30 (0,0)):=by
  rw [hW1];exact (Below.heap_alloc _ _ _ (by simp)).trans (MapKept.heap_alloc W0 _).1
 have hptr:W1.heap[W0.heap.size + 1]?=some (.cells #[.pointer (some ⟨c.db,0,none⟩)] 104 (0,0)):=by
  rw [hW1]
  have:=(MapKept.heap_alloc (W0.alloc (.cells #[.slice a nn cc] 30)) (.cells #[.pointer (some ⟨c.db,0,none⟩)] 104)).1
  rw [zL] at this
  exact this
 have hrow:W1.ownsRow w.heap.size 23 3 (.slice a nn cc) c.o.items.length (c.o.items.flatMap V.cs):=by
  obtain ⟨x,hx,hr,-⟩:=HX.out
  cases hx
  exact ⟨hr.1,hr.2.elim .inl (fun ⟨g,cap,cur,e,h0,hg,q⟩=>.inr ⟨g,cap,cur,e,h0,(hb01.at (zN hg).1).trans hg,q⟩)⟩
 have hown:∀ b,(Value.slice a nn cc).ownBlock=some b→w.heap.size≤b∧b < W0.heap.size:=fun b hb=>by
  obtain ⟨x,hx,hr,-⟩:=HX.out
  cases hx
  exact hr.lt b hb
 have hb1:=hb0.trans hb01
 have hd1:=HD.out.blm hb1
 clear hW1 c4 c5 c6 c5' c7 hn7 cl hb0 hb01
 refine range_fn (gf:=471) (lb:=#[.pointer (some ⟨W0.heap.size + 1,0,none⟩)]) rfl (enters_of Tryz.func471 (by kernel_rfl) rfl) (all_any (W0.heap.size + 1) c.db c.mb c.sl c.rows c.o.d) ?_
  (fun k F W=>∃ v,Coll W0.heap.size w.heap.size 30 23 3 (c.o.items.length + k) (c.o.items.flatMap V.cs++((c.o.d.take k).map (·.2)).flatMap V.cs) v W∧(∀ b,CFoot W0.heap.size v b→F b)∧(∀ b,F b→b < W.heap.size)∧(∀ b,F b→w.heap.size≤b))
  (fun _ _ _=>False) ?stI ?stX ?ltI (fun b=>b=W0.heap.size∨(Value.slice a nn cc).ownBlock=some b) ?h0 ?hpre ?hround ?hdone ?hstop
 ·intro x hx
  obtain ⟨p,-,rfl⟩:=List.mem_map.1 hx
  rfl
 case stI =>
  rintro k F W W' ⟨v,hc,h1,h2,h3⟩ hk
  exact ⟨v,hc.keep (fun b hb=>hk.block b (h1 b hb)),h1,fun b hb=>Nat.lt_of_lt_of_le (h2 b hb) hk.size,h3⟩
 case stX=>intro c F W W' h _;exact h
 case ltI=>rintro k F W ⟨v,hc,h1,h2,h3⟩;exact h2
 case h0 =>
  refine ⟨.slice a nn cc,⟨hbox,by simpa using hrow⟩,fun b hb=>hb,?_,?_⟩
  ·rintro b (rfl | h)
   ·omega
   ·have:=(hown b h).2;omega
  ·rintro b (rfl | h)
   ·omega
   ·have:=hown b h;omega
 case hpre =>
  intro W F hb _ _
  exact ⟨by rw [cell_of ((hb.at (by omega)).trans hptr)];rfl,hd1.blm hb⟩
 case hround =>
  rintro l k x F W K hx ⟨v,hc,h1,h2,h3⟩ hnl hll hK
  obtain ⟨p,hp,rfl⟩:∃ p,c.o.d[k]?=some p∧x=#[p.1.agg,p.2.agg]:=by
   unfold pairsOf at hx
   rw [List.getElem?_map] at hx
   cases hp:c.o.d[k]? with
   | none=>rw [hp] at hx;cases hx
   | some p=>rw [hp] at hx;injection hx with hx;exact ⟨p,rfl,hx.symm⟩
  have hkd:=(List.getElem?_eq_some_iff.1 hp).1
  have HK:=zH hK
  have HC:=zH hc
  have HP:=zH hp
  have HRW:=zH (And.intro hrow hown)
  clear hK hc hx hp hrow hown
  obtain ⟨n,hn⟩:∃ n,n=c.o.items.length:=⟨_,rfl⟩
  gi_wp2
  refine HK.out _ _ (by (repeat (first | exact qA _ | assumption | refine qB ?_ _ | refine qC ?_ | refine qD ?_ _ | refine qE ?_ _ (by simp<;>omega) _))) ?_
  intro Wb hWb hsb hos htp hou
  have hWl:W.heap.size≠l:=by omega
  have hC2:Coll W0.heap.size w.heap.size 30 23 3 (c.o.items.length + k) (c.o.items.flatMap V.cs++((c.o.d.take k).map (·.2)).flatMap V.cs) v Wb:=HC.out.keep fun b hb=>by
   have hb2:=h1 b hb
   rw [hWb b (fun e=>hnl (by rw [← e];exact hb2))]
   exact Below.heap_alloc _ _ _ (h2 b hb2)
  have hnb:Wb.heap[W.heap.size]?=some (.cells p.2.ca 23 (0,0)):=by
   rw [hWb _ hWl];exact (MapKept.heap_alloc W _).1
  obtain ⟨q1,q2⟩:=hC2.cells
  rw [← hn] at hC2 hfi
  obtain ⟨g',cap',w4,hap,d1,d2,hsz4,hC3,hstep⟩:=hC2.app 30 i0 _ 32 Tryz.underlying30 hi hz0 hz1 hz2 rfl (by decide) p.2.cs rfl (cs_one _) (by unfold maxLen;omega) (by omega) (by rw [hsb,zL];have:=h2 _ (h1 _ (.inl rfl));omega) (by decide)
  obtain ⟨F',hst,hF'⟩:=hstep F (fun b hb=>h1 b hb) (fun b hb=>by rw [hsb,zL];exact Nat.lt_succ_of_lt (h2 b hb))
  have y0:Wb.cell? ⟨W.heap.size,0,none⟩=some (.int .i64 p.2.k):=by rw [cell_of hnb];rfl
  have y1:Wb.cell? ⟨W.heap.size,1,none⟩=some (.int .i64 p.2.n):=by rw [cell_of hnb];rfl
  have y2:Wb.cell? ⟨W.heap.size,2,none⟩=some (.string (bs p.2.s)):=by rw [cell_of hnb];rfl
  have HREL:=zH (show ∃ F',Step Wb.heap.size F Wb (w4.setCell ⟨W0.heap.size,0,none⟩ (.slice (some ⟨g',0,none⟩) (n + k + 1) cap')) F'∧∃ v,Coll W0.heap.size w.heap.size 30 23 3 (c.o.items.length + (k + 1)) (c.o.items.flatMap V.cs++((c.o.d.take (k + 1)).map (·.2)).flatMap V.cs) v (w4.setCell ⟨W0.heap.size,0,none⟩ (.slice (some ⟨g',0,none⟩) (n + k + 1) cap'))∧(∀ b,CFoot W0.heap.size v b→F' b)∧(∀ b,F' b→b < (w4.setCell ⟨W0.heap.size,0,none⟩ (.slice (some ⟨g',0,none⟩) (n + k + 1) cap')).heap.size)∧(∀ b,F' b→w.heap.size≤b) from by
   refine ⟨F',hst,_,by rw [vals_take HP.out,← hn,← List.append_assoc];exact hC3,?_,hst.lt,?_⟩
   ·rintro b (rfl | hb)
    ·exact (hF' _).2 (.inl (h1 _ (.inl rfl)))
    ·cases hb;exact (hF' _).2 (.inr rfl)
   ·intro b hb
    rcases hst.foot b hb with h | h
    ·exact h3 b h
    ·have:=h2 _ (h1 _ (.inl rfl));rw [hsb,zL] at h;omega)
  have ap:(Builtin.append_ #[30,30] 30 #[v,.slice (some ⟨Wb.heap.size,0,none⟩) 1 1]).run Tryz.prog (Wb.alloc (.cells p.2.ca 23))=.ok (.slice (some ⟨g',0,none⟩) (n + k + 1) cap') w4:=hap _
  have hll2:W0.heap.size < Wb.heap.size:=by rw [hsb,zL];have:=h2 _ (h1 _ (.inl rfl));omega
  have hll3:W.heap.size < Wb.heap.size:=by rw [hsb,zL];omega
  clear HC HP hWb hC2 hnb hC3 hstep hst hF' hap hsb
  gi_wp2_with (gi_at_builtin;refine wpListIn_app rfl (.tmp 18) (.tmp 20) 30 rfl v (.slice (some ⟨Wb.heap.size,0,none⟩) 1 1) (by simp [Go.Act.eval]) (by simp [Go.Act.eval]) (.slice (some ⟨g',0,none⟩) (n + k + 1) cap') w4 ap ?_)
  have HR2:=HREL.out
  rw [hn] at HR2
  exact HR2
 case hdone =>
  rintro F' W' hst ⟨v,hc,h1,h2,h3⟩ hD hnD
  obtain ⟨a,c',rfl⟩:=hc.form
  obtain ⟨q1,q2⟩:=hc.cells
  have hbw:Below w.heap.size w W':=by
   refine ⟨hst.os.trans hb1.os,hst.tape.trans hb1.tape,hst.output.trans hb1.output,Nat.le_trans hb1.sz hst.size,fun b hb=>?_⟩
   rw [hst.block b (by omega) (fun e=>by rcases e with e | e;omega;(have:=hown b e;omega))]
   exact hb1.at hb
  have HF:=zH (show ∀ o,NewVs w c.o.values (.returned (.slice a (c.o.items.length + (pairsOf c.o.d).length) c')) (W'.putObj W1.heap.size o) from fun o=>by
   have e:(pairsOf c.o.d).length=c.o.d.length:=by simp [pairsOf]
   refine NewVs.put ⟨_,rfl,?_,hbw⟩ (by omega) (fun b hb e=>hnD (by rw [← e];exact h1 b (.inr hb))) o
   have h:=hc.row
   rw [e,List.take_length] at h
   unfold Ob.values
   rw [e,List.length_append,List.length_map,List.flatMap_append]
   exact h)
  have HDD:=zH hD
  clear hst hc h1 h2 h3 hnD hbw hD
  gi_wp2
  refine ⟨by simp,.inl ⟨_,_,rfl,run_takeDeferred HDD.out,?_⟩⟩
  refine ⟨_,results_tmp (t:=2) rfl _ _ _,?_⟩
  exact HF.out _
 case hstop=>intro c F' W' _ h _ _;exact h.elim
end
section
open Go.RowKit
def delC:List CO→Int→List CO
 | [],_=>[]
 | d :: t,n=>if d.n=n then t else d :: delC t n
theorem delC_map {γ:Type} (f:CO→γ) (l:List CO) (n:Int):(delC l n).map (fun d=>(d.n,f d))=del (l.map fun d=>(d.n,f d)) n:=by
 induction l with
 | nil=>rfl
 | cons d t ih =>
  by_cases h:d.n=n
  ·simp [delC,del,h]
  ·simp only [delC,if_neg h,List.map_cons,del,ih]
theorem delC_sub (l:List CO) (n:Int):(delC l n).Sublist l:=by
 induction l with
 | nil=>exact List.Sublist.refl _
 | cons d t ih =>
  by_cases h:d.n=n
  ·simp only [delC,if_pos h];exact List.sublist_cons_self _ _
  ·simp only [delC,if_neg h];exact ih.cons_cons _
theorem HRL.del_all {w:World} {hp:Nat} {h:Hp} {F:Foot} {L:Lay} (r:HRL w hp h F L) (n:Int) :
  ∃ es' c',(∀ (W':World) (rt:TypeId),W'.heap[L.am]?=w.heap[L.am]?→(Builtin.delete_ #[93,2] rt #[.map (some L.am),.int .i64 n]).run Tryz.prog W'=.ok (.tuple #[]) (setMap W' L.am es' c')) ∧
   HRL (setMap w L.am es' c') hp { h with all:=del h.all n } F { L with cos:=delC L.cos n }:=by
 obtain ⟨es,c,hm,he,hbn⟩:=r.both
 obtain ⟨es2,c2,hm2,he2⟩:=r.refs
 obtain ⟨es',c',hdel,he',hb'⟩:=run_delB Tryz.underlying93 (key_i64 Tryz.underlying2) (ek:=fun n:Int=>Value.int .i64 n) (ev:=fun b:Nat=>Value.pointer (some ⟨b,0,none⟩)) he n #[93,2] rfl c
 have ham:=(zN hm).1
 have hoth:∀ b,b≠L.am→(setMap w L.am es' c').heap[b]?=w.heap[b]?:=fun b h=>setMap_other h _ _
 have hhp:hp≠L.am:=by rintro e;have:=r.blk;rw [e,hm] at this;cases this
 have hsub:=delC_sub L.cos n
 refine ⟨es',c',fun W' rt hW'=>hdel W' L.am rt (hW'.trans hm),(hoth hp hhp).trans r.blk,⟨es',c',setMap_at ham _ _,?_⟩,⟨es2,c2,(hoth _ r.ne.1.symm).trans hm2,he2⟩,r.lr,?_,fun d hd=>?_,nodup_del r.nd n,⟨r.ne.1,fun d hd=>r.ne.2 d (hsub.subset hd)⟩,r.apart.sublist hsub,⟨r.own.1,r.own.2.1,r.own.2.2.1,fun d hd=>r.own.2.2.2 d (hsub.subset hd)⟩,fun b hb=>by rw [setMap_size];exact r.lt b hb,⟨es',c',setMap_at ham _ _,hb' hbn⟩⟩
 ·have:(delC L.cos n).map (fun c=>(c.n,c.ob))=_:=delC_map (·.ob) L.cos n
  rw [this];exact he'
 ·show del h.all n=_
  rw [r.eq];exact (delC_map (·.o) L.cos n).symm
 ·have hd:=hsub.subset hd
  exact (r.obs d hd).keep fun b hb=>hoth b (fun e=>(r.notIn hd).2.1 (by rw [← e];exact hb))
theorem NewVs.fresh {w w':World} {l:List V} {x:Value} (h:NewVs w l (.returned x) w'):∀ b o n c,x=.slice (some ⟨b,o,none⟩) n c→w.heap.size≤b:=by
 rintro b o n c rfl
 obtain ⟨y,hy,ho,hb⟩:=h
 cases hy
 rcases ho.2 with ⟨e2,-⟩ | ⟨g,cap,cur,e2,h0,-⟩
 ·cases e2
 ·cases e2;exact h0
theorem ents_len (o:Ob) (h1:o.items.length≤1048576) (h2:o.d.length≤4096):o.values.length≤2097152:=by
 unfold Ob.values;rw [List.length_append,List.length_map];omega
set_option maxRecDepth 100000 in
set_option maxHeartbeats 8000000 in
theorem drop_any (w:World) (hp:Nat) (h:Hp) (F:Foot) (r:HR w hp h F) (n:Int) (o:Ob) (hn:get h.all n=some o) :
  Calls Tryz.prog 225 #[.pointer (some ⟨hp,0,none⟩),.int .i64 n] w fun e w'=>∃ x F',e=.returned x∧HR w' hp (h.drop n).1 F'∧Step w.heap.size F w w' F'∧Vx F' w' x o.values∧(∀ b o n c,x=.slice (some ⟨b,o,none⟩) n c→w.heap.size≤b):=by
 obtain ⟨L,r⟩:=r
 obtain ⟨c,hc,hcn,rfl,hcob⟩:∃ c,c∈L.cos∧c.n=n∧o=c.o∧get (L.cos.map fun c=>(c.n,c.ob)) n=some c.ob:=by
  rcases r.find n with ⟨h1,-⟩ | ⟨c,hc,e1,e2,e3⟩
  ·rw [hn] at h1;cases h1
  ·rw [hn] at e2;cases e2;exact ⟨c,hc,e1,rfl,e3⟩
 obtain ⟨⟨f1,f2,f3⟩,f4,f5,f6,f7⟩:=r.head
 have lk:(Instr.lookup 93 (.map (some L.am)) (.int .i64 n) false).run Tryz.prog w=.ok (.pointer (some ⟨c.ob,0,none⟩)) w:=by
  rw [r.look n w rfl,hcob];rfl
 have cv:=values_any w c (r.obs c hc)
 have hlen:=ents_len c.o (r.obs c hc).few (r.obs c hc).dict.few.2
 have HRR:=zH r
 have HN:=zH hn
 clear r hn hc hcn hcob f2 f3 f4
 go_enter Tryz.func225,Tryz.ntmps225
 go_wp2_with fail
 refine cv.mono ?_
 rintro e W1 hx
 obtain ⟨a,nn,cc,rfl,hx2,hb1⟩:=hx.form
 have hv:=hx2.vx HRR.out.lt
 have HFR:=zH (hx2.fresh)
 have hr1:=HRR.out.bl hb1
 have ch:=hold_wide W1 hp h F L hr1 (-1) _ _ hv.vs hlen
 have HB:=zH (And.intro hv hb1)
 clear hx hx2 hv hb1 hr1 cv f1 f5 f6 f7 lk
 go_wp2_with fail
 refine ch.mono ?_
 rintro e W2 ⟨rfl,lr,hr2,hs2⟩
 obtain ⟨⟨f1,f2,f3⟩,f4,f5,f6,f7⟩:=hr2.head
 obtain ⟨es',c',dl,hr3⟩:=hr2.del_all n
 have dl2:∀ rt,(Builtin.delete_ #[93,2] rt #[.map (some L.am),.int .i64 n]).run Tryz.prog W2=.ok (.tuple #[]) (setMap W2 L.am es' c'):=fun rt=>dl W2 rt rfl
 have f1':W2.cell? ⟨hp,0,none⟩=some (.map (some L.am)):=f1
 have HE:=zH (show ∃ x F',Ending.returned (.slice a nn cc)=.returned x∧HR (setMap W2 L.am es' c') hp (h.drop n).1 F'∧Step w.heap.size F w (setMap W2 L.am es' c') F'∧Vx F' (setMap W2 L.am es' c') x c.o.values∧(∀ b o n c,x=.slice (some ⟨b,o,none⟩) n c→w.heap.size≤b) from by
  have e:(h.drop n).1={ (h.withRefs (hold (-1) h.refs c.o.values)) with all:=del (h.withRefs (hold (-1) h.refs c.o.values)).all n }:=by
   unfold Hp.drop;rw [HN.out];rfl
  have s2:Step w.heap.size F w W2 F:=(Step.of_bl HB.out.2 HRR.out.lt).call HB.out.2.sz (hs2.widen (fun b e=>by rw [e];exact HRR.out.own.2.2.1) hr2.lt)
  have s3:Step W2.heap.size F W2 (setMap W2 L.am es' c') F:=⟨rfl,rfl,rfl,by rw [setMap_size];exact Nat.le_refl _,fun k h1 h2=>setMap_other (fun e=>h2 (by rw [e];exact HRR.out.own.2.1)) _ _,fun _ h=>.inl h,hr3.lt⟩
  have v1:Vx F W2 (.slice a nn cc) c.o.values:=HB.out.1.step (hs2.widen (fun b e=>by rw [e];exact HRR.out.own.2.2.1) hr2.lt)
  exact ⟨_,F,rfl,by rw [e];exact ⟨_,hr3⟩,s2.call s2.size s3,v1.step s3,HFR.out⟩)
 clear hr3 hs2 hr2 dl ch f1
 go_wp2
 go_ret
 exact HE.out
end
section
open Go.RowKit
def seenF (f:MapEntry→Int):List MapEntry→Array Nat→Int
 | [],_=>0
 | x :: l,seen=>(if seen.contains x.born then f x else 0) + seenF f l seen
theorem seenF_other (f:MapEntry→Int) (seen:Array Nat) (b:Nat):∀ (es:List MapEntry),b ∉ es.map (·.born)→seenF f es (seen.push b)=seenF f es seen
 | [],_=>rfl
 | x :: l,h=>by
  have hx:(x.born == b)=false:=by
   cases hc:x.born == b with
   | false=>rfl
   | true=>exact absurd (List.mem_cons.2 (Or.inl (beq_iff_eq.1 hc).symm)) h
  have ih:=seenF_other f seen b l (fun e=>h (List.mem_cons.2 (Or.inr e)))
  simp only [seenF,contains_push,hx,Bool.or_false,ih]
theorem seenF_push (f:MapEntry→Int) (seen:Array Nat) (e:MapEntry) (hs:seen.contains e.born=false):∀ (es:List MapEntry),(es.map (·.born)).Nodup→e∈es→seenF f es (seen.push e.born)=seenF f es seen + f e
 | x :: l,hn,he=>by
  have hn':x.born ∉ l.map (·.born)∧(l.map (·.born)).Nodup:=List.nodup_cons.1 hn
  rcases List.mem_cons.1 he with rfl | h
  ·simp only [seenF,contains_push,hs,beq_self_eq_true,Bool.or_true,if_true,Bool.false_eq_true,if_false,seenF_other f seen e.born l hn'.1]
   omega
  ·have hx:(x.born == e.born)=false:=by
    cases hc:x.born == e.born with
    | false=>rfl
    | true=>exact absurd (by rw [beq_iff_eq.1 hc];exact List.mem_map.2 ⟨e,h,rfl⟩) hn'.1
   simp only [seenF,contains_push,hx,Bool.or_false,seenF_push f seen e hs l hn'.2 h]
   omega
theorem seenF_all (f:MapEntry→Int) (es:Array MapEntry) (seen:Array Nat) (h:(leftOf es seen).size=0):seenF f es.toList seen=(es.toList.map f).sum:=by
 have key:∀ l:List MapEntry,(∀ x∈l,seen.contains x.born=true)→seenF f l seen=(l.map f).sum:=by
  intro l
  induction l with
  | nil=>intro _;rfl
  | cons x l ih=>intro h;simp only [seenF,h x List.mem_cons_self,if_true,List.map_cons,List.sum_cons,ih fun y hy=>h y (List.mem_cons_of_mem _ hy)]
 exact key _ fun x hx=>all_seen es seen h x hx
theorem seenF_none (f:MapEntry→Int):∀ (es:List MapEntry),seenF f es #[]=0
 | []=>rfl
 | x :: l=>by simp [seenF,seenF_none f l]
theorem live_sum (h:Hp) (kind:Int):(h.live kind:Int)=(h.all.map fun p=>if kind=0∨p.2.kind=kind then (1:Int) else 0).sum:=by
 unfold Hp.live
 induction h.all with
 | nil=>rfl
 | cons p t ih =>
  rw [List.filter_cons,List.map_cons,List.sum_cons,← ih]
  by_cases h1:kind=0<;>by_cases h2:p.2.kind=kind<;>simp [h1,h2]<;>omega
theorem ents_sum {β:Type} {f:MapEntry→Int} {g:β→Int} {ev:β→Value} {ek:β→Value} {es:List MapEntry} {l:List β} (hl:es.map (·.val)=l.map ev) (hg:∀ e∈es,∀ c∈l,e.val=ev c→f e=g c):(es.map f).sum=(l.map g).sum:=by
 induction es generalizing l with
 | nil =>
  have:l=[]:=by simpa using hl.symm
  subst this;rfl
 | cons e t ih =>
  match l,hl with
  | c :: l,hl =>
   simp only [List.map_cons,List.cons.injEq] at hl
   rw [List.map_cons,List.sum_cons,List.map_cons,List.sum_cons,hg e List.mem_cons_self c List.mem_cons_self hl.1,ih hl.2 fun e he c hc=>hg e (List.mem_cons_of_mem _ he) c (List.mem_cons_of_mem _ hc)]
theorem heap_new (w:World):Calls Tryz.prog 16 #[] w fun e w'=>e=.returned (.pointer (some ⟨w.heap.size + 2,0,none⟩))∧HStep w (w.heap.size + 2) (fun _=>False) ⟨[],fun _=>0,0⟩ w':=by
 have hmm:=@run_makeMap Tryz.prog
 have h1:=(MapKept.heap_alloc w (.map #[] 0)).1
 have h2:=(MapKept.heap_alloc (w.alloc (.map #[] 0)) (.map #[] 0)).1
 have h3:=(MapKept.heap_alloc ((w.alloc (.map #[] 0)).alloc (.map #[] 0)) (.cells #[.map (some w.heap.size),.map (some (w.heap.size + 1)),.int .i64 0] 96)).1
 simp only [zL] at h2 h3
 have HE:=zH (show HStep w (w.heap.size + 2) (fun _=>False) ⟨[],fun _=>0,0⟩ (((w.alloc (.map #[] 0)).alloc (.map #[] 0)).alloc (.cells #[.map (some w.heap.size),.map (some (w.heap.size + 1)),.int .i64 0] 96)) from by
  have hm1:(((w.alloc (.map #[] 0)).alloc (.map #[] 0)).alloc (.cells #[.map (some w.heap.size),.map (some (w.heap.size + 1)),.int .i64 0] 96)).heap[w.heap.size]?=some (.map #[] 0) :=
   (Below.heap_alloc _ _ _ (by simp only [zL];omega)).trans ((Below.heap_alloc _ _ _ (by simp only [zL];omega)).trans h1)
  have hm2:(((w.alloc (.map #[] 0)).alloc (.map #[] 0)).alloc (.cells #[.map (some w.heap.size),.map (some (w.heap.size + 1)),.int .i64 0] 96)).heap[w.heap.size + 1]?=some (.map #[] 0) :=
   (Below.heap_alloc _ _ _ (by simp only [zL];omega)).trans h2
  refine ⟨fun b=>w.heap.size≤b∧b < w.heap.size + 3,⟨⟨w.heap.size,w.heap.size + 1,[],[]⟩,h3,⟨#[],0,hm1,Ents.nil⟩,⟨#[],0,hm2,Ents.nil⟩,fun _=>rfl,rfl,fun c hc=>(by cases hc),by simp,⟨show w.heap.size≠w.heap.size + 1 by omega,fun c hc=>(by cases hc)⟩,by simp,⟨by omega,show w.heap.size≤w.heap.size∧w.heap.size < w.heap.size + 3 by omega,show w.heap.size≤w.heap.size + 1∧w.heap.size + 1 < w.heap.size + 3 by omega,fun c hc=>(by cases hc)⟩,fun b hb=>by simp only [zL];omega,⟨#[],0,hm1,Born.nil 0⟩⟩,?_⟩
  refine ⟨rfl,rfl,rfl,by simp only [zL];omega,fun b hb _=>?_,fun b hb=>.inr hb.1,fun b hb=>by simp only [zL];omega⟩
  exact (Below.heap_alloc _ _ _ (by simp only [zL];omega)).trans ((Below.heap_alloc _ _ _ (by simp only [zL];omega)).trans (Below.heap_alloc _ _ _ hb)))
 go_enter Tryz.func16,Tryz.ntmps16
 go_wp2
 go_ret
 exact ⟨rfl,HE.out⟩
end
section
open Go.RowKit
open Go.ChangeMaps (setBlock)
def kindAt (w:World) (v:Value):Int:=match v with | .pointer (some a)=>(match w.cell? a with | some (.int _ k)=>k | _=>0) | _=>0
def liveF (w:World) (kind:Int) (e:MapEntry):Int:=if kind=0∨kindAt w e.val=kind then 1 else 0
theorem setBlock_size (w:World) (r:Nat) (o:Obj):(setBlock w r o).heap.size=w.heap.size:=by simp [setBlock]
theorem setBlock_at {w:World} {r:Nat} (h:r < w.heap.size) (o:Obj):(setBlock w r o).heap[r]?=some o:=by simp [setBlock,Array.getElem?_setIfInBounds,h]
theorem setBlock_other {w:World} {r k:Nat} (h:k≠r) (o:Obj):(setBlock w r o).heap[k]?=w.heap[k]?:=by simp [setBlock,Array.getElem?_setIfInBounds,Ne.symm h]
theorem Bl.setBlock {a w:World} (h:Bl a w) {r:Nat} (hr:a.heap.size≤r) (o:Obj):Bl a (setBlock w r o) :=
 ⟨h.os,h.tape,h.output,by rw [setBlock_size];exact h.sz,fun b hb=>(setBlock_other (by omega) o).trans (h.at hb)⟩
theorem wrap64_succ (n:Int):wrap64 (wrap64 n + 1)=wrap64 (n + 1):=by unfold wrap64;omega
set_option maxRecDepth 100000 in
set_option maxHeartbeats 8000000 in
theorem live_any (w:World) (hp:Nat) (h:Hp) (F:Foot) (r:HR w hp h F) (kind:Int) :
  Calls Tryz.prog 96 #[.pointer (some ⟨hp,0,none⟩),.int .i64 kind] w fun e w'=>e=.returned (.int .i64 (wrap64 (h.live kind)))∧Bl w w':=by
 obtain ⟨L,r⟩:=r
 obtain ⟨es,clock,hm,he,hbn⟩:=r.both
 obtain ⟨⟨f1,f2,f3⟩,f4,f5,f6,f7⟩:=r.head
 have hrg:=run_range_map (P:=Tryz.prog) w 93 2 103 L.am es clock Tryz.underlying93 hm
 have hent:∀ e∈es.toList,∃ c∈L.cos,e.key=.int .i64 c.n∧e.val=.pointer (some ⟨c.ob,0,none⟩)∧w.cell? ⟨c.ob,0,none⟩=some (.int .i64 c.o.kind)∧c.ob < w.heap.size:=by
  intro e hmem
  obtain ⟨i,hi⟩:=List.mem_iff_getElem?.1 hmem
  have hk:=congrArg (fun l=>l[i]?) he.keys
  have hv:=congrArg (fun l=>l[i]?) he.vals
  simp only [List.getElem?_map,hi,Option.map_some] at hk hv
  cases hc:L.cos[i]? with
  | none=>rw [hc] at hk;cases hk
  | some c =>
   rw [hc] at hk hv
   simp only [Option.map_some,Option.some.injEq] at hk hv
   have hmc:=List.mem_of_getElem? hc
   obtain ⟨⟨q,-⟩,q2⟩:=(r.obs c hmc).cells (Bl.refl w)
   exact ⟨c,hmc,hk,hv,q,q2⟩
 have hsum:(es.toList.map (liveF w kind)).sum=(h.live kind:Int):=by
  rw [live_sum,r.eq,List.map_map]
  refine ents_sum (β:=CO) (f:=liveF w kind) (ev:=fun c=>.pointer (some ⟨c.ob,0,none⟩)) (ek:=fun _=>.int .i64 0) ?_ ?_
  ·have:=he.vals
   rw [List.map_map] at this;exact this
  ·intro e he2 c hc hv
   obtain ⟨⟨q,-⟩,-⟩:=(r.obs c hc).cells (Bl.refl w)
   show (if kind=0∨kindAt w e.val=kind then (1:Int) else 0)=_
   have:kindAt w e.val=c.o.kind:=by rw [hv];simp [kindAt,q]
   rw [this];rfl
 have hbd:∀ x∈es.toList,x.born < clock:=hbn.1
 have HR:=zH r
 have HM:=zH hm
 have HBN:=zH hbn
 have HSUM:=zH hsum
 have HENT:=zH hent
 have HBD:=zH hbd
 clear r hm he hbn hent hsum hbd f2 f3 f4 f7
 have hk0:(kind == 0)=true∨(kind == 0)=false:=by cases kind == 0<;>simp
 rcases hk0 with t0 | t0
 all_goals
  have T0:=zH t0
  go_enter Tryz.func96,Tryz.ntmps96
  go_wp2
  go_loopw [5] (fun v5 wr=>∃ seen:Array Nat,Bl w wr∧wr.heap[w.heap.size]?=some (.mapIter (some L.am) clock seen clock)∧v5=.int .i64 (wrap64 (seenF (liveF w kind) es.toList seen))) (fun _ wr=>(leftOf es (wr.iterSeen w.heap.size)).size)
  case atStart=>exact ⟨#[],Bl.al _ _,(MapKept.heap_alloc w _).1,by rw [seenF_none,show wrap64 0=0 from by unfold wrap64;omega]⟩
  case round =>
   obtain ⟨seen,hb,hit,rfl⟩:=hrel
   have hb1:wr.heap[L.am]?=some (.map es clock):=(hb.at f6).trans HM.out
   have hitl:=(zN hit).1
   rcases run_next_at (P:=Tryz.prog) wr 0 w.heap.size L.am clock clock seen es clock hit hb1 HBD.out (Nat.le_refl _) with ⟨h0,hrun⟩ | ⟨e,he,w1,hw1,hrun⟩
   ·have hnx:∀ ty,(Instr.next (.pointer (some ⟨w.heap.size,0,none⟩)) false ty).run Tryz.prog wr=_:=fun _=>hrun
    have HE:=zH (show seenF (liveF w kind) es.toList seen=(h.live kind:Int)∧Bl w wr from ⟨by rw [seenF_all _ es seen h0];exact HSUM.out,hb⟩)
    clear hb1 hb hit
    go_wp2
    go_ret
    exact ⟨by rw [HE.out.1];rfl,HE.out.2⟩
   ·obtain ⟨c,hc,hkey,hval,hcell,hcl⟩:=HENT.out e (mem_left he).1
    have hbw1:Bl wr w1:=by rcases hw1 with rfl | rfl;exact Bl.refl _;exact Bl.dr _
    have hlt1:w.heap.size < w1.heap.size:=Nat.lt_of_lt_of_le hitl hbw1.sz
    obtain ⟨W,hW⟩:∃ W,W=setBlock w1 w.heap.size (.mapIter (some L.am) clock (seen.push e.born) clock):=⟨_,rfl⟩
    have hbW:Bl w W:=by rw [hW];exact (hb.trans hbw1).setBlock (Nat.le_refl _) _
    have hitW:W.heap[w.heap.size]?=some (.mapIter (some L.am) clock (seen.push e.born) clock):=by rw [hW];exact setBlock_at hlt1 _
    have hen:=run_entry_at (P:=Tryz.prog) W w.heap.size L.am clock seen es clock e hitW ((hbW.at f6).trans HM.out) (mem_left he).1 HBN.out.2
    rw [hkey,hval] at hrun hen
    rw [← hW] at hrun
    have hnx:∀ ty,(Instr.next (.pointer (some ⟨w.heap.size,0,none⟩)) false ty).run Tryz.prog wr=_:=fun _=>hrun
    have hcell2:W.cell? ⟨c.ob,0,none⟩=some (.int .i64 c.o.kind):=hbW.sm hcell
    have hlf:liveF w kind e=if kind=0∨c.o.kind=kind then 1 else 0:=by unfold liveF;rw [hval];simp [kindAt,hcell]
    have hpush:=seenF_push (liveF w kind) seen e (mem_left he).2 es.toList HBN.out.2 (mem_left he).1
    have HM1:=zH (left_shrinks es seen e he)
    have HP:=zH (And.intro hlf hpush)
    have HA:=zH (And.intro hbW (And.intro hitW hit))
    clear hb1 hrun hlf hpush he hval hkey hcell hb hbw1 hlt1 hW hbW hitW hit hw1
    have hk1:(c.o.kind == kind)=true∨(c.o.kind == kind)=false:=by cases c.o.kind == kind<;>simp
    rcases hk1 with t1 | t1
    all_goals
     go_wp2
     go_roundw
     case rel =>
      refine ⟨seen.push e.born,HA.out.1,HA.out.2.1,?_⟩
      rw [HP.out.2,HP.out.1]
      have u0:=T0.out
      simp only [beq_iff_eq,beq_eq_false_iff_ne] at u0 t1
      simp [u0,t1,wrap64_succ]
     case measure =>
      have:=HM1.out
      have e1:wr.iterSeen w.heap.size=seen:=by unfold World.iterSeen;rw [HA.out.2.2]
      have e2:W.iterSeen w.heap.size=seen.push e.born:=by unfold World.iterSeen;rw [HA.out.2.1]
      rw [e1,e2]
      exact this
end
section
open Go.RowKit
theorem Tryz.infoI:(Tryz.prog.info? 2).map (fun i=>(i.zero,i.size,i.bytes))=some (some (.int .i64 0),1,8):=by kernel_rfl
abbrev ints (l:List Int):List Value:=l.map fun n=>.int .i64 n
def lookTo (h:Hp) (wait:List Int) (n:Int):List Int:=if (get h.all n).isSome=true∧h.refs n=0 then wait++[n] else wait
abbrev Wait (wb base:Nat) (wait:List Int) (v:Value) (w:World):Prop:=Coll wb base 114 2 1 wait.length (ints wait) v w
def Looked (w:World) (wb base:Nat) (wait:List Int) (v:Value) (w':World):Prop :=
 ∃ v',Wait wb base wait v' w'∧Step w.heap.size (CFoot wb v) w w' (fun b=>CFoot wb v b∨CFoot wb v' b)
theorem Looked.of_bl {w w':World} {wb base:Nat} {wait:List Int} {v:Value} (h:Wait wb base wait v w) (hb:Bl w w'):Looked w wb base wait v w' :=
 ⟨v,h.keep fun b hb'=>hb.at (h.lt b hb'),by
  have:=Step.of_bl (F:=CFoot wb v) hb h.lt
  exact ⟨this.os,this.tape,this.output,this.size,this.block,fun b hb=>.inl (hb.elim id id),fun b hb=>this.lt b (hb.elim id id)⟩⟩
set_option maxRecDepth 100000 in
set_option maxHeartbeats 8000000 in
theorem look_yes (w:World) (hp:Nat) (h:Hp) (F:Foot) (r:HR w hp h F) (n:Int) (hb wb base:Nat) (wait:List Int) (v:Value) (hbx:w.heap[hb]?=some (.cells #[.pointer (some ⟨hp,0,none⟩)] 41 (0,0)))
  (hc:Wait wb base wait v w) (hbase:base≤w.heap.size) (hl:wait.length≤4398046511104) (h1:(get h.all n).isSome=true) (h2:h.refs n=0) :
  Calls Tryz.prog 224 #[.int .i64 n,.pointer (some ⟨hb,0,none⟩),.pointer (some ⟨wb,0,none⟩)] w fun e w'=>e=.returned (.tuple #[])∧Looked w wb base (wait++[n]) v w':=by
 obtain ⟨i0,hi,hz0,hz1,hz2⟩:=info_parts Tryz.infoI
 obtain ⟨L,r⟩:=r
 obtain ⟨⟨f1,f2,f3⟩,f4,f5,f6,f7⟩:=r.head
 obtain ⟨o,ho⟩:=Option.isSome_iff_exists.1 h1
 obtain ⟨ob,hob⟩:∃ ob,get (L.cos.map fun c=>(c.n,c.ob)) n=some ob:=by
  rcases r.find n with ⟨e1,-⟩ | ⟨c,-,-,-,e3⟩
  ·rw [ho] at e1;cases e1
  ·exact ⟨_,e3⟩
 have lk:(Instr.lookup 93 (.map (some L.am)) (.int .i64 n) false).run Tryz.prog w=.ok (.pointer (some ⟨ob,0,none⟩)) w:=by
  rw [r.look n w rfl,hob];rfl
 have lr:(Instr.lookup 94 (.map (some L.rm)) (.int .i64 n) false).run Tryz.prog w=.ok (.int .i64 0) w:=by
  rw [r.lookR n w rfl,h2]
 have g0:w.cell? ⟨hb,0,none⟩=some (.pointer (some ⟨hp,0,none⟩)):=by rw [cell_of hbx];rfl
 obtain ⟨g1,g2⟩:=hc.cells
 have hwl:=(zN hc.box).1
 obtain ⟨g',cap',w4,hap,d1,d2,hsz4,hC3,hstep⟩:=hc.app 114 i0 _ 8 Tryz.underlying114 hi hz0 hz1 hz2 rfl (by decide) [.int .i64 n] rfl (by intro u hu;simp at hu;rw [hu];rfl) (by unfold maxLen;omega) (by omega) hbase (by decide)
 have ap:(Builtin.append_ #[114,114] 114 #[v,.slice (some ⟨w.heap.size,0,none⟩) 1 1]).run Tryz.prog (w.alloc (.cells #[.int .i64 n] 2))=.ok (.slice (some ⟨g',0,none⟩) (wait.length + 1) cap') w4:=hap _
 have HE:=zH (show Looked w wb base (wait++[n]) v (w4.setCell ⟨wb,0,none⟩ (.slice (some ⟨g',0,none⟩) (wait.length + 1) cap')) from by
  obtain ⟨F',hst,hF'⟩:=hstep (CFoot wb v) (fun b hb=>hb) hc.lt
  refine ⟨.slice (some ⟨g',0,none⟩) (wait.length + 1) cap',by simpa [Wait,ints] using hC3,hst.os,hst.tape,hst.output,hst.size,hst.block,?_,?_⟩
  ·rintro b (hb | hb | hb)
   ·exact .inl hb
   ·exact .inl (.inl hb)
   ·cases hb;exact hst.foot _ ((hF' _).2 (.inr rfl))
  ·rintro b (hb | hb | hb)
   ·exact hst.lt b ((hF' _).2 (.inl hb))
   ·exact hst.lt b ((hF' _).2 (.inl (.inl hb)))
   ·cases hb;exact hst.lt _ ((hF' _).2 (.inr rfl)))
 clear r hc hbx ho hob h1 h2 hC3 hstep hap hi hz0 hz1 hz2 f3 f4
 go_enter Tryz.func224,Tryz.ntmps224
 go_wp2_with (at_builtin;refine wpList_app rfl (.tmp 20) (.tmp 22) 114 rfl v (.slice (some ⟨w.heap.size,0,none⟩) 1 1) (by simp [Go.Act.eval]) (by simp [Go.Act.eval]) (.slice (some ⟨g',0,none⟩) (wait.length + 1) cap') w4 ap ?_)
 go_end0
 exact ⟨rfl,HE.out⟩
set_option maxRecDepth 100000 in
theorem look_no (w:World) (hp:Nat) (h:Hp) (F:Foot) (r:HR w hp h F) (n:Int) (hb wb:Nat) (hbx:w.heap[hb]?=some (.cells #[.pointer (some ⟨hp,0,none⟩)] 41 (0,0)))
  (hno:¬ ((get h.all n).isSome=true∧h.refs n=0)) :
  Calls Tryz.prog 224 #[.int .i64 n,.pointer (some ⟨hb,0,none⟩),.pointer (some ⟨wb,0,none⟩)] w fun e w'=>e=.returned (.tuple #[])∧Bl w w':=by
 obtain ⟨L,r⟩:=r
 obtain ⟨⟨f1,f2,f3⟩,f4,f5,f6,f7⟩:=r.head
 have g0:w.cell? ⟨hb,0,none⟩=some (.pointer (some ⟨hp,0,none⟩)):=by rw [cell_of hbx];rfl
 rcases r.find n with ⟨h0,e3⟩ | ⟨c,-,-,h0,e3⟩
 ·have lk:(Instr.lookup 93 (.map (some L.am)) (.int .i64 n) false).run Tryz.prog w=.ok (.pointer none) w:=by
   rw [r.look n w rfl,e3];rfl
  clear r hbx hno h0 e3 f3 f4
  go_enter Tryz.func224,Tryz.ntmps224
  go_wp2
  go_end0
  exact ⟨rfl,by (repeat (first | exact qA _ | assumption | refine qB ?_ _ | refine qC ?_ | refine qD ?_ _ | refine qE ?_ _ (by simp<;>omega) _))⟩
 ·have lk:(Instr.lookup 93 (.map (some L.am)) (.int .i64 n) false).run Tryz.prog w=.ok (.pointer (some ⟨c.ob,0,none⟩)) w:=by
   rw [r.look n w rfl,e3];rfl
  have lr:=r.lookR n w rfl
  have hne:(h.refs n == 0)=false:=by
   rw [beq_eq_false_iff_ne]
   intro e;exact hno ⟨by rw [h0];rfl,e⟩
  clear r hbx hno h0 e3 f3 f4
  go_enter Tryz.func224,Tryz.ntmps224
  go_wp2
  go_end0
  exact ⟨rfl,by (repeat (first | exact qA _ | assumption | refine qB ?_ _ | refine qC ?_ | refine qD ?_ _ | refine qE ?_ _ (by simp<;>omega) _))⟩
theorem look_any (w:World) (hp:Nat) (h:Hp) (F:Foot) (r:HR w hp h F) (n:Int) (hb wb base:Nat) (wait:List Int) (v:Value) (hbx:w.heap[hb]?=some (.cells #[.pointer (some ⟨hp,0,none⟩)] 41 (0,0)))
  (hc:Wait wb base wait v w) (hbase:base≤w.heap.size) (hl:wait.length≤4398046511104) :
  Calls Tryz.prog 224 #[.int .i64 n,.pointer (some ⟨hb,0,none⟩),.pointer (some ⟨wb,0,none⟩)] w fun e w'=>e=.returned (.tuple #[])∧Looked w wb base (lookTo h wait n) v w':=by
 by_cases hy:(get h.all n).isSome=true∧h.refs n=0
 ·rw [lookTo,if_pos hy];exact look_yes w hp h F r n hb wb base wait v hbx hc hbase hl hy.1 hy.2
 ·rw [lookTo,if_neg hy];exact (look_no w hp h F r n hb wb hbx hy).mono fun e w' ⟨h1,h2⟩=>⟨h1,Looked.of_bl hc h2⟩
end
section
open Go.RowKit
def occ (n:Int):List V→Nat
 | []=>0
 | x :: t=>(if x.k=4∧x.n=n then 1 else 0) + occ n t
theorem occ_append (n:Int) (a b:List V):occ n (a++b)=occ n a + occ n b:=by
 induction a with
 | nil=>simp [occ]
 | cons x t ih=>simp only [List.cons_append,occ,ih];omega
theorem occ_le (n:Int) (l:List V):occ n l≤l.length:=by
 induction l with
 | nil=>simp [occ]
 | cons x t ih=>simp only [occ,List.length_cons];split<;>omega
theorem occ_pos {n:Int} {l:List V}:0 < occ n l↔∃ x∈l,x.k=4∧x.n=n:=by
 induction l with
 | nil=>simp [occ]
 | cons x t ih =>
  simp only [occ,List.mem_cons,exists_eq_or_imp]
  by_cases h:x.k=4∧x.n=n
  ·simp [h];omega
  ·rw [if_neg h,Nat.zero_add,ih]
   constructor
   ·exact .inr
   ·rintro (h2 | h2)
    ·exact absurd h2 h
    ·exact h2
def Hp.vals (h:Hp):List V:=h.all.flatMap fun p=>p.2.values
structure Cons (h:Hp) (e:List V):Prop where
 refs:∀ n,h.refs n=occ n h.vals + occ n e
 nd:(h.all.map (·.1)).Nodup
theorem hold_up (l:List V):∀ (r:Int→Int) (n:Int),(∀ m,0≤r m∧r m + l.length < 4611686018427387904)→hold 1 r l n=r n + occ n l:=by
 induction l with
 | nil=>intro r n _;simp [hold,occ]
 | cons x t ih =>
  intro r n h
  have hx:=h x.n
  simp only [List.length_cons] at h hx
  have hw:wrap64 (r x.n + 1)=r x.n + 1:=by unfold wrap64;omega
  simp only [hold]
  by_cases hk:x.k=4
  ·rw [if_pos hk,ih _ n (fun m=>?_),hw]
   ·simp only [occ,upd]
    by_cases hn:n=x.n
    ·rw [if_pos hn,if_pos ⟨hk,hn.symm⟩,hn];omega
    ·rw [if_neg hn,if_neg (fun e=>hn e.2.symm)];omega
   ·have:=h m
    rw [hw]
    unfold upd
    by_cases hm:m=x.n
    ·rw [if_pos hm];omega
    ·rw [if_neg hm];omega
  ·rw [if_neg hk,ih _ n (fun m=>by have:=h m;omega)]
   simp only [occ]
   rw [if_neg (fun e=>hk e.1)];omega
theorem hold_down (l:List V):∀ (r:Int→Int) (n:Int),(∀ m,(occ m l:Int)≤r m∧r m < 4611686018427387904)→hold (-1) r l n=r n - occ n l:=by
 induction l with
 | nil=>intro r n _;simp [hold,occ]
 | cons x t ih =>
  intro r n h
  have hx:=h x.n
  simp only [occ] at h hx
  simp only [hold]
  by_cases hk:x.k=4
  ·simp only [hk,and_self,if_true] at hx
   have hw:wrap64 (r x.n + -1)=r x.n - 1:=by unfold wrap64;omega
   rw [if_pos hk,hw,ih _ n (fun m=>?_)]
   ·simp only [occ,upd]
    by_cases hn:n=x.n
    ·rw [if_pos hn,if_pos ⟨hk,hn.symm⟩,hn];omega
    ·rw [if_neg hn,if_neg (fun e=>hn e.2.symm)];omega
   ·have:=h m
    unfold upd
    by_cases hm:m=x.n
    ·rw [if_pos hm,hm];omega
    ·rw [if_neg hm]
     rw [if_neg (fun e=>hm e.2.symm)] at this
     omega
  ·rw [if_neg hk,ih _ n (fun m=>by have:=h m;rw [if_neg (fun e=>hk e.1)] at this;omega)]
   simp only [occ]
   rw [if_neg (fun e=>hk e.1)];omega
theorem get_mem {α β:Type} [DecidableEq α] {l:List (α × β)} {a:α} {b:β} (h:get l a=some b):(a,b)∈l:=by
 induction l with
 | nil=>cases h
 | cons p t ih =>
  obtain ⟨k,v⟩:=p
  by_cases e:k=a
  ·rw [get,if_pos e] at h;cases h;rw [e];exact List.mem_cons_self
  ·rw [get,if_neg e] at h;exact List.mem_cons_of_mem _ (ih h)
theorem mem_get {α β:Type} [DecidableEq α] {l:List (α × β)} (hn:(l.map (·.1)).Nodup) {a:α} {b:β} (h:(a,b)∈l):get l a=some b:=by
 induction l with
 | nil=>cases h
 | cons p t ih =>
  obtain ⟨k,v⟩:=p
  simp only [List.map_cons,List.nodup_cons] at hn
  rcases List.mem_cons.1 h with e | h
  ·cases e;rw [get,if_pos rfl]
  ·rw [get,if_neg (fun e=>hn.1 (List.mem_map.2 ⟨_,h,e.symm⟩)),ih hn.2 h]
theorem del_filter {β:Type} {l:List (Int × β)} (hn:(l.map (·.1)).Nodup) (n:Int):del l n=l.filter fun p=>!decide (p.1=n):=by
 induction l with
 | nil=>rfl
 | cons p t ih =>
  obtain ⟨k,v⟩:=p
  simp only [List.map_cons,List.nodup_cons] at hn
  by_cases e:k=n
  ·rw [del,if_pos e]
   subst e
   rw [List.filter_cons]
   simp only [decide_true,Bool.not_true,Bool.false_eq_true,if_false]
   symm
   rw [List.filter_eq_self]
   intro q hq
   have:q.1≠k:=fun e=>hn.1 (List.mem_map.2 ⟨q,hq,e⟩)
   simp [this]
  ·rw [del,if_neg e,ih hn.2,List.filter_cons];simp [e]
theorem occ_vals_del {l:List (Int × Ob)} {m:Int} {o:Ob} (h:get l m=some o) (n:Int):occ n (l.flatMap fun p=>p.2.values)=occ n ((del l m).flatMap fun p=>p.2.values) + occ n o.values:=by
 induction l with
 | nil=>cases h
 | cons p t ih =>
  obtain ⟨k,v⟩:=p
  by_cases e:k=m
  ·rw [get,if_pos e] at h;cases h
   rw [del,if_pos e,List.flatMap_cons,occ_append];show occ n o.values + _=_;omega
  ·rw [get,if_neg e] at h
   rw [del,if_neg e,List.flatMap_cons,List.flatMap_cons,occ_append,occ_append,ih h];omega
structure Sw (h:Hp) (e:List V) (g:Hp):Prop where
 sub:∃ T:Int→Bool,g.all=h.all.filter fun p=>T p.1
 cons:Cons g e
 last:g.last=h.last
 max:∀ S:Int→Prop,(∀ n,S n→(∃ o,get h.all n=some o)∧(0 < occ n e∨∃ m o,S m∧get h.all m=some o∧0 < occ n o.values))→∀ n,S n→∃ o,get g.all n=some o
theorem filter_self_true {α:Type} (l:List α):l.filter (fun _=>true)=l:=by simp
theorem Sw.start {h:Hp} {e:List V} (hc:Cons h []) (hs:h.vals.length + e.length < 4611686018427387904):Sw h e (h.withRefs (hold 1 h.refs e)):=by
 refine ⟨⟨fun _=>true,(filter_self_true _).symm⟩,⟨fun n=>?_,hc.nd⟩,rfl,fun S hS n hn=>(hS n hn).1⟩
 show hold 1 h.refs e n=occ n h.vals + occ n e
 have h0:∀ m,h.refs m=occ m h.vals:=fun m=>by have:=hc.refs m;simpa [occ] using this
 rw [hold_up e h.refs n (fun m=>?_),h0]
 rw [h0]
 have:=occ_le m h.vals
 omega
theorem get_filter {β:Type} {l:List (Int × β)} (hn:(l.map (·.1)).Nodup) (T:Int→Bool) {n:Int} {b:β}:get (l.filter fun p=>T p.1) n=some b↔get l n=some b∧T n=true:=by
 have hn2:((l.filter fun p=>T p.1).map (·.1)).Nodup:=hn.sublist ((List.filter_sublist).map _)
 constructor
 ·intro h
  have:=get_mem h
  obtain ⟨h1,h2⟩:=List.mem_filter.1 this
  exact ⟨mem_get hn h1,h2⟩
 ·rintro ⟨h1,h2⟩
  exact mem_get hn2 (List.mem_filter.2 ⟨get_mem h1,h2⟩)
theorem Sw.vals_len {h g:Hp} {e:List V} (s:Sw h e g):g.vals.length≤h.vals.length:=by
 obtain ⟨T,hT⟩:=s.sub
 unfold Hp.vals
 rw [hT]
 have:∀ l:List (Int × Ob),((l.filter fun p=>T p.1).flatMap fun p=>p.2.values).length≤(l.flatMap fun p=>p.2.values).length:=by
  intro l
  induction l with
  | nil=>simp
  | cons p t ih =>
   rw [List.filter_cons]
   by_cases hp:T p.1=true
   ·rw [if_pos hp,List.flatMap_cons,List.flatMap_cons,List.length_append,List.length_append];omega
   ·rw [if_neg hp,List.flatMap_cons,List.length_append];omega
 exact this _
theorem Sw.dropped {h g:Hp} {e:List V} (hnd:(h.all.map (·.1)).Nodup) (hs:h.vals.length + e.length < 4611686018427387904) (s:Sw h e g) {n:Int} {o:Ob} (hn:get g.all n=some o) (h0:g.refs n=0):Sw h e (g.drop n).1:=by
 have hd:(g.drop n).1={ g with all:=del g.all n,refs:=hold (-1) g.refs o.values }:=by unfold Hp.drop;rw [hn]
 rw [hd]
 obtain ⟨T,hT⟩:=s.sub
 have hdf:=del_filter s.cons.nd n
 have hlen:=s.vals_len
 have hsub:∀ m,(occ m g.vals:Int)=occ m ((del g.all n).flatMap fun p=>p.2.values) + occ m o.values:=fun m=>by
  have:=occ_vals_del hn m
  unfold Hp.vals;omega
 refine ⟨⟨fun m=>T m && !decide (m=n),?_⟩,⟨fun m=>?_,nodup_del s.cons.nd n⟩,s.last,fun S hS m hm=>?_⟩
 ·show del g.all n=_
  rw [hdf,hT,List.filter_filter]
  refine List.filter_congr fun p _=>?_
  exact Bool.and_comm _ _
 ·show hold (-1) g.refs o.values m=occ m ((del g.all n).flatMap fun p=>p.2.values) + occ m e
  rw [hold_down _ _ _ (fun k=>?_)]
  ·have:=s.cons.refs m
   have:=hsub m
   omega
  ·have h1:=s.cons.refs k
   have h2:=hsub k
   have h3:=occ_le k g.vals
   have h4:=occ_le k e
   omega
 ·obtain ⟨o',ho'⟩:=s.max S hS m hm
  have hne:m≠n:=by
   rintro rfl
   have hz:=s.cons.refs m
   have h1:occ m g.vals=0:=by omega
   have h2:occ m e=0:=by omega
   rcases (hS m hm).2 with h3 | ⟨k,ok,hk,hgk,hok⟩
   ·omega
   ·obtain ⟨o2,ho2⟩:=s.max S hS k hk
    have:get h.all k=some o2:=by rw [hT] at ho2;exact ((get_filter hnd T).1 ho2).1
    rw [hgk] at this;cases this
    have:=occ_vals_del ho2 m
    have e2:occ m g.vals=occ m (g.all.flatMap fun p=>p.2.values):=rfl
    omega
  refine ⟨o',?_⟩
  show get (del g.all n) m=some o'
  rw [get_del s.cons.nd,if_neg (fun e=>hne e.symm)];exact ho'
end
section
open Go.RowKit
structure Lp (h:Hp) (e:List V) (g:Hp) (wait:List Int) (rest:List V) (k:Nat):Prop where
 sw:Sw h e g
 zero:∀ n∈wait,g.refs n=0
 cover:∀ n o,get g.all n=some o→g.refs n=0→n∈wait∨∃ x∈rest,x.k=4∧x.n=n
 len:wait.length + rest.length + g.all.length * 2097152≤h.all.length * 2097153
 freed:k + g.all.length=h.all.length
theorem Lp.gone {h g:Hp} {e:List V} {wait:List Int} {n:Int} {k:Nat} (p:Lp h e g (wait++[n]) [] k) (hn:get g.all n=none):Lp h e g wait [] k:=by
 refine ⟨p.sw,fun m hm=>p.zero m (List.mem_append_left _ hm),fun m o hm h0=>?_,by have:=p.len;simp at this ⊢;omega,p.freed⟩
 rcases p.cover m o hm h0 with hq | ⟨x,hx,-⟩
 ·rcases List.mem_append.1 hq with hq | hq
  ·exact .inl hq
  ·rw [List.mem_singleton] at hq;rw [hq,hn] at hm;cases hm
 ·cases hx
theorem Lp.drop {h g:Hp} {e:List V} (hnd:(h.all.map (·.1)).Nodup) (hs:h.vals.length + e.length < 4611686018427387904) {wait:List Int} {n:Int} {k:Nat} (p:Lp h e g (wait++[n]) [] k) {o:Ob} (hn:get g.all n=some o) (hv:o.values.length≤2097152):Lp h e (g.drop n).1 wait o.values (k + 1):=by
 have h0:=p.zero n (List.mem_append_right _ List.mem_cons_self)
 have hsw:=p.sw.dropped hnd hs hn h0
 have hd:(g.drop n).1={ g with all:=del g.all n,refs:=hold (-1) g.refs o.values }:=by unfold Hp.drop;rw [hn]
 have hlen:=p.sw.vals_len
 have href:∀ m,(g.drop n).1.refs m=g.refs m - occ m o.values:=fun m=>by
  rw [hd]
  show hold (-1) g.refs o.values m=_
  refine hold_down _ _ _ fun k=>?_
  have h1:=p.sw.cons.refs k
  have h2:=occ_vals_del hn k
  have h3:=occ_le k g.vals
  have h4:=occ_le k e
  have e2:occ k g.vals=occ k (g.all.flatMap fun p=>p.2.values):=rfl
  omega
 have hpos:∀ m,0≤(g.drop n).1.refs m:=fun m=>by rw [hsw.cons.refs m];omega
 have hall:(g.drop n).1.all=del g.all n:=by rw [hd]
 have hl:(g.drop n).1.all.length + 1=g.all.length:=by rw [hall];exact length_del (by rw [hn];rfl)
 refine ⟨hsw,fun m hm=>?_,fun m o' hm hm0=>?_,?_,by have:=p.freed;omega⟩
 ·have h1:=p.zero m (List.mem_append_left _ hm)
  have h2:=hpos m
  rw [href] at h2 ⊢
  omega
 ·by_cases ho:0 < occ m o.values
  ·exact .inr (occ_pos.1 ho)
  ·have h1:=href m
   rw [hall,get_del p.sw.cons.nd] at hm
   by_cases hne:n=m
   ·rw [if_pos hne] at hm;cases hm
   ·rw [if_neg hne] at hm
    rcases p.cover m o' hm (by omega) with hq | ⟨x,hx,-⟩
    ·rcases List.mem_append.1 hq with hq | hq
     ·exact .inl hq
     ·rw [List.mem_singleton] at hq;exact absurd hq.symm hne
    ·cases hx
 ·have:=p.len
  simp at this
  omega
theorem Lp.look {h g:Hp} {e:List V} {wait:List Int} {x:V} {rest:List V} {k:Nat} (p:Lp h e g wait (x :: rest) k) (hx:(g.of x).isSome=true):Lp h e g (lookTo g wait x.n) rest k:=by
 have hxk:x.k=4:=by
  unfold Hp.of at hx
  by_cases hk:x.k=4
  ·exact hk
  ·rw [if_neg hk] at hx;cases hx
 unfold Hp.of at hx
 rw [if_pos hxk] at hx
 have hlen:=p.len
 simp only [List.length_cons] at hlen
 unfold lookTo
 by_cases h0:g.refs x.n=0
 ·rw [if_pos ⟨hx,h0⟩]
  refine ⟨p.sw,fun m hm=>?_,fun m o hm hm0=>?_,by rw [List.length_append];simp;omega,p.freed⟩
  ·rcases List.mem_append.1 hm with hm | hm
   ·exact p.zero m hm
   ·rw [List.mem_singleton] at hm;rw [hm];exact h0
  ·rcases p.cover m o hm hm0 with hq | ⟨y,hy,hy2⟩
   ·exact .inl (List.mem_append_left _ hq)
   ·rcases List.mem_cons.1 hy with rfl | hy
    ·exact .inl (List.mem_append_right _ (by rw [List.mem_singleton];exact hy2.2.symm))
    ·exact .inr ⟨y,hy,hy2⟩
 ·rw [if_neg (fun e=>h0 e.2)]
  refine ⟨p.sw,p.zero,fun m o hm hm0=>?_,by omega,p.freed⟩
  rcases p.cover m o hm hm0 with hq | ⟨y,hy,hy2⟩
  ·exact .inl hq
  ·rcases List.mem_cons.1 hy with rfl | hy
   ·exact absurd (by rw [hy2.2];exact hm0) h0
   ·exact .inr ⟨y,hy,hy2⟩
theorem Lp.skip {h g:Hp} {e:List V} {wait:List Int} {x:V} {rest:List V} {k:Nat} (p:Lp h e g wait (x :: rest) k) (hx:g.of x=none):Lp h e g wait rest k:=by
 refine ⟨p.sw,p.zero,fun m o hm hm0=>?_,by have:=p.len;simp only [List.length_cons] at this;omega,p.freed⟩
 rcases p.cover m o hm hm0 with hq | ⟨y,hy,hy2⟩
 ·exact .inl hq
 ·rcases List.mem_cons.1 hy with rfl | hy
  ·unfold Hp.of at hx
   rw [if_pos hy2.1,hy2.2,hm] at hx;cases hx
  ·exact .inr ⟨y,hy,hy2⟩
structure Swept (h:Hp) (e:List V) (h':Hp):Prop where
 sub:∃ T:Int→Bool,h'.all=h.all.filter fun p=>T p.1
 cons:Cons h' []
 last:h'.last=h.last
 max:∀ S:Int→Prop,(∀ n,S n→(∃ o,get h.all n=some o)∧(0 < occ n e∨∃ m o,S m∧get h.all m=some o∧0 < occ n o.values))→∀ n,S n→∃ o,get h'.all n=some o
 tight:∀ n o,get h'.all n=some o→0 < occ n e∨0 < occ n h'.vals
theorem Lp.swept {h g:Hp} {e:List V} {k:Nat} (p:Lp h e g [] [] k) (hs:h.vals.length + e.length < 4611686018427387904):Swept h e (g.withRefs (hold (-1) g.refs e)):=by
 have hlen:=p.sw.vals_len
 refine ⟨p.sw.sub,⟨fun n=>?_,p.sw.cons.nd⟩,p.sw.last,p.sw.max,fun n o hn=>?_⟩
 ·show hold (-1) g.refs e n=occ n g.vals + occ n []
  rw [hold_down _ _ _ fun m=>?_]
  ·have:=p.sw.cons.refs n;simp [occ];omega
  ·have:=p.sw.cons.refs m
   have:=occ_le m g.vals
   have:=occ_le m e
   omega
 ·have h1:=p.sw.cons.refs n
  by_cases h0:g.refs n=0
  ·rcases p.cover n o hn h0 with hq | ⟨x,hx,-⟩
   ·cases hq
   ·cases hx
  ·show 0 < occ n e∨0 < occ n g.vals
   omega
structure SwSt (w:World) (hp:Nat) (F:Foot) (hb wb:Nat) (W:World) (g:Hp) (wait:List Int) (F':Foot) (v:Value):Prop where
 r:HR W hp g F'
 st:Step w.heap.size F w W F'
 box:W.heap[hb]?=some (.cells #[.pointer (some ⟨hp,0,none⟩)] 41 (0,0))
 nb:¬ F' hb
 wt:Wait wb w.heap.size wait v W
 ap:∀ b,CFoot wb v b→¬ F' b∧b≠hb
 ge:∀ b,CFoot wb v b→w.heap.size≤b
section
variable {w:World} {hp:Nat} {F:Foot} {hb wb:Nat} {W W':World} {g:Hp} {wait:List Int} {F':Foot} {v:Value}
theorem SwSt.bl (s:SwSt w hp F hb wb W g wait F' v) (h:Bl W W'):SwSt w hp F hb wb W' g wait F' v :=
 ⟨s.r.bl h,s.st.bl h s.st.size,(h.at (zN s.box).1).trans s.box,s.nb,s.wt.keep fun b hb=>h.at (s.wt.lt b hb),s.ap,s.ge⟩
theorem SwSt.to (s:SwSt w hp F hb wb W g wait F' v) {g':Hp} {F'':Foot} (r:HR W' hp g' F'') (st:Step W.heap.size F' W W' F'') :
  SwSt w hp F hb wb W' g' wait F'' v∧(∀ b,b < W.heap.size→¬ F' b→W'.heap[b]?=W.heap[b]?∧¬ F'' b)∧W.heap.size≤W'.heap.size:=by
 have hk:∀ b,b < W.heap.size→¬ F' b→W'.heap[b]?=W.heap[b]?∧¬ F'' b:=fun b h1 h2=>⟨st.block b h1 h2,fun hf=>(st.foot b hf).elim h2 (by omega)⟩
 have hbl:=(zN s.box).1
 exact ⟨⟨r,s.st.call s.st.size st,(hk hb hbl s.nb).1.trans s.box,(hk hb hbl s.nb).2,s.wt.keep fun b hb=>(hk b (s.wt.lt b hb) (s.ap b hb).1).1,fun b hb=>⟨(hk b (s.wt.lt b hb) (s.ap b hb).1).2,(s.ap b hb).2⟩,s.ge⟩,hk,st.size⟩
theorem SwSt.looked (s:SwSt w hp F hb wb W g wait F' v) {wait':List Int} (h:Looked W wb w.heap.size wait' v W') :
  ∃ v',SwSt w hp F hb wb W' g wait' F' v'∧(∀ b,b < W.heap.size→¬ CFoot wb v b→W'.heap[b]?=W.heap[b]?∧¬ CFoot wb v' b)∧W.heap.size≤W'.heap.size:=by
 obtain ⟨v',hw,st⟩:=h
 have hk:∀ b,b < W.heap.size→¬ CFoot wb v b→W'.heap[b]?=W.heap[b]?∧¬ CFoot wb v' b:=fun b h1 h2=>⟨st.block b h1 h2,fun hf=>(st.foot b (.inr hf)).elim h2 (by omega)⟩
 have hbl:=(zN s.box).1
 have hF:=s.r.lt
 have hkF:∀ b,F' b→W'.heap[b]?=W.heap[b]?:=fun b hb=>(hk b (hF b hb) (fun hc=>(s.ap b hc).1 hb)).1
 have hg:∀ b,CFoot wb v' b→CFoot wb v b∨W.heap.size≤b:=fun b hb=>st.foot b (.inr hb)
 have hws:=s.st.size
 refine ⟨v',⟨s.r.keep st.size hkF,⟨st.os.trans s.st.os,st.tape.trans s.st.tape,st.output.trans s.st.output,Nat.le_trans s.st.size st.size,fun b h1 h2=>?_,s.st.foot,fun b hb=>Nat.lt_of_lt_of_le (hF b hb) st.size⟩,(hk hb hbl (fun hc=>(s.ap hb hc).2 rfl)).1.trans s.box,s.nb,hw,fun b hc=>?_,fun b hc=>?_⟩,hk,st.size⟩
 ·rw [(hk b (by omega) (fun hc=>by have:=s.ge b hc;omega)).1];exact s.st.block b h1 h2
 ·rcases hg b hc with hc | hc
  ·exact s.ap b hc
  ·exact ⟨fun hf=>by have:=hF b hf;omega,by omega⟩
 ·rcases hg b hc with hc | hc
  ·exact s.ge b hc
  ·omega
end
end
end Go.Proofs.YtbbokgpklihkoaaGreatDoor.W
