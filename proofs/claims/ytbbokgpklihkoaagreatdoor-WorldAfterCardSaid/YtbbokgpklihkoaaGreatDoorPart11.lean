/- SetAt Put Del At Make Make2 -/
import Derived.Test.YtbbokgpklihkoaaGreatDoorPart10
import Derived.Deep.RegionWith
import Derived.Deep.RegionHeld3
set_option linter.unusedVariables false
set_option linter.unusedSimpArgs false
namespace Go.Proofs.YtbbokgpklihkoaaGreatDoor.W
section
open Go.RowKit
theorem over_vs {l:List V} {i:Nat} (hi:i < l.length) (x:V):over (l.flatMap V.cs) (i * 3) x.cs=(l.set i x).flatMap V.cs:=by
 refine List.ext_getElem? fun j=>?_
 have hl3:x.cs.length=3:=rfl
 rw [over_get _ _ _ _ (by rw [flat_len,hl3];omega),hl3]
 by_cases hj:j < l.length * 3
 ·obtain ⟨k,t,ht,rfl⟩:∃ k t,t < 3∧j=k * 3 + t:=⟨j / 3,j % 3,Nat.mod_lt _ (by decide),by omega⟩
  have hk:k < l.length:=by omega
  by_cases e:k=i
  ·subst e
   rw [if_pos (by omega),vcs_at (v:=x) ht (by rw [List.getElem?_set_self hk])]
   congr 1;omega
  ·rw [if_neg (by omega),vcs_at (v:=l[k]) ht (List.getElem?_eq_getElem hk),vcs_at (v:=l[k]) ht (by rw [List.getElem?_set_ne (Ne.symm e)];exact List.getElem?_eq_getElem hk)]
 ·rw [if_neg (by omega),List.getElem?_eq_none (by rw [flat_len];omega),List.getElem?_eq_none (by rw [flat_len,List.length_set];omega)]
theorem ObAt.setItem {W:World} {c:CO} (ho:ObAt W c) (hlt:∀ b,c.foot b→b < W.heap.size) {g cap:Nat} (hit:c.it=.slice (some ⟨g,0,none⟩) c.o.items.length cap) {i:Nat} (hi:i < c.o.items.length) (x:V) :
  ObAt (setCells W g (i * 3) x.cs).drew { c with o:={ c.o with items:=c.o.items.set i x } } ∧
   Step W.heap.size c.foot W (setCells W g (i * 3) x.cs).drew (CO.foot { c with o:={ c.o with items:=c.o.items.set i x } }):=by
 have hown:=ho.items
 have hoth:∀ b,b≠g→(setCells W g (i * 3) x.cs).drew.heap[b]?=W.heap[b]?:=fun b h=>setCells_other _ _ _ _ _ h
 have hgt:∃ cur,W.heap[g]?=some (.cells cur 23):=by
  rw [hit] at hown
  rcases hown.2 with ⟨e,-⟩ | ⟨g',cap',cur,e,-,hg,-⟩
  ·cases e
  ·cases e;exact ⟨cur,hg⟩
 obtain ⟨cur,hgt⟩:=hgt
 obtain ⟨n1,n2,n3,n4⟩:=ho.ne
 have m1:c.ob≠g:=fun e=>n3 (by rw [hit,e];rfl)
 have m2:c.db≠g:=fun e=>by
  have h1:=ho.dict.blk
  rw [e,hgt] at h1
  injection h1 with h1
  injection h1 with _ e2 _;exact absurd e2 (by decide)
 have m3:c.mb≠g:=fun e=>by
  obtain ⟨es,cd,at_,hmm,-⟩:=ho.dict.map
  rw [e,hgt] at hmm
  cases hmm
 have m4:c.sl.ownBlock≠some g:=fun e=>by
  rcases ho.dict.own.2 with ⟨e2,-⟩ | ⟨g',cap',cur',e2,-,hg,-⟩
  ·rw [e2] at e;cases e
  ·rw [e2] at e;cases e
   rw [hgt] at hg
   injection hg with hg
   injection hg with _ e2 _;exact absurd e2 (by decide)
 obtain ⟨r1,r2,r3⟩:=setCells_rest x.cs W g (i * 3)
 have hsz:(setCells W g (i * 3) x.cs).drew.heap.size=W.heap.size:=setCells_size _ _ _ _
 refine ⟨⟨(hoth _ m1).trans ho.blk,?_,ho.dict.bl (fun b hb2=>?_),by show (c.o.items.set i x).length≤big;rw [List.length_set];exact ho.few⟩,r1,r2,r3,by rw [hsz];exact Nat.le_refl _,fun b h1 h2=>hoth b (fun e=>h2 (.inr (.inr (.inr (.inl (by rw [hit,e];rfl)))))),fun b h=>.inl h,fun b h=>by rw [hsz];exact hlt b h⟩
 ·show (setCells W g (i * 3) x.cs).drew.ownsRow 0 23 3 c.it (c.o.items.set i x).length ((c.o.items.set i x).flatMap V.cs)
  rw [List.length_set,← over_vs hi,hit]
  rw [hit] at hown
  exact setCells_row _ _ _ _ _ _ _ _ _ hown
 ·rcases hb2 with rfl | rfl | hb2
  ·exact hoth _ m2
  ·exact hoth _ m3
  ·exact hoth _ (fun e=>m4 (by rw [← e];exact hb2))
theorem Vs.one (W:World) (x:V):Vs (W.alloc (.cells x.ca 23)) (.slice (some ⟨W.heap.size,0,none⟩) 1 1) [x]:=by
 refine .inr ⟨W.heap.size,0,1,rfl,by rw [zL];omega,Nat.le_refl _,by decide,fun j u hj=>?_⟩
 rw [cell_of (MapKept.heap_alloc W (.cells x.ca 23)).1,Nat.zero_add]
 simpa [V.ca,V.cs] using hj
theorem setAt_end {w W1 W2 W3:World} {hp:Nat} {h:Hp} {F:Foot} {L:Lay} (r:HRL w hp h F L) {c:CO} (hc:c∈L.cos) {v:V} (hn:c.n=v.n) (ho:h.of v=some c.o) {i:Nat} (hi:i < c.o.items.length) {x y:V} (hy:c.o.items[i]?=some y)
  (hb1:Bl w W1) {lr1 lr2:List (Int × Int)} (hst2:Step W1.heap.size (·=L.rm) W1 W2 (·=L.rm)) (hr2:HRL W2 hp (h.withRefs (hold 1 h.refs [x])) F (L.withRefs lr1)) {W2':World} (hb2:Bl W2 W2')
  (hr3:HRL W3 hp ((h.withRefs (hold 1 h.refs [x])).withRefs (hold (-1) (hold 1 h.refs [x]) [y])) F ((L.withRefs lr1).withRefs lr2)) (hst3:Step W2'.heap.size (·=(L.withRefs lr1).rm) W2' W3 (·=(L.withRefs lr1).rm))
  {g cap:Nat} (hit:c.it=.slice (some ⟨g,0,none⟩) c.o.items.length cap) :
  HStep w hp F (h.setAt v i x).1 (setCells W3 g (i * 3) x.cs).drew:=by
 have hcm:c∈((L.withRefs lr1).withRefs lr2).cos:=hc
 obtain ⟨o4,s4⟩:=(hr3.obs c hcm).setItem (fun b hb=>hr3.lt b (hr3.own.2.2.2 c hcm b hb)) hit hi x
 have s2:Step w.heap.size F w W2 F:=(Step.of_bl hb1 r.lt).call hb1.sz (hst2.widen (fun b e=>by rw [e];exact r.own.2.2.1) hr2.lt)
 have hst:Step w.heap.size F w W3 F:=(s2.bl hb2 s2.size).call (Nat.le_trans s2.size hb2.sz) (hst3.widen (fun b e=>by rw [e];exact r.own.2.2.1) hr3.lt)
 have e:((h.withRefs (hold 1 h.refs [x])).withRefs (hold (-1) (hold 1 h.refs [x]) [y])).setN c.n { c.o with items:=c.o.items.set i x }=(h.setAt v i x).1:=by
  unfold Hp.setAt
  rw [ho]
  simp only
  rw [if_pos (by omega)]
  have:c.o.items.getD i V.nil=y:=by rw [List.getD_eq_getElem?_getD,hy];rfl
  simp [Hp.setN,Hp.withRefs,Hp.set,hn,hy]
 rw [← e]
 exact HStep.mod (c':={ c with o:={ c.o with items:=c.o.items.set i x } }) hr3 hst hcm rfl rfl rfl o4 s4
theorem Step.cellAt {B:Nat} {F F1:Foot} {a w:World} (h:Step B F a w F1) (b o:Nat) (hb:b < B) (hF:¬ F b):w.cell? ⟨b,o,none⟩=a.cell? ⟨b,o,none⟩:=World.cell?_of_block (w:=a) (a:=⟨b,o,none⟩) (h.block b hb hF)
theorem alc (w:World) (x:Obj) (b o:Nat) (hb:b < w.heap.size):(w.alloc x).cell? ⟨b,o,none⟩=w.cell? ⟨b,o,none⟩:=World.cell?_of_block (w:=w) (a:=⟨b,o,none⟩) (Below.heap_alloc _ _ _ hb)
theorem hold_one (w:World) (hp:Nat) (h:Hp) (F:Foot) (L:Lay) (r:HRL w hp h F L) (by_:Int) (x:V) (W:World) (hb:Bl w W) (g:Nat) (hg:g=W.heap.size) :
  Calls Tryz.prog 223 #[.pointer (some ⟨hp,0,none⟩),.int .i64 by_,.slice (some ⟨g,0,none⟩) 1 1] (W.alloc (.cells x.ca 23)) fun e w'=>e=.returned (.tuple #[])∧Held (W.alloc (.cells x.ca 23)) hp h F L (hold by_ h.refs [x]) w':=by
 subst hg
 exact hold_any _ hp h F L ((r.bl hb).bl (Bl.al _ _)) by_ _ [x] (Vs.one W x) (show (1:Nat)≤1048576 by decide)
set_option maxRecDepth 100000 in
set_option maxHeartbeats 8000000 in
theorem setAt_yes (w:World) (hp:Nat) (h:Hp) (F:Foot) (r:HR w hp h F) (v:V) (i:Nat) (x:V) (o:Ob) (ho:h.of v=some o) (hi:i < o.items.length) :
  Calls Tryz.prog 155 #[.pointer (some ⟨hp,0,none⟩),v.agg,.int .i64 i,x.agg] w fun e w'=>e=.returned (.bool true)∧HStep w hp F (h.setAt v i x).1 w':=by
 rcases r.case v with ⟨h0,-⟩ | ⟨L,c,r,hc,hn,hk,h1,co⟩
 ·rw [ho] at h0;cases h0
 ·rw [ho] at h1
  cases h1
  obtain ⟨y,hy⟩:∃ y,c.o.items[i]?=some y:=⟨_,List.getElem?_eq_getElem hi⟩
  have hfew:=(r.obs c hc).few
  replace hfew:c.o.items.length≤1048576:=hfew
  obtain ⟨g,ic,hit⟩:∃ g c',c.it=.slice (some ⟨g,0,none⟩) c.o.items.length c':=by
   obtain ⟨a,c',e,hg⟩:=row_form (r.obs c hc).items
   obtain ⟨g,rfl,-⟩:=hg (by omega)
   exact ⟨g,c',e⟩
  have hitems:∀ (w':World) (L':Lay) (h':Hp),HRL w' hp h' F L'→c∈L'.cos→w'.cell? ⟨g,i * 3,none⟩=some (.int .i64 y.k)∧w'.cell? ⟨g,i * 3 + 1,none⟩=some (.int .i64 y.n)∧w'.cell? ⟨g,i * 3 + 2,none⟩=some (.string (bs y.s))∧(∀ o,w'.frozen? ⟨g,o,none⟩=false)∧g < w'.heap.size:=fun w' L' h' r' hc'=>by
   have h1:=(r'.obs c hc').items
   have hlt:=r'.lt g (r'.own.2.2.2 c hc' g (.inr (.inr (.inr (.inl (by rw [hit];rfl))))))
   have hf:∀ o,w'.frozen? ⟨g,o,none⟩=false:=fun o=>by rw [hit] at h1;exact h1.frozenAt o
   rw [hit] at h1
   have q:∀ t,t < 3→w'.cell? ⟨g,i * 3 + t,none⟩=y.cs[t]?:=fun t ht=>by
    have:=h1.cellAt (i * 3 + t) (by omega)
    rw [this];exact vcs_at ht hy
   exact ⟨q 0 (by decide),q 1 (by decide),q 2 (by decide),hf,hlt⟩
  have HRR:=zH r
  have HC:=zH hc
  have HN:=zH hn
  have HIT:=zH hit
  have HI:=zH hi
  have HY:=zH hy
  have HOV:=zH ho
  have HITEMS:=zH hitems
  obtain ⟨n,hnn⟩:∃ n,n=c.o.items.length:=⟨_,rfl⟩
  rw [← hnn] at hi hfew
  have HNN:=zH hnn
  have ROB:=zH (show F L.rm∧∀ b,F b→b < w.heap.size from ⟨r.own.2.2.1,r.lt⟩)
  clear r hc hn hk hit hy ho hnn hitems
  go_enter Tryz.func155,Tryz.ntmps155
  go_wp2_with fail
  refine (co _ (by (repeat (first | exact qA _ | assumption | refine qB ?_ _ | refine qC ?_ | refine qD ?_ _ | refine qE ?_ _ (by simp<;>omega) _)))).mono ?_
  rintro e W1 ⟨rfl,hb1⟩
  have hbw:Bl w W1:=Bl.trans (by (repeat (first | exact qA _ | assumption | refine qB ?_ _ | refine qC ?_ | refine qD ?_ _ | refine qE ?_ _ (by simp<;>omega) _))) hb1
  obtain ⟨hc1,hf1⟩:=bcell hb1
  have hz:=hb1.sz
  simp only [zL] at hz
  have x0:W1.cell? ⟨w.heap.size + 1,0,none⟩=some (.int .i64 x.k):=(hc1 (w.heap.size + 1) 0 (by simp)).trans (by go_simp)
  have x1:W1.cell? ⟨w.heap.size + 1,1,none⟩=some (.int .i64 x.n):=(hc1 (w.heap.size + 1) 1 (by simp)).trans (by go_simp)
  have x2:W1.cell? ⟨w.heap.size + 1,2,none⟩=some (.string (bs x.s)):=(hc1 (w.heap.size + 1) 2 (by simp)).trans (by go_simp)
  have hr1:=HRR.out.bl hbw
  obtain ⟨⟨c1,c2,c3,c4,c5⟩,c6⟩:=(hr1.obs c HC.out).cells (Bl.refl _)
  rw [HIT.out,← HNN.out] at c4
  have t0:decide ((i:Int) < 0)=false:=decide_eq_false (by omega)
  have t1:decide (n≤i)=false:=decide_eq_false (by omega)
  have HB:=zH hbw
  have HR1:=zH hr1
  have HX:=zH (And.intro x0 (And.intro x1 x2))
  have HLT:=zH (show w.heap.size + 1 < W1.heap.size by omega)
  clear c1 c2 c3 c5 hbw hb1 hr1 co hc1 hf1 hz
  have ch:=hold_one w hp h F L HRR.out 1 x W1 HB.out _ rfl
  go_wp2_with fail
  refine ch.mono ?_
  rintro e W2 ⟨rfl,lr1,hr2,hst2⟩
  have hB2:Bl w (W1.alloc (.cells x.ca 23)):=HB.out.al' _
  have hkeep:∀ o,W2.cell? ⟨w.heap.size + 1,o,none⟩=W1.cell? ⟨w.heap.size + 1,o,none⟩:=fun o =>
   (hst2.cellAt _ o (by rw [zL];have:=HLT.out;omega) (fun e=>by have:=HRR.out.lt _ ROB.out.1;have e2:w.heap.size + 1=L.rm:=e;omega)).trans (alc _ _ _ _ HLT.out)
  obtain ⟨⟨d1,d2,d3,d4,d5⟩,d6⟩:=(hr2.obs c HC.out).cells (Bl.refl _)
  rw [HIT.out,← HNN.out] at d4
  obtain ⟨q0,q1,q2,q3,q4⟩:=HITEMS.out W2 _ _ hr2 HC.out
  have HST2:=zH hst2
  have HR2:=zH hr2
  have HX2:=zH (And.intro ((hkeep 0).trans HX.out.1) (And.intro ((hkeep 1).trans HX.out.2.1) ((hkeep 2).trans HX.out.2.2)))
  have ch2:=hold_one W2 hp _ F _ hr2 (-1) y W2 (Bl.refl _) _ rfl
  clear d1 d2 d3 d5 hr2 hst2 ch hkeep x0 x1 x2
  go_wp2_with fail
  refine ch2.mono ?_
  rintro e W3 ⟨rfl,lr2,hr3,hst3⟩
  have h12:w.heap.size + 1 < W2.heap.size:=by have:=HST2.out.size;rw [zL] at this;have:=HLT.out;omega
  have hkeep:∀ o,W3.cell? ⟨w.heap.size + 1,o,none⟩=W2.cell? ⟨w.heap.size + 1,o,none⟩:=fun o =>
   (hst3.cellAt _ o (by rw [zL];omega) (fun e=>by have:=HRR.out.lt _ ROB.out.1;have e2:w.heap.size + 1=L.rm:=e;omega)).trans (alc _ _ _ _ h12)
  have x0:=(hkeep 0).trans HX2.out.1
  have x1:=(hkeep 1).trans HX2.out.2.1
  have x2:=(hkeep 2).trans HX2.out.2.2
  obtain ⟨⟨d1,d2,d3,d4',d5⟩,d6'⟩:=(hr3.obs c HC.out).cells (Bl.refl _)
  rw [HIT.out,← HNN.out] at d4'
  obtain ⟨p0,p1,p2,p3,p4⟩:=HITEMS.out W3 _ _ hr3 HC.out
  have HT:=zH (setAt_end HRR.out HC.out HN.out HOV.out HI.out HY.out hB2 HST2.out HR2.out (Bl.al W2 (.cells y.ca 23)) hr3 hst3 HIT.out)
  clear d1 d2 d3 d5 hr3 hst3 hkeep d4 d6 q0 q1 q2 q3 q4 hB2 c4 c6 ch2
  go_wp2
  go_region
  all_goals
   go_wp2
   go_ret
   exact ⟨rfl,HT.out⟩
end
section
open Go.RowKit
theorem Bl.sm {w w':World} {b o:Nat} {u:Value} (h:Bl w w') (c:w.cell? ⟨b,o,none⟩=some u):w'.cell? ⟨b,o,none⟩=some u:=by
 have hlt:b < w.heap.size:=by
  unfold World.cell? at c
  by_cases hb:b < w.heap.size
  ·exact hb
  ·rw [show w.heap[(⟨b,o,none⟩:Addr).block]?=none from Array.getElem?_eq_none (by show w.heap.size≤b;omega)] at c
   cases c
 rw [World.cell?_of_block (w:=w) (a:=⟨b,o,none⟩) (h.at hlt)];exact c
theorem keep4 {w w':World} {b0 b1 o1:Nat} {x y z u:Value} (h:w.cell? ⟨b0,0,none⟩=some x∧w.cell? ⟨b0,1,none⟩=some y∧w.cell? ⟨b0,2,none⟩=some z∧w.cell? ⟨b1,o1,none⟩=some u) (hb:Bl w w') :
  w'.cell? ⟨b0,0,none⟩=some x∧w'.cell? ⟨b0,1,none⟩=some y∧w'.cell? ⟨b0,2,none⟩=some z∧w'.cell? ⟨b1,o1,none⟩=some u:=⟨hb.sm h.1,hb.sm h.2.1,hb.sm h.2.2.1,hb.sm h.2.2.2⟩
theorem Bl.three {w w':World} {b:Nat} {t:TypeId} {x y z:Value} (h:Bl w w') (c:w.heap[b]?=some (.cells #[x,y,z] t (0,0))) :
  w'.cell? ⟨b,0,none⟩=some x∧w'.cell? ⟨b,1,none⟩=some y∧w'.cell? ⟨b,2,none⟩=some z∧∀ o,w'.frozen? ⟨b,o,none⟩=false:=by
 have e:=(h.at (zN c).1).trans c
 exact ⟨by rw [cell_of e];rfl,by rw [cell_of e];rfl,by rw [cell_of e];rfl,fun o=>by simp [World.frozen?,e]⟩
theorem HStep.trans {w w1 w2:World} {hp:Nat} {F F1:Foot} {h2:Hp} (st:Step w.heap.size F w w1 F1) (s2:HStep w1 hp F1 h2 w2):HStep w hp F h2 w2:=by
 obtain ⟨F2,r2,st2⟩:=s2
 exact ⟨F2,r2,st.call st.size st2⟩
theorem Held.hstep {w w':World} {hp:Nat} {h:Hp} {F:Foot} {L:Lay} {r:Int→Int} (hr:HRL w hp h F L) (hh:Held w hp h F L r w'):HStep w hp F (h.withRefs r) w':=by
 obtain ⟨lr,h1,h2⟩:=hh
 exact ⟨F,⟨_,h1⟩,h2.widen (fun b e=>by rw [e];exact hr.own.2.2.1) h1.lt⟩
theorem hold_H (w:World) (hp:Nat) (h:Hp) (F:Foot) (r:HR w hp h F) (by_:Int) (x:Value) (l:List V) (hx:Vs w x l) (hl:l.length≤big) :
  Calls Tryz.prog 223 #[.pointer (some ⟨hp,0,none⟩),.int .i64 by_,x] w fun e w'=>e=.returned (.tuple #[])∧HStep w hp F (h.withRefs (hold by_ h.refs l)) w':=by
 obtain ⟨L,r⟩:=r
 exact (hold_any w hp h F L r by_ x l hx hl).mono fun e w' ⟨h1,h2⟩=>⟨h1,h2.hstep r⟩
theorem hold_H1 (w:World) (hp:Nat) (h:Hp) (F:Foot) (r:HR w hp h F) (by_:Int) (x:V) (g:Nat) (hg:g=w.heap.size) :
  Calls Tryz.prog 223 #[.pointer (some ⟨hp,0,none⟩),.int .i64 by_,.slice (some ⟨g,0,none⟩) 1 1] (w.alloc (.cells x.ca 23)) fun e w'=>e=.returned (.tuple #[])∧HStep (w.alloc (.cells x.ca 23)) hp F (h.withRefs (hold by_ h.refs [x])) w':=by
 subst hg
 exact hold_H _ hp h F (r.bl (Bl.al _ _)) by_ _ [x] (Vs.one w x) (show (1:Nat)≤1048576 by decide)
theorem HStep.dict {w w':World} {hp:Nat} {h:Hp} {F:Foot} {L:Lay} (r:HRL w hp h F L) {c:CO} (hc:c∈L.cos) {d':Row} (hd:DStep w c.db c.mb c.sl d' w'):HStep w hp F (h.setN c.n { c.o with d:=d' }) w':=by
 obtain ⟨sl',rows',hd',hs⟩:=hd
 have ho:=r.obs c hc
 obtain ⟨n1,n2,n3,n4⟩:=ho.ne
 have hlt:∀ b,c.foot b→b < w.heap.size:=fun b hb=>r.lt b (r.own.2.2.2 c hc b hb)
 have hnit:∀ b,c.it.ownBlock=some b→¬ Fd c.db c.mb c.sl b:=fun b hb hf=>by
  rcases ho.items.2 with ⟨e2,-⟩ | ⟨g,cap,cur,e2,-,hg,-⟩
  ·rw [e2] at hb;cases hb
  ·rw [e2] at hb;cases hb
   rcases hf with rfl | rfl | hf
   ·rw [ho.dict.blk] at hg
    injection hg with hg
    injection hg with _ e2 _;exact absurd e2 (by decide)
   ·obtain ⟨es,cd,at_,hmm,-⟩:=ho.dict.map
    rw [hmm] at hg;cases hg
   ·rcases ho.dict.own.2 with ⟨e3,-⟩ | ⟨g',cap',cur',e3,-,hg',-⟩
    ·rw [e3] at hf;cases hf
    ·rw [e3] at hf;cases hf
     rw [hg] at hg'
     injection hg' with hg'
     injection hg' with _ e2 _;exact absurd e2 (by decide)
 have hnob:¬ Fd c.db c.mb c.sl c.ob:=by
  rintro (e | e | e)
  ·exact n1 e
  ·exact n2 e
  ·exact n4 e
 refine HStep.mod (c':={ c with o:={ c.o with d:=d' },sl:=sl',rows:=rows' }) r (Step.refl r.lt) hc rfl rfl rfl ?_ ?_
 ·refine ⟨(hs.block _ (hlt _ (.inl rfl)) hnob).trans ho.blk,⟨ho.items.1,ho.items.2.elim .inl fun ⟨g,cap,cur,e,h0,hg,q⟩=>.inr ⟨g,cap,cur,e,h0,(hs.block g (hlt g (.inr (.inr (.inr (.inl (by rw [e];rfl)))))) (hnit g (by rw [e];rfl))).trans hg,q⟩⟩,hd',ho.few⟩
 ·refine ⟨hs.os,hs.tape,hs.output,hs.size,fun k h1 h2=>hs.block k h1 fun hf=>h2 ?_,?_,?_⟩
  ·rcases hf with e | e | e
   ·exact .inr (.inl e)
   ·exact .inr (.inr (.inl e))
   ·exact .inr (.inr (.inr (.inr e)))
  ·rintro b (e | e | e | e | e)
   ·exact .inl (.inl e)
   ·exact .inl (.inr (.inl e))
   ·exact .inl (.inr (.inr (.inl e)))
   ·exact .inl (.inr (.inr (.inr (.inl e))))
   ·rcases hs.foot b (.inr (.inr e)) with hf | hf
    ·rcases hf with e | e | e
     ·exact .inl (.inr (.inl e))
     ·exact .inl (.inr (.inr (.inl e)))
     ·exact .inl (.inr (.inr (.inr (.inr e))))
    ·exact .inr hf
  ·rintro b (e | e | e | e | e)
   ·exact Nat.lt_of_lt_of_le (hlt b (.inl e)) hs.size
   ·exact Nat.lt_of_lt_of_le (hlt b (.inr (.inl e))) hs.size
   ·exact Nat.lt_of_lt_of_le (hlt b (.inr (.inr (.inl e)))) hs.size
   ·exact Nat.lt_of_lt_of_le (hlt b (.inr (.inr (.inr (.inl e))))) hs.size
   ·exact hs.lt b (.inr (.inr e))
theorem put_same {α β:Type} [DecidableEq α] {l:List (α × β)} {a:α} {b:β} (h:get l a=some b):put l a b=l:=by
 induction l with
 | nil=>cases h
 | cons p t ih =>
  obtain ⟨k,v⟩:=p
  by_cases e:k=a
  ·rw [get,if_pos e] at h;cases h;rw [put,if_pos e]
  ·rw [get,if_neg e] at h;rw [put,if_neg e,ih h]
theorem DStep.sm {w w':World} {db mb:Nat} {sl:Value} {d:Row} {b o:Nat} {u:Value} (h:DStep w db mb sl d w') (hn:¬ Fd db mb sl b) (c:w.cell? ⟨b,o,none⟩=some u):w'.cell? ⟨b,o,none⟩=some u:=by
 obtain ⟨sl',rows',-,hs⟩:=h
 have hlt:b < w.heap.size:=by
  unfold World.cell? at c
  by_cases hb:b < w.heap.size
  ·exact hb
  ·rw [show w.heap[(⟨b,o,none⟩:Addr).block]?=none from Array.getElem?_eq_none (by show w.heap.size≤b;omega)] at c
   cases c
 rw [World.cell?_of_block (w:=w) (a:=⟨b,o,none⟩) (hs.block b hlt hn)];exact c
theorem keep7d {w w':World} {db mb:Nat} {sl:Value} {d:Row} {b0 b1 b2 o1:Nat} {x y z x' y' z' u:Value} (h:w.cell? ⟨b0,0,none⟩=some x∧w.cell? ⟨b0,1,none⟩=some y∧w.cell? ⟨b0,2,none⟩=some z∧w.cell? ⟨b2,0,none⟩=some x'∧w.cell? ⟨b2,1,none⟩=some y'∧w.cell? ⟨b2,2,none⟩=some z'∧w.cell? ⟨b1,o1,none⟩=some u) (hb:DStep w db mb sl d w') (n0:¬ Fd db mb sl b0) (n2:¬ Fd db mb sl b2) (n1:¬ Fd db mb sl b1) :
  w'.cell? ⟨b0,0,none⟩=some x∧w'.cell? ⟨b0,1,none⟩=some y∧w'.cell? ⟨b0,2,none⟩=some z∧w'.cell? ⟨b2,0,none⟩=some x'∧w'.cell? ⟨b2,1,none⟩=some y'∧w'.cell? ⟨b2,2,none⟩=some z'∧w'.cell? ⟨b1,o1,none⟩=some u :=
 ⟨hb.sm n0 h.1,hb.sm n0 h.2.1,hb.sm n0 h.2.2.1,hb.sm n2 h.2.2.2.1,hb.sm n2 h.2.2.2.2.1,hb.sm n2 h.2.2.2.2.2.1,hb.sm n1 h.2.2.2.2.2.2⟩
theorem HRL.nFd {w:World} {hp:Nat} {h:Hp} {F:Foot} {L:Lay} (r:HRL w hp h F L) {c:CO} (hc:c∈L.cos):¬ Fd c.db c.mb c.sl c.ob∧∀ b,w.heap.size≤b→¬ Fd c.db c.mb c.sl b:=by
 have ho:=r.obs c hc
 obtain ⟨n1,n2,n3,n4⟩:=ho.ne
 refine ⟨?_,fun b hb hf=>by have:=ho.dict.lt b hf;omega⟩
 rintro (e | e | e)
 ·exact n1 e
 ·exact n2 e
 ·exact n4 e
theorem Hp.setN_same {h:Hp} {v:V} {o:Ob} (hk:h.of v=some o) {n:Int} (hn:n=v.n):h.setN n o=h:=by
 unfold Hp.of at hk
 by_cases h4:v.k=4
 ·rw [if_pos h4] at hk
  unfold Hp.setN;rw [hn,put_same hk]
 ·rw [if_neg h4] at hk;cases hk
theorem Hp.put_no {h:Hp} {v k x:V} {o:Ob} (ho:h.of v=some o) {n:Int} (hn:n=v.n) (hp:false=dputB o.d k):(h.put v k x).2=false∧(h.put v k x).1=h.setN n { o with d:=dput o.d k x }:=by
 have e:dput o.d k x=o.d:=by unfold dput;rw [← hp];rfl
 rw [e]
 refine ⟨by unfold Hp.put;rw [ho];simp [← hp],?_⟩
 rw [show ({ o with d:=o.d }:Ob)=o from rfl,Hp.setN_same ho hn]
 unfold Hp.put;rw [ho];simp [← hp]
theorem Hp.put_new {h:Hp} {v k x:V} {o:Ob} (ho:h.of v=some o) {n:Int} (hn:n=v.n) (hp:true=dputB o.d k) (hg:false=(W.get o.d k).isSome):(h.put v k x).2=true∧(h.put v k x).1=(h.setN n { o with d:=dput o.d k x }).withRefs (hold 1 (h.setN n { o with d:=dput o.d k x }).refs [x]):=by
 have hg2:W.get o.d k=none:=by cases e:W.get o.d k with | none=>rfl | some _=>rw [e] at hg;cases hg
 have e:dput o.d k x=W.put o.d k x:=by unfold dput;rw [← hp];rfl
 rw [e]
 refine ⟨by unfold Hp.put;rw [ho];simp [← hp],?_⟩
 unfold Hp.put;rw [ho];simp [← hp,hg2,Hp.setN,Hp.withRefs,Hp.set,hn]
theorem Hp.put_was {h:Hp} {v k x y:V} {o:Ob} (ho:h.of v=some o) {n:Int} (hn:n=v.n) (hp:true=dputB o.d k) (hg:true=(W.get o.d k).isSome) (hy:y=(W.get o.d k).getD V.nil) :
  (h.put v k x).2=true∧(h.put v k x).1=((h.setN n { o with d:=dput o.d k x }).withRefs (hold 1 (h.setN n { o with d:=dput o.d k x }).refs [x])).withRefs (hold (-1) ((h.setN n { o with d:=dput o.d k x }).withRefs (hold 1 (h.setN n { o with d:=dput o.d k x }).refs [x])).refs [y]):=by
 obtain ⟨z,hz⟩:=Option.isSome_iff_exists.1 hg.symm
 have e:dput o.d k x=W.put o.d k x:=by unfold dput;rw [← hp];rfl
 rw [hz] at hy
 rw [e]
 refine ⟨by unfold Hp.put;rw [ho];simp [← hp],?_⟩
 unfold Hp.put;rw [ho];simp [← hp,hz,Hp.setN,Hp.withRefs,Hp.set,hn,hy]
end
section
open Go.RowKit
end
section
open Go.RowKit
theorem at_some (w:World) (hp:Nat) (h:Hp) (F:Foot) (r:HR w hp h F) (v:V) (i:Nat) (o:Ob) (ho:h.of v=some o) (hi:i < o.items.length) (y:V) (hy:o.items[i]?=some y) :
  Calls Tryz.prog 91 #[.pointer (some ⟨hp,0,none⟩),v.agg,.int .i64 i] w fun e w'=>e=.returned (.tuple #[y.agg,.bool true])∧Bl w w':=by
 rcases r.case v with ⟨h0,-⟩ | ⟨L,c,r,hc,hn,hk,h1,co⟩
 ·rw [ho] at h0;cases h0
 ·rw [ho] at h1
  cases h1
  have hfew:=(r.obs c hc).few
  replace hfew:c.o.items.length≤1048576:=hfew
  obtain ⟨g,ic,hit⟩:∃ g c',c.it=.slice (some ⟨g,0,none⟩) c.o.items.length c':=by
   obtain ⟨a,c',e,hg⟩:=row_form (r.obs c hc).items
   obtain ⟨g,rfl,-⟩:=hg (by omega)
   exact ⟨g,c',e⟩
  have hrow:=(r.obs c hc).items
  rw [hit] at hrow
  have q:∀ t,t < 3→w.cell? ⟨g,i * 3 + t,none⟩=y.cs[t]?:=fun t ht=>by
   have:=hrow.cellAt (i * 3 + t) (by omega)
   rw [this];exact vcs_at ht hy
  have q0:w.cell? ⟨g,i * 3,none⟩=some (.int .i64 y.k):=q 0 (by decide)
  have q1:w.cell? ⟨g,i * 3 + 1,none⟩=some (.int .i64 y.n):=q 1 (by decide)
  have q2:w.cell? ⟨g,i * 3 + 2,none⟩=some (.string (bs y.s)):=q 2 (by decide)
  have HO:=zH (r.obs c hc)
  have HIT:=zH hit
  obtain ⟨n,hnn⟩:∃ n,n=c.o.items.length:=⟨_,rfl⟩
  rw [← hnn] at hi hfew
  have HNN:=zH hnn
  clear r hc hn hk hit hy ho hnn hrow q
  go_enter Tryz.func91,Tryz.ntmps91
  go_wp2_with fail
  refine (co _ (by (repeat (first | exact qA _ | assumption | refine qB ?_ _ | refine qC ?_ | refine qD ?_ _ | refine qE ?_ _ (by simp<;>omega) _)))).mono ?_
  rintro e W1 ⟨rfl,hb1⟩
  have hbw:Bl w W1:=Bl.trans (by (repeat (first | exact qA _ | assumption | refine qB ?_ _ | refine qC ?_ | refine qD ?_ _ | refine qE ?_ _ (by simp<;>omega) _))) hb1
  obtain ⟨s0,s1,s2,sf⟩:=hb1.three (MapKept.heap_alloc (w.alloc (.cells v.ca 23)) (.cells #[.int .i64 0,.int .i64 0,.string ⟨#[]⟩] 23)).1
  rw [zL] at s0 s1 s2 sf
  obtain ⟨⟨c1,c2,c3,c4,c5⟩,c6⟩:=HO.out.cells hbw
  rw [HIT.out,← HNN.out] at c4
  replace q0:=hbw.sm q0
  replace q1:=hbw.sm q1
  replace q2:=hbw.sm q2
  have t0:decide ((i:Int) < 0)=false:=decide_eq_false (by omega)
  have t1:decide (n≤i)=false:=decide_eq_false (by omega)
  have hz:=hb1.sz
  simp only [zL] at hz
  have hb2:=hbw.sz
  have HB:=zH hbw
  clear c1 c2 c3 c5 hb1 co hbw
  go_wp2
  refine bodyPost_ret (v:=.tuple #[y.agg,.bool true]) (by simp [results,Tryz.results91,go_sem,s0,s1,s2,sf]) rfl ⟨rfl,?_⟩
  have:=HB.out
  (repeat (first | exact qA _ | assumption | refine qB ?_ _ | refine qC ?_ | refine qD ?_ _ | refine qE ?_ _ (by simp<;>omega) _))
theorem bad_cases {a:Int} {n:Nat} (h:¬ (0≤a∧a < n)):decide (a < 0)=true∨(decide (a < 0)=false∧decide ((n:Int)≤a)=true):=by
 by_cases q1:a < 0
 ·exact .inl (decide_eq_true q1)
 ·exact .inr ⟨decide_eq_false q1,decide_eq_true (by omega)⟩
theorem at_no (w:World) (hp:Nat) (h:Hp) (F:Foot) (r:HR w hp h F) (v:V) (i:Int) (ho:h.of v=none∨∃ o,h.of v=some o∧¬ (0≤i∧i < o.items.length)) :
  Calls Tryz.prog 91 #[.pointer (some ⟨hp,0,none⟩),v.agg,.int .i64 i] w fun e w'=>e=.returned (.tuple #[V.nil.agg,.bool false])∧Bl w w':=by
 rcases r.case v with ⟨h0,co⟩ | ⟨L,c,r,hc,hn,hk,h1,co⟩
 ·clear ho h0 r
  go_enter Tryz.func91,Tryz.ntmps91
  go_wp2_with fail
  refine (co _ (by (repeat (first | exact qA _ | assumption | refine qB ?_ _ | refine qC ?_ | refine qD ?_ _ | refine qE ?_ _ (by simp<;>omega) _)))).mono ?_
  rintro e W1 ⟨rfl,hb1⟩
  have hbw:Bl w W1:=Bl.trans (by (repeat (first | exact qA _ | assumption | refine qB ?_ _ | refine qC ?_ | refine qD ?_ _ | refine qE ?_ _ (by simp<;>omega) _))) hb1
  obtain ⟨s0,s1,s2,sf⟩:=hb1.three (MapKept.heap_alloc (w.alloc (.cells v.ca 23)) (.cells #[.int .i64 0,.int .i64 0,.string ⟨#[]⟩] 23)).1;rw [zL] at s0 s1 s2 sf
  have HB:=zH hbw
  clear hb1 hbw
  go_wp2
  refine bodyPost_ret (v:=.tuple #[V.nil.agg,.bool false]) (by simp [results,Tryz.results91,go_sem,s0,s1,s2,sf]) rfl ⟨rfl,?_⟩
  have:=HB.out
  (repeat (first | exact qA _ | assumption | refine qB ?_ _ | refine qC ?_ | refine qD ?_ _ | refine qE ?_ _ (by simp<;>omega) _))
 ·have hbad:¬ (0≤i∧i < c.o.items.length):=by
   rcases ho with ho | ⟨o,ho,hb⟩
   ·rw [h1] at ho;cases ho
   ·rw [h1] at ho;cases ho;exact hb
  have hfew:=(r.obs c hc).few
  replace hfew:c.o.items.length≤1048576:=hfew
  obtain ⟨ia,ic,hit⟩:∃ a c',c.it=.slice a c.o.items.length c':=by
   obtain ⟨a,c',e,-⟩:=row_form (r.obs c hc).items
   exact ⟨a,c',e⟩
  have HO:=zH (r.obs c hc)
  obtain ⟨n,hnn⟩:∃ n,n=c.o.items.length:=⟨_,rfl⟩
  rw [← hnn] at hbad hfew hit
  have HIT:=zH hit
  have hcase:=bad_cases hbad
  clear ho r hc hn hk h1 hit hnn hbad
  rcases hcase with t0 | ⟨t0,t1⟩
  all_goals
   go_enter Tryz.func91,Tryz.ntmps91
   go_wp2_with fail
   refine (co _ (by (repeat (first | exact qA _ | assumption | refine qB ?_ _ | refine qC ?_ | refine qD ?_ _ | refine qE ?_ _ (by simp<;>omega) _)))).mono ?_
   rintro e W1 ⟨rfl,hb1⟩
   have hbw:Bl w W1:=Bl.trans (by (repeat (first | exact qA _ | assumption | refine qB ?_ _ | refine qC ?_ | refine qD ?_ _ | refine qE ?_ _ (by simp<;>omega) _))) hb1
   obtain ⟨⟨c1,c2,c3,c4,c5⟩,c6⟩:=HO.out.cells hbw
   rw [HIT.out] at c4
   obtain ⟨s0,s1,s2,sf⟩:=hb1.three (MapKept.heap_alloc (w.alloc (.cells v.ca 23)) (.cells #[.int .i64 0,.int .i64 0,.string ⟨#[]⟩] 23)).1;rw [zL] at s0 s1 s2 sf
   have HBW:=zH hbw
   clear c1 c2 c3 c5 hbw hb1 co
   go_wp2
   refine bodyPost_ret (v:=.tuple #[V.nil.agg,.bool false]) (by simp [results,Tryz.results91,go_sem,s0,s1,s2,sf]) rfl ⟨rfl,?_⟩
   have:=HBW.out
   (repeat (first | exact qA _ | assumption | refine qB ?_ _ | refine qC ?_ | refine qD ?_ _ | refine qE ?_ _ (by simp<;>omega) _))
theorem setAt_no (w:World) (hp:Nat) (h:Hp) (F:Foot) (r:HR w hp h F) (v:V) (i:Int) (x:V) (ho:h.of v=none∨∃ o,h.of v=some o∧¬ (0≤i∧i < o.items.length)) :
  Calls Tryz.prog 155 #[.pointer (some ⟨hp,0,none⟩),v.agg,.int .i64 i,x.agg] w fun e w'=>e=.returned (.bool false)∧Bl w w':=by
 rcases r.case v with ⟨h0,co⟩ | ⟨L,c,r,hc,hn,hk,h1,co⟩
 ·clear ho h0 r
  go_enter Tryz.func155,Tryz.ntmps155
  go_wp2_with fail
  refine (co _ (by (repeat (first | exact qA _ | assumption | refine qB ?_ _ | refine qC ?_ | refine qD ?_ _ | refine qE ?_ _ (by simp<;>omega) _)))).mono ?_
  rintro e W1 ⟨rfl,hb1⟩
  have hbw:Bl w W1:=Bl.trans (by (repeat (first | exact qA _ | assumption | refine qB ?_ _ | refine qC ?_ | refine qD ?_ _ | refine qE ?_ _ (by simp<;>omega) _))) hb1
  skip
  have HB:=zH hbw
  clear hb1 hbw
  go_wp2
  go_ret
  exact ⟨rfl,HB.out⟩
 ·have hbad:¬ (0≤i∧i < c.o.items.length):=by
   rcases ho with ho | ⟨o,ho,hb⟩
   ·rw [h1] at ho;cases ho
   ·rw [h1] at ho;cases ho;exact hb
  have hfew:=(r.obs c hc).few
  replace hfew:c.o.items.length≤1048576:=hfew
  obtain ⟨ia,ic,hit⟩:∃ a c',c.it=.slice a c.o.items.length c':=by
   obtain ⟨a,c',e,-⟩:=row_form (r.obs c hc).items
   exact ⟨a,c',e⟩
  have HO:=zH (r.obs c hc)
  obtain ⟨n,hnn⟩:∃ n,n=c.o.items.length:=⟨_,rfl⟩
  rw [← hnn] at hbad hfew hit
  have HIT:=zH hit
  have hcase:=bad_cases hbad
  clear ho r hc hn hk h1 hit hnn hbad
  rcases hcase with t0 | ⟨t0,t1⟩
  all_goals
   go_enter Tryz.func155,Tryz.ntmps155
   go_wp2_with fail
   refine (co _ (by (repeat (first | exact qA _ | assumption | refine qB ?_ _ | refine qC ?_ | refine qD ?_ _ | refine qE ?_ _ (by simp<;>omega) _)))).mono ?_
   rintro e W1 ⟨rfl,hb1⟩
   have hbw:Bl w W1:=Bl.trans (by (repeat (first | exact qA _ | assumption | refine qB ?_ _ | refine qC ?_ | refine qD ?_ _ | refine qE ?_ _ (by simp<;>omega) _))) hb1
   obtain ⟨⟨c1,c2,c3,c4,c5⟩,c6⟩:=HO.out.cells hbw
   rw [HIT.out] at c4
   skip
   have HBW:=zH hbw
   clear c1 c2 c3 c5 hbw hb1 co
   go_wp2
   go_ret
   exact ⟨rfl,HBW.out⟩
theorem at_any (w:World) (hp:Nat) (h:Hp) (F:Foot) (r:HR w hp h F) (v:V) (i:Int) :
  Calls Tryz.prog 91 #[.pointer (some ⟨hp,0,none⟩),v.agg,.int .i64 i] w fun e w'=>e=.returned (.tuple #[(h.at v i).1.agg,.bool (h.at v i).2])∧Bl w w':=by
 by_cases hy:∃ o,h.of v=some o∧0≤i∧i < o.items.length
 ·obtain ⟨o,ho,h1,h2⟩:=hy
  obtain ⟨i,rfl⟩:∃ n:Nat,i=n:=⟨i.toNat,by omega⟩
  obtain ⟨y,hy⟩:∃ y,o.items[i]?=some y:=⟨_,List.getElem?_eq_getElem (by omega)⟩
  have e:h.at v i=(y,true):=by unfold Hp.at;rw [ho];simp only;rw [if_pos (by omega)];simp [hy]
  rw [e]
  exact at_some w hp h F r v i o ho (by omega) y hy
 ·have ho:h.of v=none∨∃ o,h.of v=some o∧¬ (0≤i∧i < o.items.length):=by
   cases h0:h.of v with
   | none=>exact .inl rfl
   | some o=>exact .inr ⟨o,rfl,fun hh=>hy ⟨o,h0,hh⟩⟩
  have e:h.at v i=(V.nil,false):=by
   unfold Hp.at
   rcases ho with h0 | ⟨o,h0,hb⟩
   ·rw [h0]
   ·rw [h0];exact if_neg hb
  rw [e]
  exact at_no w hp h F r v i ho
theorem setAt_any (w:World) (hp:Nat) (h:Hp) (F:Foot) (r:HR w hp h F) (v:V) (i:Int) (x:V) :
  Calls Tryz.prog 155 #[.pointer (some ⟨hp,0,none⟩),v.agg,.int .i64 i,x.agg] w fun e w'=>e=.returned (.bool (h.setAt v i x).2)∧HStep w hp F (h.setAt v i x).1 w':=by
 by_cases hy:∃ o,h.of v=some o∧0≤i∧i < o.items.length
 ·obtain ⟨o,ho,h1,h2⟩:=hy
  obtain ⟨i,rfl⟩:∃ n:Nat,i=n:=⟨i.toNat,by omega⟩
  have e:(h.setAt v i x).2=true:=by unfold Hp.setAt;rw [ho];simp only;rw [if_pos (by omega)]
  rw [e]
  exact setAt_yes w hp h F r v i x o ho (by omega)
 ·have ho:h.of v=none∨∃ o,h.of v=some o∧¬ (0≤i∧i < o.items.length):=by
   cases h0:h.of v with
   | none=>exact .inl rfl
   | some o=>exact .inr ⟨o,rfl,fun hh=>hy ⟨o,h0,hh⟩⟩
  have e:h.setAt v i x=(h,false):=by
   unfold Hp.setAt
   rcases ho with h0 | ⟨o,h0,hb⟩
   ·rw [h0]
   ·rw [h0];exact if_neg hb
  rw [e]
  exact (setAt_no w hp h F r v i x ho).mono fun e w' ⟨q1,q2⟩=>⟨q1,HStep.of_bl r q2⟩
end
section
open Go.RowKit
structure Vx (F:Foot) (w:World) (x:Value) (l:List V):Prop where
 vs:Vs w x l
 out:∀ b o n c,x=.slice (some ⟨b,o,none⟩) n c→¬ F b
theorem Vx.step {F F':Foot} {w w':World} {x:Value} {l:List V} (h:Vx F w x l) (s:Step w.heap.size F w w' F'):Vx F' w' x l:=by
 obtain ⟨h1,h2⟩:=h
 rcases h1 with ⟨rfl,rfl⟩ | ⟨b,o,c,rfl,hb,q1,q2,q3⟩
 ·exact ⟨.inl ⟨rfl,rfl⟩,fun b o n c e=>by cases e⟩
 ·have hn:=h2 b o _ c rfl
  exact ⟨.inr ⟨b,o,c,rfl,Nat.lt_of_lt_of_le hb s.size,q1,q2,fun j u hj=>(s.cellAt b (o + j) hb hn).trans (q3 j u hj)⟩,fun b' o' n' c' e hf=>by
   cases e
   exact (s.foot _ hf).elim hn (fun h=>by omega)⟩
theorem Vx.bl {F:Foot} {w w':World} {x:Value} {l:List V} (h:Vx F w x l) (hb:Bl w w'):Vx F w' x l:=⟨h.vs.bl hb,h.out⟩
theorem Vx.nil (F:Foot) (w:World):Vx F w (.slice none 0 0) []:=⟨.inl ⟨rfl,rfl⟩,fun b o n c e=>by cases e⟩
theorem NewVs.vx {w w':World} {l:List V} {x:Value} {F:Foot} (h:NewVs w l (.returned x) w') (hF:∀ b,F b→b < w.heap.size):Vx F w' x l:=by
 refine ⟨h.vs,fun b o n c e hf=>?_⟩
 obtain ⟨y,hy,ho,hb⟩:=h
 cases hy
 have:=hF b hf
 rcases ho.2 with ⟨e2,-⟩ | ⟨g,cap,cur,e2,h0,-⟩
 ·rw [e2] at e;cases e
 ·rw [e2] at e;cases e;omega
def addC:List CO→CO→List CO
 | [],c=>[c]
 | d :: t,c=>if d.n=c.n then c :: t else d :: addC t c
theorem addC_map {γ:Type} (f:CO→γ) (l:List CO) (c:CO):(addC l c).map (fun d=>(d.n,f d))=put (l.map fun d=>(d.n,f d)) c.n (f c):=by
 induction l with
 | nil=>rfl
 | cons d t ih =>
  by_cases h:d.n=c.n
  ·simp [addC,put,h]
  ·simp only [addC,if_neg h,List.map_cons,put,ih]
theorem mem_addC {l:List CO} {c d:CO} (h:d∈addC l c):d=c∨d∈l:=by
 induction l with
 | nil=>simp [addC] at h;exact .inl h
 | cons e t ih =>
  by_cases h2:e.n=c.n
  ·simp only [addC,if_pos h2,List.mem_cons] at h
   rcases h with h | h
   ·exact .inl h
   ·exact .inr (List.mem_cons_of_mem _ h)
  ·simp only [addC,if_neg h2,List.mem_cons] at h
   rcases h with h | h
   ·exact .inr (by rw [h];exact List.mem_cons_self)
   ·exact (ih h).imp id (List.mem_cons_of_mem _)
theorem addC_apart {l:List CO} {c:CO} (h:l.Pairwise Apart) (hc:∀ d∈l,Apart d c∧Apart c d):(addC l c).Pairwise Apart:=by
 induction l with
 | nil=>simp [addC]
 | cons e t ih =>
  have h1:=List.pairwise_cons.1 h
  by_cases h2:e.n=c.n
  ·simp only [addC,if_pos h2]
   exact List.pairwise_cons.2 ⟨fun d hd=>(hc d (List.mem_cons_of_mem _ hd)).2,h1.2⟩
  ·simp only [addC,if_neg h2]
   refine List.pairwise_cons.2 ⟨fun d hd=>?_,ih h1.2 fun d hd=>hc d (List.mem_cons_of_mem _ hd)⟩
   rcases mem_addC hd with rfl | hd
   ·exact (hc e List.mem_cons_self).1
   ·exact h1.1 d hd
theorem HRL.add {w w':World} {hp:Nat} {h:Hp} {F:Foot} {L:Lay} (r:HRL w hp h F L) {c:CO} (hnew:∀ b,c.foot b→w.heap.size≤b∧b < w'.heap.size) (hobs:ObAt w' c)
  (hmap:∃ es c',w'.heap[L.am]?=some (.map es c')∧Ents (fun n:Int=>Value.int .i64 n) (fun b:Nat=>Value.pointer (some ⟨b,0,none⟩)) es.toList (put (L.cos.map fun c=>(c.n,c.ob)) c.n c.ob)∧Born es c')
  (hoth:∀ b,F b→b≠L.am→w'.heap[b]?=w.heap[b]?) (hsz:w.heap.size≤w'.heap.size) :
  HRL w' hp { h with all:=put h.all c.n c.o } (fun b=>F b∨c.foot b) { L with cos:=addC L.cos c }:=by
 obtain ⟨es,cc,hm,he⟩:=r.all
 obtain ⟨es2,cc2,hm2,he2⟩:=r.refs
 have hlt:∀ d∈L.cos,∀ b,d.foot b→b < w.heap.size:=fun d hd b hb=>r.lt b (r.own.2.2.2 d hd b hb)
 have hpa:hp≠L.am:=by rintro e;have:=r.blk;rw [e,hm] at this;cases this
 have hap:∀ d∈L.cos,Apart d c∧Apart c d:=fun d hd=>⟨fun b h1 h2=>by have:=hlt d hd b h1;have:=(hnew b h2).1;omega,fun b h1 h2=>by have:=hlt d hd b h2;have:=(hnew b h1).1;omega⟩
 refine ⟨(hoth _ r.own.1 hpa).trans r.blk,?_,⟨es2,cc2,(hoth _ r.own.2.2.1 r.ne.1.symm).trans hm2,he2⟩,r.lr,?_,?_,nodup_put r.nd _ _,?_,addC_apart r.apart hap,?_,?_,hmap.elim fun es ⟨c,h1,_,h2⟩=>⟨es,c,h1,h2⟩⟩
 ·obtain ⟨es',c',e1,e2,-⟩:=hmap
  refine ⟨es',c',e1,?_⟩
  have:(addC L.cos c).map (fun c=>(c.n,c.ob))=_:=addC_map (·.ob) L.cos c
  rw [this];exact e2
 ·show put h.all c.n c.o=_
  rw [r.eq];exact (addC_map (·.o) L.cos c).symm
 ·intro d hd
  rcases mem_addC hd with rfl | hd
  ·exact hobs
  ·exact (r.obs d hd).keep fun b hb=>hoth b (r.own.2.2.2 d hd b hb) (fun e=>(r.notIn hd).2.1 (by rw [← e];exact hb))
 ·refine ⟨r.ne.1,fun d hd=>?_⟩
  rcases mem_addC hd with rfl | hd
  ·have h1:=(hnew _ (.inr (.inr (.inl rfl)))).1
   have h2:=r.lt _ r.own.2.1
   have h3:=r.lt _ r.own.2.2.1
   exact ⟨show d.mb≠L.am by omega,show d.mb≠L.rm by omega⟩
  ·exact r.ne.2 d hd
 ·refine ⟨.inl r.own.1,.inl r.own.2.1,.inl r.own.2.2.1,fun d hd b hb=>?_⟩
  rcases mem_addC hd with rfl | hd
  ·exact .inr hb
  ·exact .inl (r.own.2.2.2 d hd b hb)
 ·rintro b (hb | hb)
  ·exact Nat.lt_of_lt_of_le (r.lt b hb) hsz
  ·exact (hnew b hb).2
theorem HRL.setLast {w:World} {hp:Nat} {h:Hp} {F:Foot} {L:Lay} (r:HRL w hp h F L) (a:Int):HRL (w.setCell ⟨hp,2,none⟩ (.int .i64 a)) hp { h with last:=a } F L:=by
 obtain ⟨es,cc,hm,he⟩:=r.all
 obtain ⟨es2,cc2,hm2,he2⟩:=r.refs
 have hoth:∀ b,b≠hp→(w.setCell ⟨hp,2,none⟩ (.int .i64 a)).heap[b]?=w.heap[b]?:=fun b h=>Below.heap_setCell _ _ _ _ h
 have hpa:L.am≠hp:=by rintro e;have:=r.blk;rw [← e,hm] at this;cases this
 have hpr:L.rm≠hp:=by rintro e;have:=r.blk;rw [← e,hm2] at this;cases this
 refine ⟨?_,⟨es,cc,(hoth _ hpa).trans hm,he⟩,⟨es2,cc2,(hoth _ hpr).trans hm2,he2⟩,r.lr,r.eq,fun c hc=>(r.obs c hc).keep fun b hb=>hoth b (fun e=>(r.notIn hc).1 (by rw [← e];exact hb)),r.nd,r.ne,r.apart,r.own,fun b hb=>by rw [World.size_setCell];exact r.lt b hb,r.born.elim fun es ⟨c,h1,h2⟩=>⟨es,c,(hoth _ hpa).trans h1,h2⟩⟩
 rw [heap_setCell_same w hp 2 _ _ _ r.blk];rfl
theorem HRL.both {w:World} {hp:Nat} {h:Hp} {F:Foot} {L:Lay} (r:HRL w hp h F L):∃ es c,w.heap[L.am]?=some (.map es c)∧Ents (fun n:Int=>Value.int .i64 n) (fun b:Nat=>Value.pointer (some ⟨b,0,none⟩)) es.toList (L.cos.map fun c=>(c.n,c.ob))∧Born es c:=by
 obtain ⟨es,c,hm,he⟩:=r.all
 obtain ⟨es2,c2,hm2,hb⟩:=r.born
 rw [hm] at hm2
 cases hm2
 exact ⟨es,c,hm,he,hb⟩
theorem HRL.all_put {w:World} {hp:Nat} {h:Hp} {F:Foot} {L:Lay} (r:HRL w hp h F L) (n:Int) (ob:Nat) :
  ∃ es' c',(∀ W':World,W'.heap[L.am]?=w.heap[L.am]?→(Instr.mapUpdate 93 (.map (some L.am)) (.int .i64 n) (.pointer (some ⟨ob,0,none⟩))).run Tryz.prog W'=.ok () (setMap W' L.am es' c')) ∧
   Ents (fun n:Int=>Value.int .i64 n) (fun b:Nat=>Value.pointer (some ⟨b,0,none⟩)) es'.toList (put (L.cos.map fun c=>(c.n,c.ob)) n ob)∧Born es' c':=by
 obtain ⟨es,c,hm,he,hbn⟩:=r.both
 obtain ⟨es',c',hput,he',hb'⟩:=run_putB Tryz.underlying93 (key_i64 Tryz.underlying2) (ek:=fun n:Int=>Value.int .i64 n) (ev:=fun b:Nat=>Value.pointer (some ⟨b,0,none⟩)) he n ob c
 exact ⟨es',c',fun W' hW'=>hput W' L.am (hW'.trans hm),he',hb' hbn⟩
theorem DictIs.new (w:World):DictIs ((w.alloc (.map #[] 0)).alloc (.cells #[.map (some w.heap.size),.slice none 0 0] 225)) (w.heap.size + 1) w.heap.size (.slice none 0 0) [] []:=by
 have h1:=(MapKept.heap_alloc w (.map #[] 0)).1
 have h2:=(MapKept.heap_alloc (w.alloc (.map #[] 0)) (.cells #[.map (some w.heap.size),.slice none 0 0] 225)).1
 rw [zL] at h2
 exact ⟨h2,⟨#[],0,[],(Below.heap_alloc _ _ _ (by rw [zL];omega)).trans h1,Ents.nil,by simp,rfl,fun k=>rfl⟩,World.ownsRow_nil _ _ _ _,rfl,by simp,by simp⟩
end
section
open Go.RowKit
theorem make_bad (w:World) (hp:Nat) (kind:Int) (name:List UInt8) (n:Int) (x:Value) (hk:¬ (1≤kind∧kind≤12)) :
  Calls Tryz.prog 18 #[.pointer (some ⟨hp,0,none⟩),.int .i64 kind,.string (bs name),.int .i64 n,x] w fun e w'=>e=.returned V.nil.agg∧Bl w w':=by
 have hcase:decide (kind < 1)=true∨(decide (kind < 1)=false∧decide (kind > 12)=true):=by
  by_cases q1:kind < 1
  ·exact .inl (decide_eq_true q1)
  ·exact .inr ⟨decide_eq_false q1,decide_eq_true (by omega)⟩
 rcases hcase with t0 | ⟨t0,t1⟩
 all_goals
  go_enter Tryz.func18,Tryz.ntmps18
  go_wp2
  refine bodyPost_ret (v:=V.nil.agg) (by simp [results,Tryz.results18,go_sem]) rfl ⟨rfl,?_⟩
  (repeat (first | exact qA _ | assumption | refine qB ?_ _ | refine qC ?_ | refine qD ?_ _ | refine qE ?_ _ (by simp<;>omega) _))
theorem keep2 {w w':World} {b0 o0 b1 o1:Nat} {x u:Value} (h:w.cell? ⟨b0,o0,none⟩=some x∧w.cell? ⟨b1,o1,none⟩=some u) (hb:Bl w w'):w'.cell? ⟨b0,o0,none⟩=some x∧w'.cell? ⟨b1,o1,none⟩=some u:=⟨hb.sm h.1,hb.sm h.2⟩
def newC (W:World) (a kind:Int) (name:List UInt8) (n:Int):CO:=⟨a,⟨kind,name,n,[],[]⟩,W.heap.size + 1 + 1,W.heap.size + 1,W.heap.size,.slice none 0 0,.slice none 0 0,[]⟩
def newW (W:World) (kind:Int) (name:List UInt8) (n:Int):World :=
 (((W.alloc (.map #[] 0)).alloc (.cells #[.map (some W.heap.size),.slice none 0 0] 225)).alloc (.cells #[.int .i64 kind,.string (bs name),.int .i64 n,.slice none 0 0,.pointer (some ⟨W.heap.size + 1,0,none⟩)] 107)).drew
theorem newC_foot {W:World} {a kind:Int} {name:List UInt8} {n:Int} {b:Nat} (h:(newC W a kind name n).foot b):W.heap.size≤b∧b < W.heap.size + 3:=by
 rcases h with h | h | h | h | h
 ·have h:b=W.heap.size + 1 + 1:=h;omega
 ·have h:b=W.heap.size + 1:=h;omega
 ·have h:b=W.heap.size:=h;omega
 ·cases h
 ·cases h
theorem make_step {W:World} {hp:Nat} {h:Hp} {F:Foot} {L:Lay} (hr:HRL W hp h F L) (a kind:Int) (name:List UInt8) (n:Int) {es':Array MapEntry} {c':Nat}
  (he:Ents (fun n:Int=>Value.int .i64 n) (fun b:Nat=>Value.pointer (some ⟨b,0,none⟩)) es'.toList (put (L.cos.map fun c=>(c.n,c.ob)) a (W.heap.size + 1 + 1))∧Born es' c') :
  HR (setMap (newW W kind name n) L.am es' c') hp { h with all:=put h.all a ⟨kind,name,n,[],[]⟩ } (fun b=>F b∨(newC W a kind name n).foot b) ∧
   Step W.heap.size F W (setMap (newW W kind name n) L.am es' c') (fun b=>F b∨(newC W a kind name n).foot b):=by
 have hsz:(setMap (newW W kind name n) L.am es' c').heap.size=W.heap.size + 3:=by rw [setMap_size];show (((W.alloc _).alloc _).alloc _).heap.size=_;simp only [zL]
 have ham:=hr.lt _ hr.own.2.1
 have hoth:∀ b,b≠L.am→(setMap (newW W kind name n) L.am es' c').heap[b]?=(newW W kind name n).heap[b]?:=fun b h=>setMap_other h _ _
 have hold:∀ b,b < W.heap.size→(newW W kind name n).heap[b]?=W.heap[b]?:=fun b hb =>
  (Below.heap_alloc _ _ _ (by simp only [zL];omega)).trans ((Below.heap_alloc _ _ _ (by simp only [zL];omega)).trans (Below.heap_alloc _ _ _ hb))
 have hob:(newW W kind name n).heap[W.heap.size + 1 + 1]?=some (.cells #[.int .i64 kind,.string (bs name),.int .i64 n,.slice none 0 0,.pointer (some ⟨W.heap.size + 1,0,none⟩)] 107 (0,0)):=by
  have:=(MapKept.heap_alloc ((W.alloc (.map #[] 0)).alloc (.cells #[.map (some W.heap.size),.slice none 0 0] 225)) (.cells #[.int .i64 kind,.string (bs name),.int .i64 n,.slice none 0 0,.pointer (some ⟨W.heap.size + 1,0,none⟩)] 107)).1
  simp only [zL] at this
  exact this
 have hF:∀ b,F b∨(newC W a kind name n).foot b→b < (setMap (newW W kind name n) L.am es' c').heap.size:=by
  rintro b (hb | hb)
  ·have:=hr.lt b hb;omega
  ·have:=newC_foot hb;omega
 refine ⟨⟨_,hr.add (c:=newC W a kind name n) (fun b hb=>⟨(newC_foot hb).1,hF b (.inr hb)⟩) ⟨(hoth _ (by show W.heap.size + 1 + 1≠_;omega)).trans hob,World.ownsRow_nil _ _ _ _,?_,Nat.zero_le _⟩ ⟨es',c',setMap_at (by show L.am < (((W.alloc _).alloc _).alloc _).heap.size;simp only [zL];omega) _ _,he.1,he.2⟩ (fun b hb hne=>(hoth b hne).trans (hold b (hr.lt b hb))) (by omega)⟩,rfl,rfl,rfl,by omega,fun b hb hnf=>?_,?_,hF⟩
 ·refine (DictIs.new W).bl fun b hb=>?_
  have hb':b=W.heap.size + 1∨b=W.heap.size:=by
   rcases hb with h | h | h
   ·exact .inl h
   ·exact .inr h
   ·cases h
  rw [hoth b (by omega)]
  exact Below.heap_alloc _ _ _ (by simp only [zL];omega)
 ·rw [hoth b (fun e=>hnf (by rw [e];exact hr.own.2.1))];exact hold b hb
 ·rintro b (hb | hb)
  ·exact .inl hb
  ·exact .inr (newC_foot hb).1
theorem HR.setLoc {w:World} {hp:Nat} {h:Hp} {F:Foot} (r:HR w hp h F) {p:Addr} (hn:¬ F p.block) (u:Value):HR (w.setCell p u) hp h F :=
 r.keep (by rw [World.size_setCell];exact Nat.le_refl _) fun b hb=>Below.heap_setCell _ _ _ _ (fun e=>hn (by rw [← e];exact hb))
theorem HStep.setV {w W:World} {hp:Nat} {h':Hp} {F F':Foot} (r:HR W hp h' F') (s:Step w.heap.size F w W F') {b:Nat} (hb:w.heap.size≤b) (hn:¬ F' b) (x y z:Value) :
  HStep w hp F h' (((W.setCell ⟨b,0,none⟩ x).setCell ⟨b,1,none⟩ y).setCell ⟨b,2,none⟩ z) :=
 ⟨F',((r.setLoc hn _).setLoc hn _).setLoc hn _,((s.setCell (.inl hb) _).setCell (.inl hb) _).setCell (.inl hb) _⟩
theorem Hp.make_eq (h:Hp) (kind:Int) (name:List UInt8) (n:Int) (l:List V) (a:Int) (ha:a=wrap64 (h.last + 1)) (k1:1≤kind) (k2:kind≤12)
  (hof:Hp.of { { h with last:=a } with all:=W.put h.all a ⟨kind,name,n,[],[]⟩ } (vref a)=some ⟨kind,name,n,[],[]⟩) :
  h.make kind name n l=((Hp.replace { { h with last:=a } with all:=W.put h.all a ⟨kind,name,n,[],[]⟩ } (vref a) 0 0 l).1,vref a):=by
 have put_put:∀ (l:List (Int × Ob)) (a:Int) (x y:Ob),W.put (W.put l a x) a y=W.put l a y:=by
  intro l a x y
  induction l with
  | nil=>simp [W.put]
  | cons p t ih =>
   obtain ⟨k,v⟩:=p
   by_cases h:k=a
   ·simp [W.put,h]
   ·simp [W.put,h,ih]
 unfold Hp.make
 rw [if_pos ⟨k1,k2⟩,← ha]
 unfold Hp.replace
 rw [hof]
 simp [Hp.set,put_put,hold]
theorem keep2m {w:World} {m:Nat} {es:Array MapEntry} {c':Nat} {b0 o0 b1 o1:Nat} {x u:Value} (h:w.cell? ⟨b0,o0,none⟩=some x∧w.cell? ⟨b1,o1,none⟩=some u) (n0:b0≠m) (n1:b1≠m):(setMap w m es c').cell? ⟨b0,o0,none⟩=some x∧(setMap w m es c').cell? ⟨b1,o1,none⟩=some u :=
 ⟨(World.cell?_of_block (w:=w) (a:=⟨b0,o0,none⟩) (setMap_other n0 es c')).trans h.1,(World.cell?_of_block (w:=w) (a:=⟨b1,o1,none⟩) (setMap_other n1 es c')).trans h.2⟩
set_option maxRecDepth 100000 in
set_option maxHeartbeats 8000000 in
theorem make_ok (w:World) (hp:Nat) (h:Hp) (F:Foot) (r:HR w hp h F) (kind:Int) (name:List UInt8) (n:Int) (x:Value) (l:List V) (hx:Vx F w x l) (hl:l.length≤big) (k1:1≤kind) (k2:kind≤12) :
  Calls Tryz.prog 18 #[.pointer (some ⟨hp,0,none⟩),.int .i64 kind,.string (bs name),.int .i64 n,x] w fun e w'=>e=.returned (h.make kind name n l).2.agg∧HStep w hp F (h.make kind name n l).1 w':=by
 obtain ⟨L,r⟩:=r
 have t0:decide (kind < 1)=false:=decide_eq_false (by omega)
 have t1:decide (kind > 12)=false:=decide_eq_false (by omega)
 obtain ⟨⟨f1,f2,f3⟩,f4,f5,f6,f7⟩:=r.head
 have HRR:=zH r
 have HX:=zH hx
 have HL:=zH (And.intro hl (And.intro k1 k2))
 clear r hx hl k1 k2 f2
 go_enter Tryz.func18,Tryz.ntmps18
 go_wp2
 refine named (p:=fun W=>Code.wp _ _ _ _ W) (fun W hW=>?_)
 obtain ⟨a,ha⟩:∃ a,a=wrap64 (h.last + 1):=⟨_,rfl⟩
 rw [← ha] at hW ⊢
 have hr:HRL W hp { h with last:=a } F L:=by rw [hW];exact (HRR.out.setLast a).bl (Bl.al _ _)
 obtain ⟨⟨g1,g2,g3⟩,g4,g5,g6,g7⟩:=hr.head
 have hst:Step w.heap.size F w W F:=by
  rw [hW]
  exact ((Step.refl HRR.out.lt).setCell (.inr HRR.out.own.1) _).alloc (by rw [World.size_setCell];exact Nat.le_refl _) _
 have hbx:W.heap[w.heap.size]?=some (.cells #[.int .i64 0,.int .i64 0,.string ⟨#[]⟩] 23):=by
  rw [hW]
  have:=(MapKept.heap_alloc (w.setCell ⟨hp,2,none⟩ (.int .i64 a)) (.cells #[.int .i64 0,.int .i64 0,.string ⟨#[]⟩] 23)).1
  rw [World.size_setCell] at this
  exact this
 have hsz:W.heap.size=w.heap.size + 1:=by rw [hW];simp
 obtain ⟨es',c',mu',hents⟩:=hr.all_put a (W.heap.size + 1 + 1)
 have mu:=mu' (newW W kind name n) ((Below.heap_alloc _ _ _ (by first | omega | (simp only [zL];omega))).trans ((Below.heap_alloc _ _ _ (by first | omega | (simp only [zL];omega))).trans (Below.heap_alloc _ _ _ (by first | omega | (simp only [zL];omega)))))
 have hpa:hp≠L.am:=by rintro e;obtain ⟨es,cc,hm,-⟩:=hr.all;have:=hr.blk;rw [e,hm] at this;cases this
 unfold newW at mu
 have HMS:=zH (make_step hr a kind name n (c':=c') hents)
 have HST:=zH hst
 have HBX:=zH hbx
 have HSZ:=zH hsz
 have HA:=zH ha
 clear hW hr hst hbx hents mu' hsz ha f1 f3 f4 f5 f6 f7 g2 g4
 go_region_held3 (fun w'=>w'.cell? ⟨hp,0,none⟩=some (.map (some L.am))∧w'.cell? ⟨hp,2,none⟩=some (.int .i64 a)) (first | exact ⟨g1,g3⟩ | exact keep2 (by assumption) (Bl.dr _) | exact keep2 (by assumption) (Bl.al _ _) | exact keep2 (by assumption) ((Bl.al _ _).trans (Bl.al _ _)) | exact keep2m (by assumption) hpa hpa) ((go_at_call 102;refine (dict_new _).mono ?_;rintro e w' ⟨rfl,rfl⟩))
 refine named (p:=fun W=>Exit.then _ _ _ _ W) (fun V hV=>?_)
 have hV2:V=setMap (newW W kind name n) L.am es' c':=hV
 have hr2:=HMS.out.1
 have hs2:=HMS.out.2
 rw [← hV2] at hr2 hs2
 obtain ⟨F2,hF2⟩:∃ F2:Foot,F2=(fun b=>F b∨(newC W a kind name n).foot b):=⟨_,rfl⟩
 rw [← hF2] at hr2 hs2
 have hVs:V.heap.size=W.heap.size + 3:=by rw [hV2,setMap_size];show (((W.alloc _).alloc _).alloc _).heap.size=_;simp only [zL]
 have hg3:V.cell? ⟨hp,2,none⟩=some (.int .i64 a):=by obtain ⟨L2,q⟩:=hr2;exact q.head.1.2.2
 have hlb:Loc F2 V w.heap.size:=⟨by have:=HSZ.out;omega,fun hf=>by rw [hF2] at hf;rcases hf with hf | hf;(have:=HRR.out.lt _ hf;omega);(have:=newC_foot hf;have:=HSZ.out;omega)⟩
 have hbx:V.heap[w.heap.size]?=some (.cells #[.int .i64 0,.int .i64 0,.string ⟨#[]⟩] 23 (0,0)):=(hs2.block _ (by have:=HSZ.out;omega) (fun hf=>by have:=HRR.out.lt _ hf;omega)).trans HBX.out
 have hst2:=HST.out.call HST.out.size hs2
 have hxv:=(HX.out.step HST.out).step hs2
 have hof:Hp.of { { h with last:=a } with all:=put h.all a ⟨kind,name,n,[],[]⟩ } (vref a)=some ⟨kind,name,n,[],[]⟩:=by
  unfold Hp.of;rw [if_pos rfl];show get (put h.all a _) a=_;rw [get_put,if_pos rfl]
 have c2:=replace_any (V.alloc (.cells (vref a).ca 23)) hp _ F2 (hr2.bl (Bl.al _ _)) (vref a) 0 0 x l (hxv.bl (Bl.al _ _)).vs HL.out.1 (fun o ho=>by rw [hof] at ho;cases ho;have:=HL.out.1;simpa using this)
 have HV:=zH (And.intro hlb (And.intro hbx (And.intro hst2 hof)))
 clear hV hV2 hr2 hs2 hF2 hVs hlb hbx hst2 hxv g1 g3 g5 mu hpa hof HMS
 go_wp2_with fail
 refine c2.mono ?_
 rintro e V2 ⟨rfl,F3,hr3,hs3⟩
 have hb1:V2.heap[V.heap.size]?=some (.cells (vref a).ca 23 (0,0)):=(hs3.block _ (by rw [zL];omega) (fun hf=>by have:=HV.out.2.2.1.lt _ hf;omega)).trans (MapKept.heap_alloc V (.cells (vref a).ca 23)).1
 have hb2:V2.heap[w.heap.size]?=some (.cells #[.int .i64 0,.int .i64 0,.string ⟨#[]⟩] 23 (0,0)):=(hs3.block _ (by rw [zL];have:=HV.out.1.1;omega) HV.out.1.2).trans ((Below.heap_alloc _ _ _ HV.out.1.1).trans HV.out.2.1)
 have v0:V2.cell? ⟨V.heap.size,0,none⟩=some (.int .i64 4):=by rw [cell_of hb1];rfl
 have v1:V2.cell? ⟨V.heap.size,1,none⟩=some (.int .i64 a):=by rw [cell_of hb1];rfl
 have v2:V2.cell? ⟨V.heap.size,2,none⟩=some (.string ⟨#[]⟩):=by rw [cell_of hb1];rfl
 have s0:V2.cell? ⟨w.heap.size,0,none⟩=some (.int .i64 0):=by rw [cell_of hb2];rfl
 have s1:V2.cell? ⟨w.heap.size,1,none⟩=some (.int .i64 0):=by rw [cell_of hb2];rfl
 have s2:V2.cell? ⟨w.heap.size,2,none⟩=some (.string ⟨#[]⟩):=by rw [cell_of hb2];rfl
 have sf:∀ o,V2.frozen? ⟨w.heap.size,o,none⟩=false:=fun o=>by simp [World.frozen?,hb2]
 have em:=Hp.make_eq h kind name n l a HA.out HL.out.2.1 HL.out.2.2 HV.out.2.2.2
 have hst3:Step w.heap.size F w V2 F3:=(HV.out.2.2.1.alloc HV.out.2.2.1.size _).call (by rw [zL];have:=HV.out.2.2.1.size;omega) hs3
 have hl3:¬ F3 w.heap.size:=fun hf=>(hs3.foot _ hf).elim HV.out.1.2 (fun h=>by have:=HV.out.1.1;rw [zL] at h;omega)
 have HE:=zH (show Ending.returned (vref a).agg=.returned (h.make kind name n l).2.agg∧HStep w hp F (h.make kind name n l).1 (((V2.setCell ⟨w.heap.size,0,none⟩ (.int .i64 4)).setCell ⟨w.heap.size,1,none⟩ (.int .i64 a)).setCell ⟨w.heap.size,2,none⟩ (.string ⟨#[]⟩)) from ⟨by rw [em],by rw [em];exact HStep.setV hr3 hst3 (Nat.le_refl _) hl3 _ _ _⟩)
 clear hr3 hs3 hb1 hb2 em hst3 hl3 c2
 go_wp2
 refine bodyPost_ret (v:=(vref a).agg) (by simp [results,Tryz.results18,go_sem,s0,s1,s2]) rfl ?_
 exact HE.out
theorem make_any (w:World) (hp:Nat) (h:Hp) (F:Foot) (r:HR w hp h F) (kind:Int) (name:List UInt8) (n:Int) (x:Value) (l:List V) (hx:Vx F w x l) (hl:l.length≤big) :
  Calls Tryz.prog 18 #[.pointer (some ⟨hp,0,none⟩),.int .i64 kind,.string (bs name),.int .i64 n,x] w fun e w'=>e=.returned (h.make kind name n l).2.agg∧HStep w hp F (h.make kind name n l).1 w':=by
 by_cases hk:1≤kind∧kind≤12
 ·exact make_ok w hp h F r kind name n x l hx hl hk.1 hk.2
 ·have e:h.make kind name n l=(h,V.nil):=by unfold Hp.make;rw [if_neg hk]
  rw [e]
  exact (make_bad w hp kind name n x hk).mono fun e w' ⟨q1,q2⟩=>⟨q1,HStep.of_bl r q2⟩
end
end Go.Proofs.YtbbokgpklihkoaaGreatDoor.W
