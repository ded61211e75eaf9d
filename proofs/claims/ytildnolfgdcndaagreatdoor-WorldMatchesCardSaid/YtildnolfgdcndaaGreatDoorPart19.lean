/- OrdR Sub Sw -/
import Derived.Test.YtildnolfgdcndaaGreatDoorPart14
import Derived.Test.YtildnolfgdcndaaGreatDoorPart18
import Derived.Shelf.Abstract
import Derived.Stop.RegionWithIn
import Derived.Test.YtildnolfgdcndaaGreatDoorPart0
import Derived.OrdersIn
import Derived.TacticsIn
set_option linter.unusedVariables false
set_option linter.unusedSimpArgs false
namespace Go.Proofs.YtildnolfgdcndaaGreatDoor.W
section
open Go.RowKit
structure ORel (hp:Nat) (h:Hp) (H:Foot) (bh bc:Nat) (c:V) (W:World):Prop where
 r:HR W hp h H
 bh:W.heap[bh]?=some (.cells #[.pointer (some ⟨hp,0,none⟩)] 58 (0,0))
 bc:W.heap[bc]?=some (.cells c.ca 28 (0,0))
theorem ORel.bl {hp:Nat} {h:Hp} {H:Foot} {bh bc:Nat} {c:V} {W W':World} (p:ORel hp h H bh bc c W) (hb:Bl W W'):ORel hp h H bh bc c W' :=
 ⟨p.r.bl hb,(hb.at (zN p.bh).1).trans p.bh,(hb.at (zN p.bc).1).trans p.bc⟩
set_option maxRecDepth 100000 in
set_option maxHeartbeats 8000000 in
theorem order_seqR (hp:Nat) (h:Hp) (H:Foot) (bh bc:Nat) (c:V) (hfew:(h.items c).length≤1048576):SeqOfR Tryz.prog 288 #[.pointer (some ⟨bh,0,none⟩),.pointer (some ⟨bc,0,none⟩)] (valArgs (h.orderO c)) (ORel hp h H bh bc c):=by
 rintro l J Y sJ sY ltJ hR hY F W hJ
 have hP:=hR 0 F W hJ
 have HR:=zH hR
 have HJ:=zH hJ
 have HSJ:=zH sJ
 have HLT:=zH ltJ
 have HY:=zH hY
 have HP:=zH hP
 have ci:∀ W',Bl W W'→_:=fun W' hb=>isClass_any W' hp h H (hP.r.bl hb) c
 obtain ⟨b0,b1,b2,-⟩:=(Bl.refl W).three hP.bc
 have bh0:W.cell? ⟨bh,0,none⟩=some (.pointer (some ⟨hp,0,none⟩)):=by rw [cell_of hP.bh];rfl
 clear hJ sJ ltJ hY sY hP hR
 unfold Hp.orderO at HY HJ ⊢
 cases hc:h.isClass c with
 | false =>
  rw [hc] at ci HY
  simp only [Bool.false_eq_true,if_false] at HY ⊢
  refine callsIn_of_wp Tryz.func288 rfl trivial ?_ rfl
  simp only [Tryz.ntmps288,zS,Nat.reduceAdd,Nat.reduceSub]
  gi_wp2_with (refine ⟨trivial,?_⟩;gi_at_call 144;refine (callsIn_wide.2 (ci _ (by (repeat (first | exact qA _ | assumption | refine qB ?_ _ | refine qC ?_ | refine qD ?_ _ | refine qE ?_ _ (by simp<;>omega) _))))).mono ?_;rintro e W1 ⟨rfl,hb1⟩)
  refine ⟨trivial,?_⟩
  gi_wp2
  refine ⟨fun _ h=>(by cases h),?_⟩
  gi_wp2
  refine bodyPost_ret (results_none rfl _ _ _) rfl ?_
  exact ⟨⟨_,rfl⟩,F,Step.of_bl (Bl.trans (by (repeat (first | exact qA _ | assumption | refine qB ?_ _ | refine qC ?_ | refine qD ?_ _ | refine qE ?_ _ (by simp<;>omega) _))) hb1) (HLT.out 0 F W HJ.out),.inl (HSJ.out 0 F W W1 HJ.out (Keep.of_bl (Bl.trans (by (repeat (first | exact qA _ | assumption | refine qB ?_ _ | refine qC ?_ | refine qD ?_ _ | refine qE ?_ _ (by simp<;>omega) _))) hb1) (HLT.out 0 F W HJ.out)))⟩
 | true =>
  rw [hc] at ci HY
  simp only [if_true] at HY ⊢
  refine callsIn_of_wp Tryz.func288 rfl trivial ?_ rfl
  simp only [Tryz.ntmps288,zS,Nat.reduceAdd,Nat.reduceSub]
  gi_wp2_with (first | (refine ⟨trivial,?_⟩;gi_at_call 144;refine (callsIn_wide.2 (ci _ (by (repeat (first | exact qA _ | assumption | refine qB ?_ _ | refine qC ?_ | refine qD ?_ _ | refine qE ?_ _ (by simp<;>omega) _))))).mono ?_;rintro e W1 ⟨rfl,hb1⟩;have e0:=hb1.sm b0;have e1:=hb1.sm b1;have e2:=hb1.sm b2;have eh:=hb1.sm bh0) | (refine ⟨trivial,?_⟩;gi_at_call 145;refine (callsIn_wide.2 (ref_any _ c)).mono ?_;rintro e W2 ⟨rfl,hb2⟩))
  have hBW:Bl W W2:=(Bl.trans (by (repeat (first | exact qA _ | assumption | refine qB ?_ _ | refine qC ?_ | refine qD ?_ _ | refine qE ?_ _ (by simp<;>omega) _))) hb1).trans hb2
  have hJ2:=HSJ.out 0 F W W2 HJ.out (Keep.of_bl hBW (HLT.out 0 F W HJ.out))
  have hst2:Step W.heap.size F W W2 F:=Step.of_bl hBW (HLT.out 0 F W HJ.out)
  have hx0:(valArgs (vref c.n :: ((h.items c).filter fun x=>h.isClass x).map fun x=>vref x.n))[0]?=some #[(vref c.n).agg]:=rfl
  obtain ⟨fn,tmps,assign,body,hyy,hRd⟩:=HY.out 0 _ F W2 hx0 hJ2
  have HST2:=zH (And.intro hst2 (HP.out.bl hBW))
  clear hBW hJ2 hst2 hx0 hb1 hb2 ci
  rw [hyy]
  gi_wp2
  refine hRd.mono ?_
  rintro e W3 ⟨F3,hst3,(⟨rfl,hJ3⟩ | ⟨rfl,hY3⟩)⟩
  ·have hP3:=HR.out _ F3 W3 hJ3
   have hS3:=HST2.out.1.call HST2.out.1.size hst3
   have cit:=items_any W3 hp h H hP3.r c
   obtain ⟨f0,f1,f2,-⟩:=(Bl.refl W3).three hP3.bc
   have fh:W3.cell? ⟨bh,0,none⟩=some (.pointer (some ⟨hp,0,none⟩)):=by rw [cell_of hP3.bh];rfl
   have HP3:=zH (And.intro hP3 (And.intro hS3 hJ3))
   have hlt3:=HLT.out _ F3 W3 hJ3
   obtain ⟨its,hits⟩:∃ its,its=h.items c:=⟨_,rfl⟩
   obtain ⟨n,hn⟩:∃ n,n=its.length:=⟨_,rfl⟩
   rw [← hits] at cit hfew
   rw [← hn] at hfew
   have HN:=zH (And.intro hn hits)
   clear hP3 hS3 hJ3 hst3 hn hits
   gi_wp2_with (refine ⟨trivial,?_⟩;gi_at_call 121;refine (callsIn_wide.2 cit).mono ?_;rintro e W4 hx;obtain ⟨xa,xc,he4,hx4,hb4⟩:=hx.form2;rw [← HN.out.1] at he4 hx4;subst he4)
   have hvx4:Vx F3 W4 (.slice xa n xc) its:=hx4.vx hlt3
   have hfr:∀ b o n' c',Value.slice xa n xc=.slice (some ⟨b,o,none⟩) n' c'→¬ H b:=fun b o n' c' e hb=>by have h1:=hx4.fresh b o n' c' e;have h2:=HP3.out.1.r.lt b hb;omega
   have HL:=zH (show Step W.heap.size F W W4 F3∧J (1 + ((its.take 0).filter fun x=>h.isClass x).length) F3 W4∧ORel hp h H bh bc c W4∧Vx F3 W4 (.slice xa n xc) its from ⟨HP3.out.2.1.bl hb4 HP3.out.2.1.size,by simpa using HSJ.out _ F3 W3 W4 HP3.out.2.2 (Keep.of_bl hb4 hlt3),HP3.out.1.bl hb4,hvx4⟩)
   have HXA:=zH (show 0 < n→∃ b o,xa=some ⟨b,o,none⟩ from fun hpos=>by
    rcases hvx4.vs with ⟨e,-⟩ | ⟨b,o,c',e,-⟩
    ·injection e with _ e2 _;omega
    ·injection e with e1 _ _;exact ⟨b,o,e1⟩)
   clear hx4 hb4 hvx4 hfr hlt3 cit hyy hRd f0 f1 f2 fh b0 b1 b2 bh0 e0 e1 e2 eh hx
   gi_loopw [5,21] (fun _ v21 wr=>∃ (k:Nat) (F':Foot),k≤n∧v21=.int .i64 k∧Step W.heap.size F W wr F'∧J (1 + ((its.take k).filter fun x=>h.isClass x).length) F' wr∧ORel hp h H bh bc c wr∧Vx F' wr (.slice xa n xc) its) (fun _ v21 _=>n - (intOf v21).toNat)
   case atStart=>exact ⟨0,F3,Nat.zero_le _,rfl,HL.out⟩
   case round =>
    obtain ⟨k,F',hk,rfl,hst,hJ,hP,hvx⟩:=hrel
    by_cases hlt:k < n
    ·obtain ⟨bb,oo,rfl⟩:=HXA.out (by omega)
     obtain ⟨x,hx⟩:∃ x,its[k]?=some x:=⟨_,List.getElem?_eq_getElem (by rw [← HN.out.1];exact hlt)⟩
     have hcells:∀ t u,t < 3→x.cs[t]?=some u→wr.cell? ⟨bb,oo + (k * 3 + t),none⟩=some u:=fun t u ht hu=>by
      rcases hvx.vs with ⟨e1,-⟩ | ⟨b',o',c',e1,-,-,-,hcell⟩
      ·cases e1
      ·cases e1
       exact hcell _ u ((vcs_at ht hx).trans hu)
     have y0:wr.cell? ⟨bb,oo + k * 3,none⟩=some (.int .i64 x.k):=hcells 0 _ (by decide) rfl
     have y1:wr.cell? ⟨bb,oo + k * 3 + 1,none⟩=some (.int .i64 x.n):=hcells 1 _ (by decide) rfl
     have y2:wr.cell? ⟨bb,oo + k * 3 + 2,none⟩=some (.string (bs x.s)):=hcells 2 _ (by decide) rfl
     have gh:wr.cell? ⟨bh,0,none⟩=some (.pointer (some ⟨hp,0,none⟩)):=by rw [cell_of hP.bh];rfl
     have ghl:bh < wr.heap.size:=(zN hP.bh).1
     have ghn:¬ bh=wr.heap.size:=Nat.ne_of_lt ghl
     have ci:∀ W',Bl wr W'→_:=fun W' hb=>isClass_any W' hp h H (hP.r.bl hb) x
     have hsn:=filter_snoc (p:=fun x=>h.isClass x) hx
     have HS:=zH (And.intro hst (And.intro hJ (And.intro hP hvx)))
     have HX2:=zH hx
     have hltF:=HLT.out _ F' wr hJ
     have HLF:=zH hltF
     cases hcx:h.isClass x with
     | false =>
      rw [hcx] at ci
      have HSN:=zH (show ((its.take (k + 1)).filter fun x=>h.isClass x).length=((its.take k).filter fun x=>h.isClass x).length by rw [hsn,hcx];rfl)
      clear hst hJ hP hvx hx hcells hsn hltF hcx
      gi_wp2_with (refine ⟨trivial,?_⟩;gi_at_call 144;refine (callsIn_wide.2 (ci _ (by (repeat (first | exact qA _ | assumption | refine qB ?_ _ | refine qC ?_ | refine qD ?_ _ | refine qE ?_ _ (by simp<;>omega) _))))).mono ?_;rintro e W5 ⟨rfl,hb5⟩)
      refine ⟨trivial,?_⟩
      gi_wp2
      refine ⟨fun _ h=>(by cases h),?_⟩
      have hB5:Bl wr W5:=Bl.trans (by (repeat (first | exact qA _ | assumption | refine qB ?_ _ | refine qC ?_ | refine qD ?_ _ | refine qE ?_ _ (by simp<;>omega) _))) hb5
      have HREL:=zH (show Step W.heap.size F W W5 F'∧J (1 + ((its.take (k + 1)).filter fun x=>h.isClass x).length) F' W5∧ORel hp h H bh bc c W5∧Vx F' W5 (.slice (some ⟨bb,oo,none⟩) n xc) its from ⟨HS.out.1.bl hB5 HS.out.1.size,by rw [HSN.out];exact HSJ.out _ F' wr W5 HS.out.2.1 (Keep.of_bl hB5 HLF.out),HS.out.2.2.1.bl hB5,HS.out.2.2.2.bl hB5⟩)
      clear hb5 hB5
      gi_wp2
      go_roundw
      case rel=>exact ⟨k + 1,F',by omega,by go_num,HREL.out⟩
      case measure=>simp [intOf];omega
     | true =>
      rw [hcx] at ci
      have HSN:=zH (show ((its.take (k + 1)).filter fun x=>h.isClass x).length=((its.take k).filter fun x=>h.isClass x).length + 1 by rw [hsn,hcx];rfl)
      have HCX:=zH hcx
      clear hst hJ hP hvx hx hcells hsn hltF hcx
      gi_wp2_with (first | (refine ⟨trivial,?_⟩;gi_at_call 144;refine (callsIn_wide.2 (ci _ (by (repeat (first | exact qA _ | assumption | refine qB ?_ _ | refine qC ?_ | refine qD ?_ _ | refine qE ?_ _ (by simp<;>omega) _))))).mono ?_;rintro e W5 ⟨rfl,hb5⟩;obtain ⟨e0,e1,e2,-⟩:=hb5.three (MapKept.heap_alloc wr (.cells x.ca 28)).1) | (refine ⟨trivial,?_⟩;gi_at_call 145;refine (callsIn_wide.2 (ref_any _ x)).mono ?_;rintro e W6 ⟨rfl,hb6⟩))
      have hB6:Bl wr W6:=(Bl.trans (by (repeat (first | exact qA _ | assumption | refine qB ?_ _ | refine qC ?_ | refine qD ?_ _ | refine qE ?_ _ (by simp<;>omega) _))) hb5).trans hb6
      have hx0:(valArgs (vref c.n :: ((h.items c).filter fun x=>h.isClass x).map fun x=>vref x.n))[1 + ((its.take k).filter fun x=>h.isClass x).length]?=some #[(vref x.n).agg]:=by
       unfold valArgs
       rw [List.getElem?_map,Nat.add_comm,List.getElem?_cons_succ,List.getElem?_map,← HN.out.2,filter_at HX2.out HCX.out];rfl
      obtain ⟨fn,tmps,assign,body,hyy,hRd⟩:=HY.out _ _ F' W6 hx0 (HSJ.out _ F' wr W6 HS.out.2.1 (Keep.of_bl hB6 HLF.out))
      have HST6:=zH (show Step W.heap.size F W W6 F'∧ORel hp h H bh bc c W6∧Vx F' W6 (.slice (some ⟨bb,oo,none⟩) n xc) its from ⟨HS.out.1.bl hB6 HS.out.1.size,HS.out.2.2.1.bl hB6,HS.out.2.2.2.bl hB6⟩)
      clear hB6 hx0 hb5 hb6 ci
      rw [hyy]
      gi_wp2
      refine hRd.mono ?_
      rintro e W7 ⟨F7,hst7,(⟨rfl,hJ7⟩ | ⟨rfl,hY7⟩)⟩
      ·have HJ7:=zH hJ7
       have HREL:=zH (show Step W.heap.size F W W7 F7∧J (1 + ((its.take (k + 1)).filter fun x=>h.isClass x).length) F7 W7∧ORel hp h H bh bc c W7∧Vx F7 W7 (.slice (some ⟨bb,oo,none⟩) n xc) its from ⟨HST6.out.1.call HST6.out.1.size hst7,by rw [HSN.out,← Nat.add_assoc];exact hJ7,HR.out _ F7 W7 HJ7.out,HST6.out.2.2.step hst7⟩)
       clear hst7 hJ7
       gi_wp2
       go_roundw
       case rel=>exact ⟨k + 1,F7,by omega,by go_num,HREL.out⟩
       case measure=>simp [intOf];omega
      ·have HREL:=zH (show Step W.heap.size F W W7 F7∧Y F7 W7 from ⟨HST6.out.1.call HST6.out.1.size hst7,hY7⟩)
       clear hst7 hY7
       gi_wp2
       refine bodyPost_ret (results_none rfl _ _ _) rfl ?_
       exact ⟨⟨_,rfl⟩,F7,HREL.out.1,.inr HREL.out.2⟩
    ·obtain rfl:k=n:=by omega
     have HREL:=zH (show Step W.heap.size F W wr F'∧J (valArgs (vref c.n :: ((h.items c).filter fun x=>h.isClass x).map fun x=>vref x.n)).length F' wr from ⟨hst,by
      rw [HN.out.1,List.take_length] at hJ
      unfold valArgs
      rw [List.length_map,List.length_cons,List.length_map,← HN.out.2,Nat.add_comm];exact hJ⟩)
     clear hst hJ hP hvx
     gi_wp2
     go_end0
     exact ⟨⟨_,rfl⟩,F',HREL.out.1,.inl HREL.out.2⟩
  ·have HREL:=zH (show Step W.heap.size F W W3 F3∧Y F3 W3 from ⟨HST2.out.1.call HST2.out.1.size hst3,hY3⟩)
   clear hst3 hY3
   gi_wp2
   refine bodyPost_ret (results_none rfl _ _ _) rfl ?_
   exact ⟨⟨_,rfl⟩,F3,HREL.out.1,.inr HREL.out.2⟩
end
section
open Go.RowKit Go.Shelf
attribute [local go_sem] Oper.semAt_some
theorem al_at {w:World} {n:Nat} (hn:n=w.heap.size) (o:Obj):(w.alloc o).heap[n]?=some o:=by rw [hn];exact World.alloc_heap_new w o
theorem al_old {w:World} {b:Nat} {x:Obj} (h:w.heap[b]?=some x) (o:Obj):(w.alloc o).heap[b]?=some x:=(Below.heap_alloc _ _ _ (zN h).1).trans h
theorem orderO_refs {h:Hp} {c x:V} (hx:x∈h.orderO c):∃ m,x=vref m:=by
 unfold Hp.orderO at hx
 split at hx
 ·rcases List.mem_cons.1 hx with rfl | hx
  ·exact ⟨_,rfl⟩
  ·obtain ⟨y,-,rfl⟩:=List.mem_map.1 hx
   exact ⟨_,rfl⟩
 ·cases hx
def hitO (t:Bool) (m:Int) (l:List V):Bool:=l.any fun x=>t && decide (x=vref m)
def Hp.subO (h:Hp) (c b:V):Bool:=hitO (h.isClass b) b.n (h.orderO c)
def Seek (W0:World) (F:Foot) (W:World):Prop:=Bl W0 W∧(∀ b,b < W0.heap.size→F b)∧(∀ b,F b→b < W.heap.size)
theorem Seek.keep {W0 W W':World} {F:Foot} (s:Seek W0 F W) (hk:Keep F W W'):Seek W0 F W' :=
 ⟨⟨hk.os.trans s.1.os,hk.tape.trans s.1.tape,hk.output.trans s.1.output,Nat.le_trans s.1.sz hk.size,fun b hb=>(hk.block b (s.2.1 b hb)).trans (s.1.at hb)⟩,s.2.1,fun b hb=>Nat.lt_of_lt_of_le (s.2.2 b hb) hk.size⟩
theorem subO_end {w U:World} {v:Bool} {D:Nat} (hb:Bl w U) (hx:U.heap[w.heap.size + 3]?=some (.cells #[.bool v] 4 (0,0))) (hD:w.heap.size + 3 < D) (o:Obj) :
  (U.putObj D o).cell? ⟨w.heap.size + 1 + 1 + 1,0,none⟩=some (.bool v)∧Bl w (U.putObj D o) :=
 ⟨by rw [cell_of ((World.putObj_heap_other (by omega)).trans hx)];rfl,⟨hb.os,hb.tape,hb.output,by rw [putObj_size];exact hb.sz,fun b hb2=>(World.putObj_heap_other (by omega)).trans (hb.at hb2)⟩⟩
def SubI (W0:World) (t:Bool) (m:Int) (l:List V) (k:Nat) (F:Foot) (V':World):Prop:=Seek W0 F V'∧hitO t m (l.take k)=false
def SubX (w W0:World) (t:Bool) (m:Int) (l:List V) (c:Code) (F:Foot) (V':World):Prop :=
 c=.ret∧hitO t m l=true∧V'.heap[w.heap.size + 3]?=some (.cells #[.bool true] 4 (0,0))∧Bl w V'∧(∀ b,b < W0.heap.size→F b)∧(∀ b,F b→b < V'.heap.size)
set_option maxRecDepth 100000 in
set_option maxHeartbeats 8000000 in
theorem subO_any (w:World) (hp:Nat) (h:Hp) (F:Foot) (r:HR w hp h F) (cl bs':V) :
  Calls Tryz.prog 217 #[.pointer (some ⟨hp,0,none⟩),cl.agg,bs'.agg] w fun e w'=>e=.returned (.bool (h.subO cl bs'))∧Bl w w':=by
 obtain ⟨l,hl⟩:∃ l,l=h.orderO cl:=⟨_,rfl⟩
 have hseq:=fun bh bc=>order_seqR hp h F bh bc cl (r.few cl)
 have ci:∀ W,Bl w W→_:=fun W hb=>isClass_any W hp h F (r.bl hb) bs'
 have HRR:=zH r
 have HLR:=zH (show ∀ x∈l,∃ m,x=vref m from fun x hx=>orderO_refs (by rw [← hl];exact hx))
 unfold Hp.subO
 rw [← hl] at hseq ⊢
 generalize h.isClass bs'=t at ci ⊢
 have HCI:=zH ci
 have HSQ:=zH hseq
 clear hseq hl ci r
 refine (callsIn_wide (n:=3)).1 ?_
 refine callsIn_of_wp_marks Tryz.func217 rfl trivial ?_ rfl
 simp only [Tryz.ntmps217,zS,Nat.reduceAdd,Nat.reduceSub]
 gi_wp2_with (refine ⟨trivial,?_⟩;gi_at_call 230;refine named (p:=fun W=>CallsIn _ _ _ _ _ W _) (fun W hW=>?_);refine (callsIn_wide.2 (order_mk W hp cl)).mono ?_;rintro e W0 ⟨rfl,hW0⟩;have HWW:=zH (And.intro hW hW0);clear hW hW0)
 obtain ⟨hW,hW0⟩:=HWW.out
 have hbw:Bl w W:=by rw [hW];(repeat (first | exact qA _ | assumption | refine qB ?_ _ | refine qC ?_ | refine qD ?_ _ | refine qE ?_ _ (by simp<;>omega) _))
 have hsz:W.heap.size=w.heap.size + 4:=by rw [hW];simp [zL]
 have bx0:W.heap[w.heap.size]?=some (.cells #[.pointer (some ⟨hp,0,none⟩)] 58 (0,0)):=by rw [hW];exact al_old (al_old (al_old (al_at rfl _) _) _) _
 have bx2:W.heap[w.heap.size + 2]?=some (.cells bs'.ca 28 (0,0)):=by rw [hW];exact al_old (al_at (by simp [zL]) _) _
 have bx3:W.heap[w.heap.size + 3]?=some (.cells #[.bool false] 4 (0,0)):=by rw [hW];exact al_at (by simp [zL]) _
 have hb0:Bl W W0:=by rw [hW0];(repeat (first | exact qA _ | assumption | refine qB ?_ _ | refine qC ?_ | refine qD ?_ _ | refine qE ?_ _ (by simp<;>omega) _))
 have hs0:W0.heap.size=W.heap.size + 2:=by rw [hW0];simp [zL]
 have hrel0:ORel hp h F (W.heap.size) ((W.heap.size + 1)) cl W0:=⟨HRR.out.bl (hbw.trans hb0),by rw [hW0];exact al_old (al_at rfl _) _,by rw [hW0];exact al_at (by simp [zL]) _⟩
 have HREL0:=zH hrel0
 have HB0:=zH (show Bl w W0∧W0.heap.size=w.heap.size + 6∧W0.heap[w.heap.size]?=some (.cells #[.pointer (some ⟨hp,0,none⟩)] 58 (0,0))∧W0.heap[w.heap.size + 2]?=some (.cells bs'.ca 28 (0,0))∧W0.heap[w.heap.size + 3]?=some (.cells #[.bool false] 4 (0,0)) from ⟨hbw.trans hb0,by omega,(hb0.at (by omega)).trans bx0,(hb0.at (by omega)).trans bx2,(hb0.at (by omega)).trans bx3⟩)
 have hsq:=HSQ.out (W.heap.size) ((W.heap.size + 1))
 clear hW hW0 hbw hsz bx0 bx2 bx3 hb0 hs0 hrel0 HSQ HWW
 generalize hwb:W.heap.size=wb at *
 clear hwb W
 gi_wp2
 refine range_fnR (gf:=288) (lb:=#[.pointer (some ⟨wb,0,none⟩),.pointer (some ⟨wb + 1,0,none⟩)]) rfl (enters_of Tryz.func288 (by kernel_rfl) rfl) hsq ?_
  (SubI W0 t bs'.n l)
  (SubX w W0 t bs'.n l)
  ?stI ?stX ?ltI ?hR (fun b=>b < W0.heap.size) ?h0 ?hround ?hdone ?hstop
 ·intro x hx
  obtain ⟨p,-,rfl⟩:=List.mem_map.1 hx
  rfl
 case stI=>rintro k F' A B ⟨h1,h2⟩ hk;exact ⟨h1.keep hk,h2⟩
 case stX =>
  rintro c F' A B ⟨rfl,h2,h3,h4,h5,h6⟩ hk
  refine ⟨rfl,h2,(hk.block _ (h5 _ (by have:=HB0.out.2.1;omega))).trans h3,⟨hk.os.trans h4.os,hk.tape.trans h4.tape,hk.output.trans h4.output,Nat.le_trans h4.sz hk.size,fun b hb=>(hk.block b (h5 b (by have:=HB0.out.2.1;omega))).trans (h4.at hb)⟩,h5,fun b hb=>Nat.lt_of_lt_of_le (h6 b hb) hk.size⟩
 case ltI=>rintro k F' A ⟨h1,h2⟩;exact h1.2.2
 case hR=>rintro k F' A ⟨h1,h2⟩;exact HREL0.out.bl h1.1
 case h0=>exact ⟨⟨Bl.refl _,fun b hb=>hb,fun b hb=>hb⟩,by simp [hitO]⟩
 case hround =>
  rintro lp k x F' A K hx ⟨hse,hno⟩ hnl hll hK
  obtain ⟨p,hp2,rfl⟩:∃ p,l[k]?=some p∧x=#[p.agg]:=by
   unfold valArgs at hx
   rw [List.getElem?_map] at hx
   cases hp:l[k]? with
   | none=>rw [hp] at hx;cases hx
   | some p=>rw [hp] at hx;injection hx with hx;exact ⟨p,rfl,hx.symm⟩
  obtain ⟨m,rfl⟩:=HLR.out p (List.mem_of_getElem? hp2)
  have HK:=zH hK
  have HS:=zH (And.intro hse (And.intro hno hp2))
  have HNL:=zH hnl
  clear hK hx hse hno hp2 hnl
  gi_wp2
  refine HK.out _ _ (by (repeat (first | exact qA _ | assumption | refine qB ?_ _ | refine qC ?_ | refine qD ?_ _ | refine qE ?_ _ (by simp<;>omega) _))) ?_
  intro Wb hWb hsb hos htp hou
  rw [zL] at hsb
  have hWl:A.heap.size≠lp:=by omega
  have hold:∀ b,b < W0.heap.size→Wb.heap[b]?=W0.heap[b]?:=fun b hb=>by
   have hf:=HS.out.1.2.1 b hb
   rw [hWb b (fun e=>HNL.out (by rw [← e];exact hf)),Below.heap_alloc _ _ _ (HS.out.1.2.2 b hf)]
   exact HS.out.1.1.at hb
  have hbl:Bl W0 Wb:=⟨hos.trans HS.out.1.1.os,htp.trans HS.out.1.1.tape,hou.trans HS.out.1.1.output,by have:=HS.out.1.1.sz;omega,fun b hb=>hold b hb⟩
  have hpb:Wb.heap[A.heap.size]?=some (.cells (vref m).ca 28 (0,0)):=by
   rw [hWb _ hWl];exact (MapKept.heap_alloc A (.cells (vref m).ca 28 (0,0))).1
  have d0:Wb.cell? ⟨w.heap.size,0,none⟩=some (.pointer (some ⟨hp,0,none⟩)):=by rw [cell_of ((hold _ (by have:=HB0.out.2.1;omega)).trans HB0.out.2.2.1)];rfl
  obtain ⟨g0,g1,g2,gf⟩:=(Bl.refl Wb).three ((hold _ (by have:=HB0.out.2.1;omega)).trans HB0.out.2.2.2.1)
  obtain ⟨p0,p1,p2,pf⟩:=(Bl.refl Wb).three hpb
  have HBL:=zH hbl
  have HBX:=zH ((hold _ (by have:=HB0.out.2.1;omega)).trans HB0.out.2.2.2.2)
  have hAb:A.heap.size < Wb.heap.size:=by omega
  have hFb:∀ b,F' b→b < Wb.heap.size:=fun b hb=>by have:=HS.out.1.2.2 b hb;omega
  have HFB:=zH (And.intro hFb hAb)
  clear hWb hold hbl hpb hos htp hou hsb hFb
  cases t with
  | false =>
   gi_wp2_with fail
   gi_region_with (first | (refine ⟨trivial,?_⟩;gi_at_call 144;refine ((callsIn_wide.2 (HCI.out _ (HB0.out.1.trans (HBL.out.trans (by (repeat (first | exact qA _ | assumption | refine qB ?_ _ | refine qC ?_ | refine qD ?_ _ | refine qE ?_ _ (by simp<;>omega) _))))))).inRound lp).mono ?_;rintro e W5 ⟨rfl,hb5⟩) | refine ⟨trivial,?_⟩)
   all_goals
    have hB5:Bl Wb W5:=Bl.trans (by (repeat (first | exact qA _ | assumption | refine qB ?_ _ | refine qC ?_ | refine qD ?_ _ | refine qE ?_ _ (by simp<;>omega) _))) hb5
    have HREL:=zH (show ∃ F'',Step Wb.heap.size F' Wb W5 F''∧SubI W0 false bs'.n l (k + 1) F'' W5 from ⟨F',Step.of_bl hB5 HFB.out.1,⟨HBL.out.trans hB5,HS.out.1.2.1,fun b hb=>Nat.lt_of_lt_of_le (HFB.out.1 b hb) hB5.sz⟩,by simp [hitO]⟩)
    clear hb5 hB5
    gi_wp2
    exact HREL.out
  | true =>
   by_cases hm:m=bs'.n
   ·subst hm
    gi_wp2_with fail
    gi_region_with (first | (refine ⟨trivial,?_⟩;gi_at_call 144;refine ((callsIn_wide.2 (HCI.out _ (HB0.out.1.trans (HBL.out.trans (by (repeat (first | exact qA _ | assumption | refine qB ?_ _ | refine qC ?_ | refine qD ?_ _ | refine qE ?_ _ (by simp<;>omega) _))))))).inRound lp).mono ?_;rintro e W5 ⟨rfl,hb5⟩;have hB5:Bl Wb W5:=Bl.trans (by (repeat (first | exact qA _ | assumption | refine qB ?_ _ | refine qC ?_ | refine qD ?_ _ | refine qE ?_ _ (by simp<;>omega) _))) hb5;clear hb5;have x0:=hB5.sm p0;have x1:=hB5.sm p1;have x2:=hB5.sm p2;have y0:=hB5.sm g0;have y1:=hB5.sm g1;have y2:=hB5.sm g2) | (refine ⟨trivial,?_⟩;gi_at_call 145;refine ((callsIn_wide.2 (ref_any _ bs')).inRound lp).mono ?_;rintro e W6 ⟨rfl,hb6⟩;have hB6:Bl Wb W6:=hB5.trans (Bl.trans (by (repeat (first | exact qA _ | assumption | refine qB ?_ _ | refine qC ?_ | refine qD ?_ _ | refine qE ?_ _ (by simp<;>omega) _))) hb6);clear hb6;have z0:=hB6.sm p0;have z1:=hB6.sm p1;have z2:=hB6.sm p2))
    all_goals
     have hbx6:=(hB6.at (by have:=HB0.out.2.1;have:=HFB.out.2;have:=HBL.out.sz;omega)).trans HBX.out
     have q0:W6.cell? ⟨w.heap.size + 1 + 1 + 1,0,none⟩=some (.bool false):=by rw [cell_of hbx6];rfl
     have qf:W6.frozen? ⟨w.heap.size + 1 + 1 + 1,0,none⟩=false:=by simp [World.frozen?,hbx6]
     have HRET:=zH (show ∃ F'',Step Wb.heap.size F' Wb (W6.setCell ⟨w.heap.size + 1 + 1 + 1,0,none⟩ (.bool true)) F''∧SubX w W0 true bs'.n l .ret F'' (W6.setCell ⟨w.heap.size + 1 + 1 + 1,0,none⟩ (.bool true)) from
      ⟨F',(Step.of_bl hB6 HFB.out.1).setCell (.inr (show F' (w.heap.size + 3) from HS.out.1.2.1 _ (by have:=HB0.out.2.1;omega))) _,rfl,List.any_eq_true.2 ⟨_,List.mem_of_getElem? HS.out.2.2,by simp⟩,by rw [heap_setCell_same W6 (w.heap.size + 3) 0 _ _ _ hbx6];rfl,Bl.set' (HB0.out.1.trans (HBL.out.trans hB6)) _ (by simp<;>omega) _,HS.out.1.2.1,fun b hb=>by rw [World.size_setCell];exact Nat.lt_of_lt_of_le (HFB.out.1 b hb) hB6.sz⟩)
     clear hbx6 hB6 hB5
     gi_wp2
     exact HRET.out
   ·have hm0:(m == bs'.n)=false:=by simpa using hm
    have hm1:decide (m=bs'.n)=false:=by simpa using hm
    gi_wp2_with fail
    gi_region_with (first | (refine ⟨trivial,?_⟩;gi_at_call 144;refine ((callsIn_wide.2 (HCI.out _ (HB0.out.1.trans (HBL.out.trans (by (repeat (first | exact qA _ | assumption | refine qB ?_ _ | refine qC ?_ | refine qD ?_ _ | refine qE ?_ _ (by simp<;>omega) _))))))).inRound lp).mono ?_;rintro e W5 ⟨rfl,hb5⟩;have hB5:Bl Wb W5:=Bl.trans (by (repeat (first | exact qA _ | assumption | refine qB ?_ _ | refine qC ?_ | refine qD ?_ _ | refine qE ?_ _ (by simp<;>omega) _))) hb5;clear hb5;have x0:=hB5.sm p0;have x1:=hB5.sm p1;have x2:=hB5.sm p2;have y0:=hB5.sm g0;have y1:=hB5.sm g1;have y2:=hB5.sm g2) | (refine ⟨trivial,?_⟩;gi_at_call 145;refine ((callsIn_wide.2 (ref_any _ bs')).inRound lp).mono ?_;rintro e W6 ⟨rfl,hb6⟩;have hB6:Bl Wb W6:=hB5.trans (Bl.trans (by (repeat (first | exact qA _ | assumption | refine qB ?_ _ | refine qC ?_ | refine qD ?_ _ | refine qE ?_ _ (by simp<;>omega) _))) hb6);clear hb6;have z0:=hB6.sm p0;have z1:=hB6.sm p1;have z2:=hB6.sm p2))
    all_goals
     have HREL:=zH (show ∃ F'',Step Wb.heap.size F' Wb W6 F''∧SubI W0 true bs'.n l (k + 1) F'' W6 from ⟨F',Step.of_bl hB6 HFB.out.1,⟨HBL.out.trans hB6,HS.out.1.2.1,fun b hb=>Nat.lt_of_lt_of_le (HFB.out.1 b hb) hB6.sz⟩,by unfold hitO;rw [List.take_add_one,HS.out.2.2,List.any_append,show ((l.take k).any fun x=>true && decide (x=vref bs'.n))=false from HS.out.2.1];simp [V.mk.injEq,hm]⟩)
     clear hB6 hB5
     gi_wp2
     exact HREL.out
 case hdone =>
  rintro F' W' hst ⟨hse,hno⟩ hD hnD
  have hnA:hitO t bs'.n l=false:=by
   have e:(valArgs l).length=l.length:=by simp [valArgs]
   rw [e,List.take_length] at hno;exact hno
  have HNA:=zH hnA
  have hs0:=HB0.out.2.1
  have hbx:=(hse.1.at (by omega)).trans HB0.out.2.2.2.2
  have q0:W'.cell? ⟨w.heap.size + 1 + 1 + 1,0,none⟩=some (.bool false):=by rw [cell_of hbx];rfl
  have qf:W'.frozen? ⟨w.heap.size + 1 + 1 + 1,0,none⟩=false:=by simp [World.frozen?,hbx]
  obtain ⟨U,hU⟩:∃ U,U=W'.setCell ⟨w.heap.size + 1 + 1 + 1,0,none⟩ (.bool false):=⟨_,rfl⟩
  have HF:=zH (subO_end (w:=w) (U:=U) (v:=false) (D:=W0.heap.size) (by rw [hU];exact Bl.set' (HB0.out.1.trans hse.1) _ (by simp<;>omega) _) (by rw [hU,heap_setCell_same W' (w.heap.size + 3) 0 _ _ _ hbx];rfl) (by omega))
  have HDD:=zH (show U.heap[W0.heap.size]?=some (.deferred (some [])) from by rw [hU];exact (Below.heap_setCell _ _ _ _ (fun e=>by have e2:W0.heap.size=w.heap.size + 3:=e;omega)).trans hD)
  have HU:=zH hU
  clear hst hse hno hD hnD hbx hs0 hU hnA
  gi_wp2
  rw [← HU.out]
  refine ⟨by simp,.inl ⟨_,_,rfl,run_takeDeferred HDD.out,?_⟩⟩
  have s0:=(HF.out (.deferred none)).1
  refine ⟨_,by simp [results,Tryz.results217,go_sem,s0];rfl,?_⟩
  exact ⟨by rw [HNA.out],(HF.out _).2⟩
 case hstop =>
  rintro c F' W' hst ⟨rfl,hA,hbx,hb,h5,h6⟩ hD hnD
  have HNA:=zH hA
  have hs0:=HB0.out.2.1
  have HF:=zH (subO_end (w:=w) (U:=W') (v:=true) (D:=W0.heap.size) hb hbx (by omega))
  have HDD:=zH hD
  clear hst hA hbx hb h5 h6 hD hnD hs0
  gi_wp2
  refine ⟨by simp,.inl ⟨_,_,rfl,run_takeDeferred HDD.out,?_⟩⟩
  have s0:=(HF.out (.deferred none)).1
  refine ⟨_,by simp [results,Tryz.results217,go_sem,s0];rfl,?_⟩
  exact ⟨by rw [HNA.out],(HF.out _).2⟩
end
section
open Go
section
variable {F:Fence} {n:Nat} {P:Program} {ops:Array Oper} {Q:Exit→Go.Act→World→Prop} {md:Region.Mode} {B:World→Prop}
def RunB (F:Fence) (n:Nat) (P:Program) (o:Oper) (a:Go.Act) (w:World) (v:Value):Prop :=
 (∀ f,o.about P w a.eval=some f→F.fn f)∧match (o.semAt F.round a.eval).run P w with
  | .ok (.value u) w'=>u=v∧Bl w w'
  | .ok (.enter f args) w'=>(F.depth.isSome=true→1≤n)∧CallsIn F (n - 1) P f args w' fun e w''=>e=.returned v∧Bl w w''
  | _=>False
theorem RunB.wpIn {o:Oper} {a:Go.Act} {w:World} {v:Value} {K:Go.Act→World→Prop} (h:RunB F n P o a w v) (hK:∀ w',Bl w w'→K (a.put o.dst v) w'):o.wpIn F n P a w K Q:=by
 unfold RunB at h
 refine ⟨h.1,?_⟩
 have h:=h.2
 generalize (o.semAt F.round a.eval).run P w=r at *
 cases r with
 | halt x w'=>exact h.elim
 | ok x w' =>
  cases x with
  | value u=>obtain ⟨rfl,hb⟩:=h;exact hK _ hb
  | enter f args=>exact ⟨h.1,CallsIn.mono h.2 fun e w'' ⟨he,hb⟩=>by subst he;exact hK _ hb⟩
  | _=>exact h.elim
theorem RunB.of_same {o:Oper} {a a':Go.Act} {w:World} {v:Value} (h:RunB F n P o a w v) (hs:o.semAt F.round a'.eval=o.semAt F.round a.eval) (hb:o.about P w a'.eval=o.about P w a.eval):RunB F n P o a' w v:=by
 unfold RunB at *
 rw [hs,hb];exact h
theorem semAt_put (o:Oper) (ho:∀ cs b,o.op≠.select cs b) (a:Go.Act) (dst:Option Tmp) (v:Value) (h:∀ d,dst=some d→d ∉ o.looksAt ops):o.semAt F.round (a.put dst v).eval=o.semAt F.round a.eval:=by
 unfold Oper.semAt
 cases F.round with
 | none=>exact execOp_put o ho a dst v h
 | some l =>
  cases hop:o.op<;>simp only []<;>first | exact execOp_put o ho a dst v h | skip
  rename_i c
  have e:=resolve_congr (ρ:=(a.put dst v).eval) (ρ':=a.eval) c o.type (fun x hx=>Act.eval_put fun d hd hxd=>h d hd (by
   subst hxd
   exact List.mem_append_left _ (List.mem_filterMap.2 ⟨.tmp d,by rw [hop];simpa [Op.operands] using hx,rfl⟩)))
  rw [e]
def YB (F:Fence) (n:Nat) (P:Program) (ops:Array Oper) (B:World→Prop) (o:Oper) (v:Value) (a:Go.Act):Prop :=
 (Region.wanted o (yielded ops a.tmps)=true∧∀ w,B w→RunB F n P o a w v)∨(Region.wanted o (yielded ops a.tmps)=false∧v=undef∧∀ w f,o.about P w a.eval=some f→F.fn f)
theorem YB.of_same {o:Oper} {v:Value} {a a':Go.Act} (hy:YB F n P ops B o v a) (hs:o.semAt F.round a'.eval=o.semAt F.round a.eval)
  (hw:Region.wanted o (yielded ops a'.tmps)=Region.wanted o (yielded ops a.tmps)) (hb:∀ w,o.about P w a'.eval=o.about P w a.eval):YB F n P ops B o v a' :=
 hy.elim (fun hy=>.inl ⟨hw.trans hy.1,fun w h=>(hy.2 w h).of_same hs (hb w)⟩) fun hy=>.inr ⟨hw.trans hy.1,hy.2.1,fun w f h=>hy.2.2 w f (by rw [← hb w];exact h)⟩
theorem YB.wpOpIn {i:Nat} {o:Oper} {v:Value} {a:Go.Act} (hi:ops[i]?=some o) (hy:YB F n P ops B o v a) {K:Go.Act→World→Prop} {w:World} (hB:B w)
  (h:∀ w',Bl w w'→K (a.put o.dst v) w'):wpOpIn F n P ops Q i K a w:=by
 unfold Go.wpOpIn
 rcases hy with hy | ⟨h1,rfl,h3⟩
 ·simp only [hi,hy.1,if_true]
  exact (hy.2 w hB).wpIn h
 ·simp only [hi,h1,Bool.false_eq_true,if_false]
  exact ⟨h3 w,h w (Bl.refl w)⟩
theorem wpOpIn_putB {j:Nat} {oi oj:Oper} {v:Value} (hj:ops[j]?=some oj) (hap:oi.apart ops oj=true) (hsi:∀ cs b,oi.op≠.select cs b) (hsj:∀ cs b,oj.op≠.select cs b)
  (hQ:∀ c a w,Q (.panic c) (a.put oi.dst v) w→Q (.panic c) a w) {K:Go.Act→World→Prop} {a:Go.Act} {w:World} (hy:YB F n P ops B oi v a) (h:wpOpIn F n P ops Q j K (a.put oi.dst v) w) :
  wpOpIn F n P ops Q j (fun a' w'=>YB F n P ops B oi v a'∧K (a'.put oi.dst v) w') a w:=by
 obtain ⟨h1,h2,h3⟩:=Oper.apart_spec hap
 have keep:∀ (a:Go.Act),YB F n P ops B oi v a→∀ u,YB F n P ops B oi v (a.put oj.dst u):=fun a hy u =>
  hy.of_same (semAt_put oi hsi a oj.dst u h3) (wanted_put oi a oj.dst u h3) (fun w=>about_put oi w a oj.dst u h3)
 have keepD:∀ d,YB F n P ops B oi v { a with defers:=d :: a.defers }:=fun d=>hy.of_same rfl rfl (fun _=>rfl)
 unfold wpOpIn at *
 simp only [hj] at *
 rw [wanted_put oj a oi.dst v h1,about_put oj w a oi.dst v h1] at h
 split
 ·rename_i hw
  simp only [hw,if_true] at h
  unfold Oper.wpIn at *
  rw [about_put oj w a oi.dst v h1] at h
  refine ⟨h.1,?_⟩
  have h:=h.2
  rw [semAt_put oj hsj a oi.dst v h1] at h
  generalize (oj.semAt F.round a.eval).run P w=r at *
  cases r with
  | ok x w' =>
   cases x<;>simp only [Oper.uponIn] at h ⊢
   case value u=>exact ⟨keep a hy u,by rw [← Act.put_comm a v u h2];exact h⟩
   case skip=>exact ⟨keep a hy _,by rw [← Act.put_comm a v undef h2];exact h⟩
   case defer d =>
    refine ⟨keep _ (keepD d) _,?_⟩
    rw [← Act.put_comm _ v undef h2,← Act.put_defers]
    exact h
   case enter f args =>
    refine ⟨h.1,CallsIn.mono h.2 fun e w'' he=>?_⟩
    cases e with
    | returned u=>exact ⟨keep a hy u,by rw [← Act.put_comm a v u h2];exact he⟩
    | panicked c=>exact hQ _ _ _ he
    | outgrown=>exact he
   case row row args=>exact ⟨h.1,RowsIn.mono h.2 fun u w'' he=>⟨keep a hy u,by rw [← Act.put_comm a v u h2];exact he⟩⟩
   case round l f tmps assign body =>
    refine ⟨h.1,RoundIn.mono h.2 fun e w'' he=>?_⟩
    cases e with
    | returned u=>exact ⟨keep a hy u,by rw [← Act.put_comm a v u h2];exact he⟩
    | panicked c=>exact hQ _ _ _ he
    | outgrown=>exact he
  | halt x w' =>
   cases x<;>simp only [Oper.uponIn] at h ⊢
   case panic u=>exact hQ _ _ _ h
 ·rename_i hw
  simp only [hw] at h
  exact ⟨h.1,keep a hy _,by rw [← Act.put_comm a v undef h2];exact h.2⟩
def Stab (S:World→Prop):Prop:=∀ w w',S w→Bl w w'→S w'
def waits (md:Region.Mode) (ops:Array Oper) (j i:Nat):Bool:=match ops[j]? with | some o=>o.after.any (fun e=>Region.binds md e && e.on == i) | none=>false
def Good (B:World→Prop) (T:List Nat) (S:World→Prop):Prop:=Stab S∧(T≠[]→∀ w,S w→B w)
def wpS (F:Fence) (n:Nat) (P:Program) (md:Region.Mode) (ops:Array Oper) (Q:Exit→Go.Act→World→Prop) (B:World→Prop):Nat→List Nat→Array Bool→Go.Act→(World→Prop)→Prop
 | 0,T,listed,a,S=>Good B T S∧Region.ready md ops listed=[]∧∀ w,S w→Q .normal a w
 | k + 1,T,listed,a,S=>Good B T S∧(Region.ready md ops listed=[]→∀ w,S w→Q .normal a w)∧∀ i∈Region.ready md ops listed,∀ w,S w →
   wpOpIn F n P ops Q i (fun a' w'=>∃ S':World→Prop,S' w'∧wpS F n P md ops Q B k (T.filter fun t=>!waits md ops i t) (listed.setIfInBounds i true) a' S') a w
theorem wpS.good {k:Nat} {T:List Nat} {listed:Array Bool} {a:Go.Act} {S:World→Prop} (h:wpS F n P md ops Q B k T listed a S):Good B T S:=by
 cases k<;>exact h.1
theorem wpS.sound:∀ (k:Nat) {T:List Nat} {listed:Array Bool} {a:Go.Act} {S:World→Prop} {w:World},wpS F n P md ops Q B k T listed a S→S w→wpAnyIn F n P md ops Q k listed a w
 | 0,_,_,_,_,w,h,hw=>⟨h.2.1,h.2.2 w hw⟩
 | k + 1,_,_,_,_,w,h,hw=>⟨fun h0=>h.2.1 h0 w hw,fun i hi=>wpOpIn_mono (fun _ _ ⟨_,h1,h2⟩=>wpS.sound k h2 h1) (h.2.2 i hi w hw)⟩
theorem wpS.less:∀ (k:Nat) {T T':List Nat} {listed:Array Bool} {a:Go.Act} {S:World→Prop},wpS F n P md ops Q B k T listed a S→(∀ t∈T',t∈T)→wpS F n P md ops Q B k T' listed a S
 | 0,T,T',_,_,S,h,ht=>⟨⟨h.1.1,fun hn=>h.1.2 (fun e=>hn (by subst e;exact List.eq_nil_iff_forall_not_mem.2 fun t h=>by cases ht t h))⟩,h.2⟩
 | k + 1,T,T',_,_,S,h,ht=>⟨⟨h.1.1,fun hn=>h.1.2 (fun e=>hn (by subst e;exact List.eq_nil_iff_forall_not_mem.2 fun t h=>by cases ht t h))⟩,h.2.1,fun i hi w hw =>
   wpOpIn_mono (fun _ _ ⟨S',h1,h2⟩=>⟨S',h1,wpS.less k h2 fun t h3=>by rw [List.mem_filter] at h3 ⊢;exact ⟨ht t h3.1,h3.2⟩⟩) (h.2.2 i hi w hw)⟩
theorem filter_comm2 (p q:Nat→Bool) (l:List Nat):(l.filter p).filter q=(l.filter q).filter p:=by
 simp only [List.filter_filter,Bool.and_comm]
theorem wpS.first {i:Nat} {oi:Oper} {v:Value} (hi:ops[i]?=some oi) (hsel:∀ (j:Nat) (o:Oper) cs b,ops[j]?=some o→o.op≠.select cs b) (hQ:∀ c a w,Q (.panic c) (a.put oi.dst v) w→Q (.panic c) a w) :
  ∀ (k:Nat) (T:List Nat) (listed:Array Bool) (a:Go.Act) (S:World→Prop),
   (∀ j oj,ops[j]?=some oj→j≠i→listed.getD j true=false→(∀ e∈oj.after,Region.binds md e=true→e.on≠i)→oi.apart ops oj=true) →
   i∈Region.ready md ops listed→YB F n P ops B oi v a →
   wpS F n P md ops Q B k (i :: T.filter fun t=>!waits md ops i t) (listed.setIfInBounds i true) (a.put oi.dst v) S→wpS F n P md ops Q B (k + 1) T listed a S:=by
 intro k
 induction k with
 | zero =>
  intro T listed a S _ hr hy H
  have hg:=H.good
  have hSB:=hg.2 (by simp)
  refine ⟨⟨hg.1,fun _=>hSB⟩,fun h=>(by rw [h] at hr;cases hr),fun j hj w hw=>?_⟩
  by_cases hji:j=i
  ·subst hji
   exact hy.wpOpIn hi (hSB w hw) fun w' hb=>⟨S,hg.1 w w' hw hb,H.less 0 fun t ht=>List.mem_cons_of_mem _ ht⟩
  ·have:=ready_mono hj hji
   rw [H.2.1] at this
   cases this
 | succ k ih =>
  intro T listed a S hfree hr hy H
  have hg:=H.good
  have hSB:=hg.2 (by simp)
  refine ⟨⟨hg.1,fun _=>hSB⟩,fun h=>(by rw [h] at hr;cases hr),fun j hj w hw=>?_⟩
  by_cases hji:j=i
  ·subst hji
   exact hy.wpOpIn hi (hSB w hw) fun w' hb=>⟨S,hg.1 w w' hw hb,H.less (k + 1) fun t ht=>List.mem_cons_of_mem _ ht⟩
  ·have h1:=H.2.2 j (ready_mono hj hji) w hw
   obtain ⟨hjun,oj,hoj,hall⟩:=mem_ready.1 hj
   have hnot:∀ e∈oj.after,Region.binds md e=true→e.on≠i:=fun e he hb heq=>by
    have h1:=hall e he hb
    have h0:=(mem_ready.1 hr).1
    rw [heq] at h1
    rcases Nat.lt_or_ge i listed.size with h' | h'
    ·simp [h'] at h0 h1;rw [h0] at h1;cases h1
    ·simp [Array.getElem?_eq_none h'] at h1
   have hw0:waits md ops j i=false:=by
    simp only [waits,hoj]
    cases hc:oj.after.any (fun e=>Region.binds md e && e.on == i) with
    | false=>first | rfl | exact hc
    | true =>
     obtain ⟨e,he,hb⟩:=Array.any_eq_true'.1 hc
     simp only [Bool.and_eq_true,beq_iff_eq] at hb
     exact absurd hb.2 (hnot e he hb.1)
   have h2:=wpOpIn_putB hoj (hfree j oj hoj hji hjun hnot) (fun cs b=>hsel i oi cs b hi) (fun cs b=>hsel j oj cs b hoj) hQ hy h1
   have hfree':∀ k ok,ops[k]?=some ok→k≠i→(listed.setIfInBounds j true).getD k true=false →
     (∀ e∈ok.after,Region.binds md e=true→e.on≠i)→oi.apart ops ok=true:=fun k ok hk hki hun hno=>by
    refine hfree k ok hk hki ?_ hno
    by_cases hjk:j=k
    ·subst hjk;exact hjun
    ·rw [getD_set_ne true hjk] at hun;exact hun
   refine wpOpIn_mono (fun a' w' h3=>?_) h2
   obtain ⟨hy',S',h4,h5⟩:=h3
   refine ⟨S',h4,ih _ (listed.setIfInBounds j true) a' S' hfree' (ready_mono hr (Ne.symm hji)) hy' ?_⟩
   rw [Array.setIfInBounds_comm _ _ hji]
   rw [List.filter_cons,hw0] at h5
   simp only [Bool.not_false,if_true] at h5
   rw [filter_comm2]
   exact h5
theorem wpS.take {i:Nat} {oi:Oper} {v:Value} {k:Nat} {T T':List Nat} {listed:Array Bool} {a:Go.Act} {S:World→Prop} (hi:ops[i]?=some oi)
  (hs:Region.noSelect ops=true) (hf:Region.free md ops listed i=true) (hr:(Region.ready md ops listed).contains i=true)
  (hQ:∀ c a w,Q (.panic c) (a.put oi.dst v) w→Q (.panic c) a w) (hT:(T.filter fun t=>!waits md ops i t)=T') (hy:YB F n P ops B oi v a)
  (h:wpS F n P md ops Q B k (i :: T') (listed.setIfInBounds i true) (a.put oi.dst v) S):wpS F n P md ops Q B (k + 1) T listed a S :=
 wpS.first hi (Region.noSelect_spec hs) hQ k T listed a S (Region.free_spec hi hf) (by simpa using hr) hy (by rw [hT];exact h)
theorem wpS.firstP {i:Nat} {oi:Oper} {v:Value} (hi:ops[i]?=some oi) (hsel:∀ (j:Nat) (o:Oper) cs b,ops[j]?=some o→o.op≠.select cs b) (hQ:∀ c a w,Q (.panic c) (a.put oi.dst v) w→Q (.panic c) a w) :
  ∀ (k:Nat) (T:List Nat) (listed:Array Bool) (a:Go.Act) (S:World→Prop),
   (∀ j oj,ops[j]?=some oj→j≠i→listed.getD j true=false→(∀ e∈oj.after,Region.binds md e=true→e.on≠i)→oi.apart ops oj=true) →
   i∈Region.ready md ops listed→YB F n P ops (fun _=>True) oi v a →
   wpS F n P md ops Q B k T (listed.setIfInBounds i true) (a.put oi.dst v) S→wpS F n P md ops Q B (k + 1) T listed a S:=by
 intro k
 induction k with
 | zero =>
  intro T listed a S _ hr hy H
  have hg:=H.good
  refine ⟨hg,fun h=>(by rw [h] at hr;cases hr),fun j hj w hw=>?_⟩
  by_cases hji:j=i
  ·subst hji
   exact hy.wpOpIn hi trivial fun w' hb=>⟨S,hg.1 w w' hw hb,H.less 0 fun t ht=>(List.mem_filter.1 ht).1⟩
  ·have:=ready_mono hj hji
   rw [H.2.1] at this
   cases this
 | succ k ih =>
  intro T listed a S hfree hr hy H
  have hg:=H.good
  refine ⟨hg,fun h=>(by rw [h] at hr;cases hr),fun j hj w hw=>?_⟩
  by_cases hji:j=i
  ·subst hji
   exact hy.wpOpIn hi trivial fun w' hb=>⟨S,hg.1 w w' hw hb,H.less (k + 1) fun t ht=>(List.mem_filter.1 ht).1⟩
  ·have h1:=H.2.2 j (ready_mono hj hji) w hw
   obtain ⟨hjun,oj,hoj,hall⟩:=mem_ready.1 hj
   have hnot:∀ e∈oj.after,Region.binds md e=true→e.on≠i:=fun e he hb heq=>by
    have h1:=hall e he hb
    have h0:=(mem_ready.1 hr).1
    rw [heq] at h1
    rcases Nat.lt_or_ge i listed.size with h' | h'
    ·simp [h'] at h0 h1;rw [h0] at h1;cases h1
    ·simp [Array.getElem?_eq_none h'] at h1
   have h2:=wpOpIn_putB hoj (hfree j oj hoj hji hjun hnot) (fun cs b=>hsel i oi cs b hi) (fun cs b=>hsel j oj cs b hoj) hQ hy h1
   have hfree':∀ k ok,ops[k]?=some ok→k≠i→(listed.setIfInBounds j true).getD k true=false →
     (∀ e∈ok.after,Region.binds md e=true→e.on≠i)→oi.apart ops ok=true:=fun k ok hk hki hun hno=>by
    refine hfree k ok hk hki ?_ hno
    by_cases hjk:j=k
    ·subst hjk;exact hjun
    ·rw [getD_set_ne true hjk] at hun;exact hun
   refine wpOpIn_mono (fun a' w' h3=>?_) h2
   obtain ⟨hy',S',h4,h5⟩:=h3
   refine ⟨S',h4,ih _ (listed.setIfInBounds j true) a' S' hfree' (ready_mono hr (Ne.symm hji)) hy' ?_⟩
   rw [Array.setIfInBounds_comm _ _ hji]
   exact h5
theorem wpS.takeP {i:Nat} {oi:Oper} {v:Value} {k:Nat} {T:List Nat} {listed:Array Bool} {a:Go.Act} {S:World→Prop} (hi:ops[i]?=some oi)
  (hs:Region.noSelect ops=true) (hf:Region.free md ops listed i=true) (hr:(Region.ready md ops listed).contains i=true)
  (hQ:∀ c a w,Q (.panic c) (a.put oi.dst v) w→Q (.panic c) a w) (hy:YB F n P ops (fun _=>True) oi v a)
  (h:wpS F n P md ops Q B k T (listed.setIfInBounds i true) (a.put oi.dst v) S):wpS F n P md ops Q B (k + 1) T listed a S :=
 wpS.firstP hi (Region.noSelect_spec hs) hQ k T listed a S (Region.free_spec hi hf) (by simpa using hr) hy h
theorem wpS.one {i:Nat} {o:Oper} {k:Nat} {T T':List Nat} {listed:Array Bool} {a:Go.Act} {S:World→Prop} (hi:ops[i]?=some o) (hr:Region.ready md ops listed=[i]) (hg:Good B T S)
  (hT:(T.filter fun t=>!waits md ops i t)=T') (hw:Region.wanted o (yielded ops a.tmps)=true)
  (h:∀ w,S w→o.wpIn F n P a w (fun a' w'=>∃ S':World→Prop,S' w'∧wpS F n P md ops Q B k T' (listed.setIfInBounds i true) a' S') Q):wpS F n P md ops Q B (k + 1) T listed a S:=by
 refine ⟨hg,fun h0=>absurd (hr ▸ h0) (by simp),fun j hj w hw2=>?_⟩
 rw [hr,List.mem_singleton] at hj
 subst hj
 unfold wpOpIn
 rw [hi]
 simp only [hw,if_true]
 rw [hT]
 exact h w hw2
theorem wpS.done {T:List Nat} {listed:Array Bool} {a:Go.Act} {S:World→Prop} (hr:Region.ready md ops listed=[]) (hg:Good B T S) (h:∀ w,S w→Q .normal a w):∀ k,wpS F n P md ops Q B k T listed a S
 | 0=>⟨hg,hr,h⟩
 | _ + 1=>⟨hg,fun _=>h,by rw [hr];simp⟩
theorem wpS.region {id:Nat} {a:Go.Act} {w:World} {S:World→Prop} (hm:P.follows .mixedOrders=true) (hS:S w) (h:wpS F n P .any ops Q B ops.size [] (Array.replicate ops.size false) a S):(Code.region id ops true).wpIn F n P Q a w :=
 wpIn_region_any hm (h.sound _ (h.good.1 w _ hS ⟨rfl,rfl,rfl,Nat.le_refl _,fun _ _=>rfl⟩))
theorem wpL.take {o:Oper} {v:Value} {rest:List Oper} {a:Go.Act} {S:World→Prop} (hS:Stab S) (hSB:∀ w,S w→B w) (hy:YB F n P ops B o v a) (h:∀ w,S w→wpListIn F n P ops Q rest (a.put o.dst v) w):∀ w,S w→wpListIn F n P ops Q (o :: rest) a w:=by
 intro w hw
 unfold wpListIn
 rcases hy with hy | ⟨h1,rfl,h3⟩
 ·rw [if_pos hy.1]
  exact (hy.2 w (hSB w hw)).wpIn fun w' hb=>h w' (hS w w' hw hb)
 ·rw [if_neg (by rw [h1];decide)]
  exact ⟨h3 w,h w hw⟩
theorem wpL.one {o:Oper} {rest:List Oper} {a:Go.Act} {S:World→Prop} (hw:Region.wanted o (yielded ops a.tmps)=true)
  (h:∀ w,S w→o.wpIn F n P a w (fun a' w'=>∃ S':World→Prop,S' w'∧∀ w,S' w→wpListIn F n P ops Q rest a' w) Q):∀ w,S w→wpListIn F n P ops Q (o :: rest) a w:=by
 intro w hw2
 unfold wpListIn
 rw [if_pos hw]
 exact Oper.wpIn_mono (fun a' w' ⟨S',h1,h2⟩=>h2 w' h1) (h w hw2)
end
end
end Go.Proofs.YtildnolfgdcndaaGreatDoor.W
