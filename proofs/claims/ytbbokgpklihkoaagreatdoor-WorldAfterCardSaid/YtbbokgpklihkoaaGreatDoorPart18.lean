/- Ord Collect Obj2 OrdR Sub -/
import Derived.Test.YtbbokgpklihkoaaGreatDoorPart17
import Derived.Shelf.Abstract
import Derived.Test.YtbbokgpklihkoaaGreatDoorPart14
import Derived.Stop.RegionWithIn
set_option linter.unusedVariables false
set_option linter.unusedSimpArgs false
namespace Go.Proofs.YtbbokgpklihkoaaGreatDoor.W
section
open Go.RowKit
attribute [local go_sem] Oper.semAt_some
def Hp.orderO (h:Hp) (c:V):List V:=if h.isClass c=true then vref c.n :: ((h.items c).filter fun x=>h.isClass x).map fun x=>vref x.n else []
def valArgs (l:List V):List (Array Value):=l.map fun v=>#[v.agg]
theorem filter_at {α:Type} {l:List α} {p:α→Bool} {k:Nat} {x:α} (h:l[k]?=some x) (hp:p x=true):(l.filter p)[((l.take k).filter p).length]?=some x:=by
 have hlt:=(List.getElem?_eq_some_iff.1 h).1
 have e:l.filter p=(l.take k).filter p++x :: (l.drop (k + 1)).filter p:=by
  conv=>lhs;rw [← List.take_append_drop k l,List.drop_eq_getElem_cons hlt,(List.getElem?_eq_some_iff.1 h).2]
  rw [List.filter_append,List.filter_cons,if_pos hp]
 rw [e,List.getElem?_append_right (Nat.le_refl _),Nat.sub_self]
 rfl
theorem filter_snoc {α:Type} {l:List α} {p:α→Bool} {k:Nat} {x:α} (h:l[k]?=some x):((l.take (k + 1)).filter p).length=((l.take k).filter p).length + (if p x=true then 1 else 0):=by
 rw [List.take_add_one,h,List.filter_append,List.length_append]
 cases hp:p x<;>simp [hp]
theorem NewVs.form2 {w w':World} {l:List V} {e:Ending} (h:NewVs w l e w'):∃ a c,e=.returned (.slice a l.length c)∧NewVs w l (.returned (.slice a l.length c)) w'∧Bl w w':=by
 obtain ⟨x,rfl,ho,hb⟩:=h
 obtain ⟨a,c,rfl,-⟩:=row_form ho
 exact ⟨a,c,rfl,⟨_,rfl,ho,hb⟩,hb⟩
structure OPre (hp:Nat) (h:Hp) (H:Foot) (bh bc:Nat) (c:V) (F:Foot) (W:World):Prop where
 r:HR W hp h H
 ap:∀ b,H b→¬ F b
 bh:W.heap[bh]?=some (.cells #[.pointer (some ⟨hp,0,none⟩)] 41 (0,0))∧¬ F bh
 bc:W.heap[bc]?=some (.cells c.ca 23 (0,0))∧¬ F bc
theorem OPre.step {hp:Nat} {h:Hp} {H:Foot} {bh bc:Nat} {c:V} {F F':Foot} {W W':World} (p:OPre hp h H bh bc c F W) (s:Step W.heap.size F W W' F'):OPre hp h H bh bc c F' W':=by
 have hk:∀ b,b < W.heap.size→¬ F b→W'.heap[b]?=W.heap[b]?∧¬ F' b:=fun b h1 h2=>⟨s.block b h1 h2,fun hf=>(s.foot b hf).elim h2 (by omega)⟩
 have h1:=hk bh (zN p.bh.1).1 p.bh.2
 have h2:=hk bc (zN p.bc.1).1 p.bc.2
 exact ⟨p.r.keep s.size fun b hb=>(hk b (p.r.lt b hb) (p.ap b hb)).1,fun b hb=>(hk b (p.r.lt b hb) (p.ap b hb)).2,⟨h1.1.trans p.bh.1,h1.2⟩,⟨h2.1.trans p.bc.1,h2.2⟩⟩
theorem OPre.bl {hp:Nat} {h:Hp} {H:Foot} {bh bc:Nat} {c:V} {F:Foot} {W W':World} (p:OPre hp h H bh bc c F W) (hb:Bl W W'):OPre hp h H bh bc c F W' :=
 ⟨p.r.bl hb,p.ap,⟨(hb.at (zN p.bh.1).1).trans p.bh.1,p.bh.2⟩,⟨(hb.at (zN p.bc.1).1).trans p.bc.1,p.bc.2⟩⟩
set_option maxRecDepth 100000 in
set_option maxHeartbeats 8000000 in
theorem order_seq (hp:Nat) (h:Hp) (H:Foot) (bh bc:Nat) (c:V) (hfew:(h.items c).length≤1048576):SeqOf Tryz.prog 435 #[.pointer (some ⟨bh,0,none⟩),.pointer (some ⟨bc,0,none⟩)] (valArgs (h.orderO c)) (OPre hp h H bh bc c):=by
 rintro l J Y sJ sY ltJ hY F W hJ hP
 have HJ:=zH hJ
 have HSJ:=zH sJ
 have HLT:=zH ltJ
 have HY:=zH hY
 have HP:=zH hP
 have ci:∀ W',Bl W W'→_:=fun W' hb=>isClass_any W' hp h H (hP.r.bl hb) c
 obtain ⟨b0,b1,b2,-⟩:=(Bl.refl W).three hP.bc.1
 have bh0:W.cell? ⟨bh,0,none⟩=some (.pointer (some ⟨hp,0,none⟩)):=by rw [cell_of hP.bh.1];rfl
 clear hJ sJ ltJ hY sY hP
 unfold Hp.orderO at HY HJ ⊢
 cases hc:h.isClass c with
 | false =>
  rw [hc] at ci HY
  simp only [Bool.false_eq_true,if_false] at HY ⊢
  refine callsIn_of_wp Tryz.func435 rfl trivial ?_ rfl
  simp only [Tryz.ntmps435,zS,Nat.reduceAdd,Nat.reduceSub]
  gi_wp2_with (refine ⟨trivial,?_⟩;gi_at_call 219;refine (callsIn_wide.2 (ci _ (by (repeat (first | exact qA _ | assumption | refine qB ?_ _ | refine qC ?_ | refine qD ?_ _ | refine qE ?_ _ (by simp<;>omega) _))))).mono ?_;rintro e W1 ⟨rfl,hb1⟩)
  refine ⟨trivial,?_⟩
  gi_wp2
  refine ⟨fun _ h=>(by cases h),?_⟩
  gi_wp2
  refine bodyPost_ret (results_none rfl _ _ _) rfl ?_
  exact ⟨⟨_,rfl⟩,F,Step.of_bl (Bl.trans (by (repeat (first | exact qA _ | assumption | refine qB ?_ _ | refine qC ?_ | refine qD ?_ _ | refine qE ?_ _ (by simp<;>omega) _))) hb1) (HLT.out 0 F W HJ.out),.inl (HSJ.out 0 F W W1 HJ.out (Keep.of_bl (Bl.trans (by (repeat (first | exact qA _ | assumption | refine qB ?_ _ | refine qC ?_ | refine qD ?_ _ | refine qE ?_ _ (by simp<;>omega) _))) hb1) (HLT.out 0 F W HJ.out)))⟩
 | true =>
  rw [hc] at ci HY
  simp only [if_true] at HY ⊢
  refine callsIn_of_wp Tryz.func435 rfl trivial ?_ rfl
  simp only [Tryz.ntmps435,zS,Nat.reduceAdd,Nat.reduceSub]
  gi_wp2_with (first | (refine ⟨trivial,?_⟩;gi_at_call 219;refine (callsIn_wide.2 (ci _ (by (repeat (first | exact qA _ | assumption | refine qB ?_ _ | refine qC ?_ | refine qD ?_ _ | refine qE ?_ _ (by simp<;>omega) _))))).mono ?_;rintro e W1 ⟨rfl,hb1⟩;have e0:=hb1.sm b0;have e1:=hb1.sm b1;have e2:=hb1.sm b2;have eh:=hb1.sm bh0) | (refine ⟨trivial,?_⟩;gi_at_call 220;refine (callsIn_wide.2 (ref_any _ c)).mono ?_;rintro e W2 ⟨rfl,hb2⟩))
  have hBW:Bl W W2:=(Bl.trans (by (repeat (first | exact qA _ | assumption | refine qB ?_ _ | refine qC ?_ | refine qD ?_ _ | refine qE ?_ _ (by simp<;>omega) _))) hb1).trans hb2
  have hJ2:=HSJ.out 0 F W W2 HJ.out (Keep.of_bl hBW (HLT.out 0 F W HJ.out))
  have hst2:Step W.heap.size F W W2 F:=Step.of_bl hBW (HLT.out 0 F W HJ.out)
  have hx0:(valArgs (vref c.n :: ((h.items c).filter fun x=>h.isClass x).map fun x=>vref x.n))[0]?=some #[(vref c.n).agg]:=rfl
  obtain ⟨fn,tmps,assign,body,hyy,hRd⟩:=HY.out 0 _ F W2 hx0 hJ2
  have HST2:=zH (And.intro hst2 (HP.out.bl hBW))
  clear hBW hJ2 hst2 hx0 hb1 hb2 ci
  rw [hyy]
  gi_wp2
  refine hRd.mono ?_
  rintro e W3 ⟨F3,hst3,(⟨rfl,hJ3⟩ | ⟨rfl,hY3⟩)⟩
  ·have hP3:=HST2.out.2.step hst3
   have hS3:=HST2.out.1.call HST2.out.1.size hst3
   have cit:=items_any W3 hp h H hP3.r c
   obtain ⟨f0,f1,f2,-⟩:=(Bl.refl W3).three hP3.bc.1
   have fh:W3.cell? ⟨bh,0,none⟩=some (.pointer (some ⟨hp,0,none⟩)):=by rw [cell_of hP3.bh.1];rfl
   have HP3:=zH (And.intro hP3 (And.intro hS3 hJ3))
   have hlt3:=HLT.out _ F3 W3 hJ3
   obtain ⟨its,hits⟩:∃ its,its=h.items c:=⟨_,rfl⟩
   obtain ⟨n,hn⟩:∃ n,n=its.length:=⟨_,rfl⟩
   rw [← hits] at cit hfew
   rw [← hn] at hfew
   have HN:=zH (And.intro hn hits)
   clear hP3 hS3 hJ3 hst3 hn hits
   gi_wp2_with (refine ⟨trivial,?_⟩;gi_at_call 142;refine (callsIn_wide.2 cit).mono ?_;rintro e W4 hx;obtain ⟨xa,xc,he4,hx4,hb4⟩:=hx.form2;rw [← HN.out.1] at he4 hx4;subst he4)
   have hvx4:Vx F3 W4 (.slice xa n xc) its:=hx4.vx hlt3
   have hfr:∀ b o n' c',Value.slice xa n xc=.slice (some ⟨b,o,none⟩) n' c'→¬ H b:=fun b o n' c' e hb=>by have h1:=hx4.fresh b o n' c' e;have h2:=HP3.out.1.r.lt b hb;omega
   have HL:=zH (show Step W.heap.size F W W4 F3∧J (1 + ((its.take 0).filter fun x=>h.isClass x).length) F3 W4∧OPre hp h H bh bc c F3 W4∧Vx F3 W4 (.slice xa n xc) its from ⟨HP3.out.2.1.bl hb4 HP3.out.2.1.size,by simpa using HSJ.out _ F3 W3 W4 HP3.out.2.2 (Keep.of_bl hb4 hlt3),HP3.out.1.bl hb4,hvx4⟩)
   have HXA:=zH (show 0 < n→∃ b o,xa=some ⟨b,o,none⟩ from fun hpos=>by
    rcases hvx4.vs with ⟨e,-⟩ | ⟨b,o,c',e,-⟩
    ·injection e with _ e2 _;omega
    ·injection e with e1 _ _;exact ⟨b,o,e1⟩)
   clear hx4 hb4 hvx4 hfr hlt3 cit hyy hRd f0 f1 f2 fh b0 b1 b2 bh0 e0 e1 e2 eh hx
   gi_loopw [5,21] (fun _ v21 wr=>∃ (k:Nat) (F':Foot),k≤n∧v21=.int .i64 k∧Step W.heap.size F W wr F'∧J (1 + ((its.take k).filter fun x=>h.isClass x).length) F' wr∧OPre hp h H bh bc c F' wr∧Vx F' wr (.slice xa n xc) its) (fun _ v21 _=>n - (intOf v21).toNat)
   case atStart=>exact ⟨0,F3,Nat.zero_le _,rfl,HL.out⟩
   case round =>
    obtain ⟨k,F',hk,rfl,hst,hJ,hP,hvx⟩:=hrel
    by_cases hlt:k < n
    ·obtain ⟨bb,oo,rfl⟩:=HXA.out (by omega)
     obtain ⟨x,hx⟩:∃ x,its[k]?=some x:=⟨_,List.getElem?_eq_getElem (by rw [← HN.out.1];exact hlt)⟩
     have hcells:∀ t u,t < 3→x.cs[t]?=some u→wr.cell? ⟨bb,oo + (k * 3 + t),none⟩=some u:=fun t u ht hu=>by
      rcases hvx.vs with ⟨e1,-⟩ | ⟨b',o',c',e1,-,-,-,hcell⟩
      ·cases e1
      ·cases e1
       exact hcell _ u ((vcs_at ht hx).trans hu)
     have y0:wr.cell? ⟨bb,oo + k * 3,none⟩=some (.int .i64 x.k):=hcells 0 _ (by decide) rfl
     have y1:wr.cell? ⟨bb,oo + k * 3 + 1,none⟩=some (.int .i64 x.n):=hcells 1 _ (by decide) rfl
     have y2:wr.cell? ⟨bb,oo + k * 3 + 2,none⟩=some (.string (bs x.s)):=hcells 2 _ (by decide) rfl
     have gh:wr.cell? ⟨bh,0,none⟩=some (.pointer (some ⟨hp,0,none⟩)):=by rw [cell_of hP.bh.1];rfl
     have ghl:bh < wr.heap.size:=(zN hP.bh.1).1
     have ghn:¬ bh=wr.heap.size:=Nat.ne_of_lt ghl
     have ci:∀ W',Bl wr W'→_:=fun W' hb=>isClass_any W' hp h H (hP.r.bl hb) x
     have hsn:=filter_snoc (p:=fun x=>h.isClass x) hx
     have HS:=zH (And.intro hst (And.intro hJ (And.intro hP hvx)))
     have HX2:=zH hx
     have hltF:=HLT.out _ F' wr hJ
     have HLF:=zH hltF
     cases hcx:h.isClass x with
     | false =>
      rw [hcx] at ci
      have HSN:=zH (show ((its.take (k + 1)).filter fun x=>h.isClass x).length=((its.take k).filter fun x=>h.isClass x).length by rw [hsn,hcx];rfl)
      clear hst hJ hP hvx hx hcells hsn hltF hcx
      gi_wp2_with (refine ⟨trivial,?_⟩;gi_at_call 219;refine (callsIn_wide.2 (ci _ (by (repeat (first | exact qA _ | assumption | refine qB ?_ _ | refine qC ?_ | refine qD ?_ _ | refine qE ?_ _ (by simp<;>omega) _))))).mono ?_;rintro e W5 ⟨rfl,hb5⟩)
      refine ⟨trivial,?_⟩
      gi_wp2
      refine ⟨fun _ h=>(by cases h),?_⟩
      have hB5:Bl wr W5:=Bl.trans (by (repeat (first | exact qA _ | assumption | refine qB ?_ _ | refine qC ?_ | refine qD ?_ _ | refine qE ?_ _ (by simp<;>omega) _))) hb5
      have HREL:=zH (show Step W.heap.size F W W5 F'∧J (1 + ((its.take (k + 1)).filter fun x=>h.isClass x).length) F' W5∧OPre hp h H bh bc c F' W5∧Vx F' W5 (.slice (some ⟨bb,oo,none⟩) n xc) its from ⟨HS.out.1.bl hB5 HS.out.1.size,by rw [HSN.out];exact HSJ.out _ F' wr W5 HS.out.2.1 (Keep.of_bl hB5 HLF.out),HS.out.2.2.1.bl hB5,HS.out.2.2.2.bl hB5⟩)
      clear hb5 hB5
      gi_wp2
      go_roundw
      case rel=>exact ⟨k + 1,F',by omega,by go_num,HREL.out⟩
      case measure=>simp [intOf];omega
     | true =>
      rw [hcx] at ci
      have HSN:=zH (show ((its.take (k + 1)).filter fun x=>h.isClass x).length=((its.take k).filter fun x=>h.isClass x).length + 1 by rw [hsn,hcx];rfl)
      have HCX:=zH hcx
      clear hst hJ hP hvx hx hcells hsn hltF hcx
      gi_wp2_with (first | (refine ⟨trivial,?_⟩;gi_at_call 219;refine (callsIn_wide.2 (ci _ (by (repeat (first | exact qA _ | assumption | refine qB ?_ _ | refine qC ?_ | refine qD ?_ _ | refine qE ?_ _ (by simp<;>omega) _))))).mono ?_;rintro e W5 ⟨rfl,hb5⟩;obtain ⟨e0,e1,e2,-⟩:=hb5.three (MapKept.heap_alloc wr (.cells x.ca 23)).1) | (refine ⟨trivial,?_⟩;gi_at_call 220;refine (callsIn_wide.2 (ref_any _ x)).mono ?_;rintro e W6 ⟨rfl,hb6⟩))
      have hB6:Bl wr W6:=(Bl.trans (by (repeat (first | exact qA _ | assumption | refine qB ?_ _ | refine qC ?_ | refine qD ?_ _ | refine qE ?_ _ (by simp<;>omega) _))) hb5).trans hb6
      have hx0:(valArgs (vref c.n :: ((h.items c).filter fun x=>h.isClass x).map fun x=>vref x.n))[1 + ((its.take k).filter fun x=>h.isClass x).length]?=some #[(vref x.n).agg]:=by
       unfold valArgs
       rw [List.getElem?_map,Nat.add_comm,List.getElem?_cons_succ,List.getElem?_map,← HN.out.2,filter_at HX2.out HCX.out];rfl
      obtain ⟨fn,tmps,assign,body,hyy,hRd⟩:=HY.out _ _ F' W6 hx0 (HSJ.out _ F' wr W6 HS.out.2.1 (Keep.of_bl hB6 HLF.out))
      have HST6:=zH (show Step W.heap.size F W W6 F'∧OPre hp h H bh bc c F' W6∧Vx F' W6 (.slice (some ⟨bb,oo,none⟩) n xc) its from ⟨HS.out.1.bl hB6 HS.out.1.size,HS.out.2.2.1.bl hB6,HS.out.2.2.2.bl hB6⟩)
      clear hB6 hx0 hb5 hb6 ci
      rw [hyy]
      gi_wp2
      refine hRd.mono ?_
      rintro e W7 ⟨F7,hst7,(⟨rfl,hJ7⟩ | ⟨rfl,hY7⟩)⟩
      ·have HREL:=zH (show Step W.heap.size F W W7 F7∧J (1 + ((its.take (k + 1)).filter fun x=>h.isClass x).length) F7 W7∧OPre hp h H bh bc c F7 W7∧Vx F7 W7 (.slice (some ⟨bb,oo,none⟩) n xc) its from ⟨HST6.out.1.call HST6.out.1.size hst7,by rw [HSN.out,← Nat.add_assoc];exact hJ7,HST6.out.2.1.step hst7,HST6.out.2.2.step hst7⟩)
       clear hst7 hJ7
       gi_wp2
       go_roundw
       case rel=>exact ⟨k + 1,F7,by omega,by go_num,HREL.out⟩
       case measure=>simp [intOf];omega
      ·have HREL:=zH (show Step W.heap.size F W W7 F7∧Y F7 W7 from ⟨HST6.out.1.call HST6.out.1.size hst7,hY7⟩)
       clear hst7 hY7
       gi_wp2
       refine bodyPost_ret (results_none rfl _ _ _) rfl ?_
       exact ⟨⟨_,rfl⟩,F7,HREL.out.1,.inr HREL.out.2⟩
    ·obtain rfl:k=n:=by omega
     have HREL:=zH (show Step W.heap.size F W wr F'∧J (valArgs (vref c.n :: ((h.items c).filter fun x=>h.isClass x).map fun x=>vref x.n)).length F' wr from ⟨hst,by
      rw [HN.out.1,List.take_length] at hJ
      unfold valArgs
      rw [List.length_map,List.length_cons,List.length_map,← HN.out.2,Nat.add_comm];exact hJ⟩)
     clear hst hJ hP hvx
     gi_wp2
     go_end0
     exact ⟨⟨_,rfl⟩,F',HREL.out.1,.inl HREL.out.2⟩
  ·have HREL:=zH (show Step W.heap.size F W W3 F3∧Y F3 W3 from ⟨HST2.out.1.call HST2.out.1.size hst3,hY3⟩)
   clear hst3 hY3
   gi_wp2
   refine bodyPost_ret (results_none rfl _ _ _) rfl ?_
   exact ⟨⟨_,rfl⟩,F3,HREL.out.1,.inr HREL.out.2⟩
end
section
open Go.RowKit Go.Shelf
attribute [local go_sem] Oper.semAt_some
theorem take_cs {l:List V} {k:Nat} {v:V} (h:l[k]?=some v):(l.take (k + 1)).flatMap V.cs=(l.take k).flatMap V.cs++v.cs:=by
 rw [List.take_add_one,h];simp
set_option maxRecDepth 100000 in
set_option maxHeartbeats 8000000 in
theorem appendSeq_vals (w:World) (gf:Nat) (lb:Array Value) (l:List V) (Pre:Foot→World→Prop) (hseq:SeqOf Tryz.prog gf lb (valArgs l) Pre) (eg:∀ args w,(callFunc gf args).run Tryz.prog w=.ok (.enter gf args) w)
  (hpre:∀ W F,Bl w W→(∀ b,F b→w.heap.size≤b)→Pre F W) (hl:l.length≤2097152) :
  Calls Tryz.prog 434 #[.slice none 0 0,.func (.func gf) #[] lb] w (NewVs w l):=by
 obtain ⟨i0,hi,hz0,hz1,hz2⟩:=info_parts Tryz.infoV
 have HP:=zH hpre
 have HQ:=zH (And.intro hseq eg)
 clear hpre hseq eg
 refine (callsIn_wide (n:=3)).1 ?_
 refine callsIn_of_wp_marks Tryz.func434 rfl trivial ?_ rfl
 simp only [Tryz.ntmps434,zS,Nat.reduceAdd,Nat.reduceSub]
 gi_wp2
 refine named (p:=fun W=>Code.wpIn _ _ _ _ _ _ W) (fun W0 hW0=>?_)
 have hb0:Bl w W0:=by rw [hW0];(repeat (first | exact qA _ | assumption | refine qB ?_ _ | refine qC ?_ | refine qD ?_ _ | refine qE ?_ _ (by simp<;>omega) _))
 have hs0:W0.heap.size=w.heap.size + 1:=by rw [hW0,zL]
 have hbox:W0.heap[w.heap.size]?=some (.cells #[.slice none 0 0] 30 (0,0)):=by
  rw [hW0];exact (MapKept.heap_alloc w _).1
 clear hW0
 refine range_fn (gf:=gf) (lb:=lb) rfl HQ.out.2 HQ.out.1 ?_
  (fun k F W=>∃ v,Coll w.heap.size w.heap.size 30 23 3 k ((l.take k).flatMap V.cs) v W∧(∀ b,CFoot w.heap.size v b→F b)∧(∀ b,F b→b < W.heap.size)∧(∀ b,F b→w.heap.size≤b))
  (fun _ _ _=>False) ?stI ?stX ?ltI (fun b=>b=w.heap.size) ?h0 ?hpre ?hround ?hdone ?hstop
 ·intro x hx
  obtain ⟨p,-,rfl⟩:=List.mem_map.1 hx
  rfl
 case stI =>
  rintro k F W W' ⟨v,hc,h1,h2,h3⟩ hk
  exact ⟨v,hc.keep (fun b hb=>hk.block b (h1 b hb)),h1,fun b hb=>Nat.lt_of_lt_of_le (h2 b hb) hk.size,h3⟩
 case stX=>intro c F W W' h _;exact h
 case ltI=>rintro k F W ⟨v,hc,h1,h2,h3⟩;exact h2
 case h0 =>
  refine ⟨.slice none 0 0,⟨hbox,by simp,.inl ⟨rfl,rfl⟩⟩,?_,?_,?_⟩
  ·rintro b (h | h)
   ·exact h
   ·cases h
  ·rintro b rfl;omega
  ·rintro b rfl;exact Nat.le_refl _
 case hpre =>
  intro W F hb _ hF
  exact HP.out W F (hb0.trans hb) (fun b hb2=>by rcases (hF b).1 hb2 with h | h | h<;>omega)
 case hround =>
  rintro lp k x F W K hx ⟨v,hc,h1,h2,h3⟩ hnl hll hK
  obtain ⟨p,hp,rfl⟩:∃ p,l[k]?=some p∧x=#[p.agg]:=by
   unfold valArgs at hx
   rw [List.getElem?_map] at hx
   cases hp:l[k]? with
   | none=>rw [hp] at hx;cases hx
   | some p=>rw [hp] at hx;injection hx with hx;exact ⟨p,rfl,hx.symm⟩
  have hkd:=(List.getElem?_eq_some_iff.1 hp).1
  have HK:=zH hK
  have HC:=zH hc
  have HPP:=zH hp
  clear hK hc hx hp
  gi_wp2
  refine HK.out _ _ (by (repeat (first | exact qA _ | assumption | refine qB ?_ _ | refine qC ?_ | refine qD ?_ _ | refine qE ?_ _ (by simp<;>omega) _))) ?_
  intro Wb hWb hsb hos htp hou
  have hWl:W.heap.size≠lp:=by omega
  have hC2:Coll w.heap.size w.heap.size 30 23 3 k ((l.take k).flatMap V.cs) v Wb:=HC.out.keep fun b hb=>by
   have hb2:=h1 b hb
   rw [hWb b (fun e=>hnl (by rw [← e];exact hb2))]
   exact Below.heap_alloc _ _ _ (h2 b hb2)
  have hnb:Wb.heap[W.heap.size]?=some (.cells p.ca 23 (0,0)):=by
   rw [hWb _ hWl];exact (MapKept.heap_alloc W _).1
  obtain ⟨c1,c2⟩:=hC2.cells
  obtain ⟨g',cap',w4,hap,d1,d2,hsz4,hC3,hstep⟩:=hC2.app 30 i0 _ 32 Tryz.underlying30 hi hz0 hz1 hz2 rfl (by decide) p.cs rfl (cs_one _) (by unfold maxLen;omega) (by omega) (by rw [hsb,zL];have:=h2 _ (h1 _ (.inl rfl));omega) (by decide)
  obtain ⟨F',hst,hF'⟩:=hstep F (fun b hb=>h1 b hb) (fun b hb=>by rw [hsb,zL];exact Nat.lt_succ_of_lt (h2 b hb))
  have y0:Wb.cell? ⟨W.heap.size,0,none⟩=some (.int .i64 p.k):=by rw [cell_of hnb];rfl
  have y1:Wb.cell? ⟨W.heap.size,1,none⟩=some (.int .i64 p.n):=by rw [cell_of hnb];rfl
  have y2:Wb.cell? ⟨W.heap.size,2,none⟩=some (.string (bs p.s)):=by rw [cell_of hnb];rfl
  have HREL:=zH (show ∃ F',Step Wb.heap.size F Wb (w4.setCell ⟨w.heap.size,0,none⟩ (.slice (some ⟨g',0,none⟩) (k + 1) cap')) F'∧∃ v,Coll w.heap.size w.heap.size 30 23 3 (k + 1) ((l.take (k + 1)).flatMap V.cs) v (w4.setCell ⟨w.heap.size,0,none⟩ (.slice (some ⟨g',0,none⟩) (k + 1) cap'))∧(∀ b,CFoot w.heap.size v b→F' b)∧(∀ b,F' b→b < (w4.setCell ⟨w.heap.size,0,none⟩ (.slice (some ⟨g',0,none⟩) (k + 1) cap')).heap.size)∧(∀ b,F' b→w.heap.size≤b) from by
   refine ⟨F',hst,_,by rw [take_cs HPP.out];exact hC3,?_,hst.lt,?_⟩
   ·rintro b (rfl | hb)
    ·exact (hF' _).2 (.inl (h1 _ (.inl rfl)))
    ·cases hb;exact (hF' _).2 (.inr rfl)
   ·intro b hb
    rcases hst.foot b hb with h | h
    ·exact h3 b h
    ·have:=h2 _ (h1 _ (.inl rfl));rw [hsb,zL] at h;omega)
  have ap:(Builtin.append_ #[30,30] 30 #[v,.slice (some ⟨Wb.heap.size,0,none⟩) 1 1]).run Tryz.prog (Wb.alloc (.cells p.ca 23))=.ok (.slice (some ⟨g',0,none⟩) (k + 1) cap') w4:=hap _
  have hll2:w.heap.size < Wb.heap.size:=by rw [hsb,zL];have:=h2 _ (h1 _ (.inl rfl));omega
  have hll3:W.heap.size < Wb.heap.size:=by rw [hsb,zL];omega
  clear HC HPP hWb hC2 hnb hC3 hstep hst hF' hap hsb
  gi_wp2_with (gi_at_builtin;refine wpListIn_app rfl (.tmp 8) (.tmp 10) 30 rfl v (.slice (some ⟨Wb.heap.size,0,none⟩) 1 1) (by simp [Go.Act.eval]) (by simp [Go.Act.eval]) (.slice (some ⟨g',0,none⟩) (k + 1) cap') w4 ap ?_)
  exact HREL.out
 case hdone =>
  rintro F' W' hst ⟨v,hc,h1,h2,h3⟩ hD hnD
  obtain ⟨a,c,rfl⟩:=hc.form
  obtain ⟨c1,c2⟩:=hc.cells
  have hbw:Below w.heap.size w W':=by
   refine ⟨hst.os.trans hb0.os,hst.tape.trans hb0.tape,hst.output.trans hb0.output,Nat.le_trans hb0.sz hst.size,fun b hb=>?_⟩
   rw [hst.block b (by omega) (fun e=>by have e':b=w.heap.size:=e;omega)]
   exact hb0.at hb
  have HF:=zH (show ∀ o,NewVs w l (.returned (.slice a (valArgs l).length c)) (W'.putObj W0.heap.size o) from fun o=>by
   have e:(valArgs l).length=l.length:=by simp [valArgs]
   refine NewVs.put ⟨_,rfl,?_,hbw⟩ (by omega) (fun b hb e=>hnD (by rw [← e];exact h1 b (.inr hb))) o
   have h:=hc.row
   rw [e,List.take_length] at h
   rw [e]
   exact h)
  have HDD:=zH hD
  clear hst hc h1 h2 h3 hnD hbw hD
  gi_wp2
  refine ⟨by simp,.inl ⟨_,_,rfl,run_takeDeferred HDD.out,?_⟩⟩
  refine ⟨_,results_tmp (t:=4) rfl _ _ _,?_⟩
  exact HF.out _
 case hstop=>intro c F' W' _ h _ _;exact h.elim
theorem collect_vals (w:World) (gf:Nat) (lb:Array Value) (l:List V) (Pre:Foot→World→Prop) (hseq:SeqOf Tryz.prog gf lb (valArgs l) Pre) (eg:∀ args w,(callFunc gf args).run Tryz.prog w=.ok (.enter gf args) w)
  (hpre:∀ W F,Bl w W→(∀ b,F b→w.heap.size≤b)→Pre F W) (hl:l.length≤2097152) :
  Calls Tryz.prog 357 #[.func (.func gf) #[] lb] w (NewVs w l):=by
 have ca:=appendSeq_vals w gf lb l Pre hseq eg hpre hl
 clear hseq eg hpre
 go_enter Tryz.func357,Tryz.ntmps357
 go_wp2_with (go_at_call 434;refine ca.mono ?_;rintro e W1 hx;obtain ⟨xa,xc,rfl,hx1,hb1⟩:=hx.form2;have HX:=zH hx1;clear hx hx1 hb1 ca)
 go_ret
 exact HX.out
theorem order_mk (w:World) (hp:Nat) (c:V):Calls Tryz.prog 358 #[.pointer (some ⟨hp,0,none⟩),c.agg] w fun e w' =>
  e=.returned (.func (.func 435) #[] #[.pointer (some ⟨w.heap.size,0,none⟩),.pointer (some ⟨w.heap.size + 1,0,none⟩)])∧w'=(w.alloc (.cells #[.pointer (some ⟨hp,0,none⟩)] 41)).alloc (.cells c.ca 23):=by
 go_enter Tryz.func358,Tryz.ntmps358
 go_wp2
 go_ret
 exact ⟨rfl,rfl⟩
theorem OPre.start {w W:World} {hp:Nat} {h:Hp} {H:Foot} (r:HR w hp h H) {c:V} (hb:Bl ((w.alloc (.cells #[.pointer (some ⟨hp,0,none⟩)] 41)).alloc (.cells c.ca 23)) W) {F:Foot} (hF:∀ b,F b→w.heap.size + 2≤b):OPre hp h H w.heap.size (w.heap.size + 1) c F W:=by
 have h1:=(MapKept.heap_alloc w (.cells #[.pointer (some ⟨hp,0,none⟩)] 41)).1
 have h2:=(MapKept.heap_alloc (w.alloc (.cells #[.pointer (some ⟨hp,0,none⟩)] 41)) (.cells c.ca 23)).1
 rw [zL] at h2
 refine ⟨((r.bl (Bl.al _ _)).bl (Bl.al _ _)).bl hb,fun b hb2 hf=>?_,⟨(hb.at (by simp only [zL];omega)).trans ((Below.heap_alloc _ _ _ (by simp only [zL];omega)).trans h1),fun hf=>?_⟩,⟨(hb.at (by simp only [zL];omega)).trans h2,fun hf=>?_⟩⟩
 ·have:=r.lt b hb2;have:=hF b hf;omega
 ·have:=hF _ hf;omega
 ·have:=hF _ hf;omega
end
section
open Go.RowKit
theorem HR.few {w:World} {hp:Nat} {h:Hp} {F:Foot} (r:HR w hp h F) (v:V):(h.items v).length≤1048576:=by
 rcases r.case v with ⟨h0,co⟩ | ⟨L,c,r,hc,hn,hk,h1,co⟩
 ·have e1:h.items v=[]:=by unfold Hp.items;rw [h0]
  rw [e1];decide
 ·have e1:h.items v=c.o.items:=by unfold Hp.items;rw [h1]
  rw [e1]
  exact (r.obs c hc).few
theorem orderO_len {h:Hp} {c:V} (hf:(h.items c).length≤1048576):(h.orderO c).length≤2097152:=by
 unfold Hp.orderO
 split
 ·rw [List.length_cons,List.length_map]
  have:=List.length_filter_le (fun x=>h.isClass x) (h.items c)
  omega
 ·exact Nat.zero_le _
set_option maxRecDepth 100000 in
set_option maxHeartbeats 2000000 in
theorem orderO_any (w:World) (hp:Nat) (h:Hp) (F:Foot) (r:HR w hp h F) (v:V) :
  Calls Tryz.prog 231 #[.pointer (some ⟨hp,0,none⟩),v.agg] w (NewVs w (h.orderO v)):=by
 have cc:∀ W W2,Bl w W→Bl ((W.alloc (.cells #[.pointer (some ⟨hp,0,none⟩)] 41)).alloc (.cells v.ca 23)) W2→Calls Tryz.prog 357 #[.func (.func 435) #[] #[.pointer (some ⟨W.heap.size,0,none⟩),.pointer (some ⟨W.heap.size + 1,0,none⟩)]] W2 (NewVs W2 (h.orderO v)):=fun W W2 hb hb2=>collect_vals W2 _ _ _ _ (order_seq hp h F W.heap.size (W.heap.size + 1) v (r.few v)) (enters_of Tryz.func435 (by kernel_rfl) rfl) (fun W3 F3 h3 hF=>OPre.start (r.bl hb) (hb2.trans h3) (fun b hb4=>by have:=hF b hb4;have:=hb2.sz;simp only [zL] at this;omega)) (orderO_len (r.few v))
 have cm:∀ W,Calls Tryz.prog 358 #[.pointer (some ⟨hp,0,none⟩),v.agg] W _:=fun W=>order_mk W hp v
 clear r
 generalize h.orderO v=l at cc ⊢
 go_enter Tryz.func231,Tryz.ntmps231
 go_wp2_with fail
 refine named (p:=fun W=>Calls _ _ _ W _) (fun W hW=>?_)
 have HB:=zH (show Bl w W by rw [hW];(repeat (first | exact qA _ | assumption | refine qB ?_ _ | refine qC ?_ | refine qD ?_ _ | refine qE ?_ _ (by simp<;>omega) _)))
 clear hW
 refine (cm W).mono ?_
 rintro e W1 ⟨rfl,hW1⟩
 have HB1:=zH (show Bl ((W.alloc (.cells #[.pointer (some ⟨hp,0,none⟩)] 41)).alloc (.cells v.ca 23)) W1 by rw [hW1];exact Bl.refl _)
 have HBW:=zH (show Bl w W1 by rw [hW1];exact HB.out.trans (by (repeat (first | exact qA _ | assumption | refine qB ?_ _ | refine qC ?_ | refine qD ?_ _ | refine qE ?_ _ (by simp<;>omega) _))))
 clear hW1
 go_wp2_with fail
 refine (cc W W1 HB.out HB1.out).mono ?_
 rintro e W2 hx
 obtain ⟨a,nn,c2,rfl,hx2,-⟩:=hx.form
 have HX:=zH (show NewVs w l (.returned (.slice a nn c2)) W2 from Fresh.base hx2 HBW.out)
 clear hx hx2 cc cm
 go_wp2
 go_ret
 exact HX.out
end
section
open Go.RowKit
structure ORel (hp:Nat) (h:Hp) (H:Foot) (bh bc:Nat) (c:V) (W:World):Prop where
 r:HR W hp h H
 bh:W.heap[bh]?=some (.cells #[.pointer (some ⟨hp,0,none⟩)] 41 (0,0))
 bc:W.heap[bc]?=some (.cells c.ca 23 (0,0))
theorem ORel.bl {hp:Nat} {h:Hp} {H:Foot} {bh bc:Nat} {c:V} {W W':World} (p:ORel hp h H bh bc c W) (hb:Bl W W'):ORel hp h H bh bc c W' :=
 ⟨p.r.bl hb,(hb.at (zN p.bh).1).trans p.bh,(hb.at (zN p.bc).1).trans p.bc⟩
set_option maxRecDepth 100000 in
set_option maxHeartbeats 8000000 in
theorem order_seqR (hp:Nat) (h:Hp) (H:Foot) (bh bc:Nat) (c:V) (hfew:(h.items c).length≤1048576):SeqOfR Tryz.prog 435 #[.pointer (some ⟨bh,0,none⟩),.pointer (some ⟨bc,0,none⟩)] (valArgs (h.orderO c)) (ORel hp h H bh bc c):=by
 rintro l J Y sJ sY ltJ hR hY F W hJ
 have hP:=hR 0 F W hJ
 have HR:=zH hR
 have HJ:=zH hJ
 have HSJ:=zH sJ
 have HLT:=zH ltJ
 have HY:=zH hY
 have HP:=zH hP
 have ci:∀ W',Bl W W'→_:=fun W' hb=>isClass_any W' hp h H (hP.r.bl hb) c
 obtain ⟨b0,b1,b2,-⟩:=(Bl.refl W).three hP.bc
 have bh0:W.cell? ⟨bh,0,none⟩=some (.pointer (some ⟨hp,0,none⟩)):=by rw [cell_of hP.bh];rfl
 clear hJ sJ ltJ hY sY hP hR
 unfold Hp.orderO at HY HJ ⊢
 cases hc:h.isClass c with
 | false =>
  rw [hc] at ci HY
  simp only [Bool.false_eq_true,if_false] at HY ⊢
  refine callsIn_of_wp Tryz.func435 rfl trivial ?_ rfl
  simp only [Tryz.ntmps435,zS,Nat.reduceAdd,Nat.reduceSub]
  gi_wp2_with (refine ⟨trivial,?_⟩;gi_at_call 219;refine (callsIn_wide.2 (ci _ (by (repeat (first | exact qA _ | assumption | refine qB ?_ _ | refine qC ?_ | refine qD ?_ _ | refine qE ?_ _ (by simp<;>omega) _))))).mono ?_;rintro e W1 ⟨rfl,hb1⟩)
  refine ⟨trivial,?_⟩
  gi_wp2
  refine ⟨fun _ h=>(by cases h),?_⟩
  gi_wp2
  refine bodyPost_ret (results_none rfl _ _ _) rfl ?_
  exact ⟨⟨_,rfl⟩,F,Step.of_bl (Bl.trans (by (repeat (first | exact qA _ | assumption | refine qB ?_ _ | refine qC ?_ | refine qD ?_ _ | refine qE ?_ _ (by simp<;>omega) _))) hb1) (HLT.out 0 F W HJ.out),.inl (HSJ.out 0 F W W1 HJ.out (Keep.of_bl (Bl.trans (by (repeat (first | exact qA _ | assumption | refine qB ?_ _ | refine qC ?_ | refine qD ?_ _ | refine qE ?_ _ (by simp<;>omega) _))) hb1) (HLT.out 0 F W HJ.out)))⟩
 | true =>
  rw [hc] at ci HY
  simp only [if_true] at HY ⊢
  refine callsIn_of_wp Tryz.func435 rfl trivial ?_ rfl
  simp only [Tryz.ntmps435,zS,Nat.reduceAdd,Nat.reduceSub]
  gi_wp2_with (first | (refine ⟨trivial,?_⟩;gi_at_call 219;refine (callsIn_wide.2 (ci _ (by (repeat (first | exact qA _ | assumption | refine qB ?_ _ | refine qC ?_ | refine qD ?_ _ | refine qE ?_ _ (by simp<;>omega) _))))).mono ?_;rintro e W1 ⟨rfl,hb1⟩;have e0:=hb1.sm b0;have e1:=hb1.sm b1;have e2:=hb1.sm b2;have eh:=hb1.sm bh0) | (refine ⟨trivial,?_⟩;gi_at_call 220;refine (callsIn_wide.2 (ref_any _ c)).mono ?_;rintro e W2 ⟨rfl,hb2⟩))
  have hBW:Bl W W2:=(Bl.trans (by (repeat (first | exact qA _ | assumption | refine qB ?_ _ | refine qC ?_ | refine qD ?_ _ | refine qE ?_ _ (by simp<;>omega) _))) hb1).trans hb2
  have hJ2:=HSJ.out 0 F W W2 HJ.out (Keep.of_bl hBW (HLT.out 0 F W HJ.out))
  have hst2:Step W.heap.size F W W2 F:=Step.of_bl hBW (HLT.out 0 F W HJ.out)
  have hx0:(valArgs (vref c.n :: ((h.items c).filter fun x=>h.isClass x).map fun x=>vref x.n))[0]?=some #[(vref c.n).agg]:=rfl
  obtain ⟨fn,tmps,assign,body,hyy,hRd⟩:=HY.out 0 _ F W2 hx0 hJ2
  have HST2:=zH (And.intro hst2 (HP.out.bl hBW))
  clear hBW hJ2 hst2 hx0 hb1 hb2 ci
  rw [hyy]
  gi_wp2
  refine hRd.mono ?_
  rintro e W3 ⟨F3,hst3,(⟨rfl,hJ3⟩ | ⟨rfl,hY3⟩)⟩
  ·have hP3:=HR.out _ F3 W3 hJ3
   have hS3:=HST2.out.1.call HST2.out.1.size hst3
   have cit:=items_any W3 hp h H hP3.r c
   obtain ⟨f0,f1,f2,-⟩:=(Bl.refl W3).three hP3.bc
   have fh:W3.cell? ⟨bh,0,none⟩=some (.pointer (some ⟨hp,0,none⟩)):=by rw [cell_of hP3.bh];rfl
   have HP3:=zH (And.intro hP3 (And.intro hS3 hJ3))
   have hlt3:=HLT.out _ F3 W3 hJ3
   obtain ⟨its,hits⟩:∃ its,its=h.items c:=⟨_,rfl⟩
   obtain ⟨n,hn⟩:∃ n,n=its.length:=⟨_,rfl⟩
   rw [← hits] at cit hfew
   rw [← hn] at hfew
   have HN:=zH (And.intro hn hits)
   clear hP3 hS3 hJ3 hst3 hn hits
   gi_wp2_with (refine ⟨trivial,?_⟩;gi_at_call 142;refine (callsIn_wide.2 cit).mono ?_;rintro e W4 hx;obtain ⟨xa,xc,he4,hx4,hb4⟩:=hx.form2;rw [← HN.out.1] at he4 hx4;subst he4)
   have hvx4:Vx F3 W4 (.slice xa n xc) its:=hx4.vx hlt3
   have hfr:∀ b o n' c',Value.slice xa n xc=.slice (some ⟨b,o,none⟩) n' c'→¬ H b:=fun b o n' c' e hb=>by have h1:=hx4.fresh b o n' c' e;have h2:=HP3.out.1.r.lt b hb;omega
   have HL:=zH (show Step W.heap.size F W W4 F3∧J (1 + ((its.take 0).filter fun x=>h.isClass x).length) F3 W4∧ORel hp h H bh bc c W4∧Vx F3 W4 (.slice xa n xc) its from ⟨HP3.out.2.1.bl hb4 HP3.out.2.1.size,by simpa using HSJ.out _ F3 W3 W4 HP3.out.2.2 (Keep.of_bl hb4 hlt3),HP3.out.1.bl hb4,hvx4⟩)
   have HXA:=zH (show 0 < n→∃ b o,xa=some ⟨b,o,none⟩ from fun hpos=>by
    rcases hvx4.vs with ⟨e,-⟩ | ⟨b,o,c',e,-⟩
    ·injection e with _ e2 _;omega
    ·injection e with e1 _ _;exact ⟨b,o,e1⟩)
   clear hx4 hb4 hvx4 hfr hlt3 cit hyy hRd f0 f1 f2 fh b0 b1 b2 bh0 e0 e1 e2 eh hx
   gi_loopw [5,21] (fun _ v21 wr=>∃ (k:Nat) (F':Foot),k≤n∧v21=.int .i64 k∧Step W.heap.size F W wr F'∧J (1 + ((its.take k).filter fun x=>h.isClass x).length) F' wr∧ORel hp h H bh bc c wr∧Vx F' wr (.slice xa n xc) its) (fun _ v21 _=>n - (intOf v21).toNat)
   case atStart=>exact ⟨0,F3,Nat.zero_le _,rfl,HL.out⟩
   case round =>
    obtain ⟨k,F',hk,rfl,hst,hJ,hP,hvx⟩:=hrel
    by_cases hlt:k < n
    ·obtain ⟨bb,oo,rfl⟩:=HXA.out (by omega)
     obtain ⟨x,hx⟩:∃ x,its[k]?=some x:=⟨_,List.getElem?_eq_getElem (by rw [← HN.out.1];exact hlt)⟩
     have hcells:∀ t u,t < 3→x.cs[t]?=some u→wr.cell? ⟨bb,oo + (k * 3 + t),none⟩=some u:=fun t u ht hu=>by
      rcases hvx.vs with ⟨e1,-⟩ | ⟨b',o',c',e1,-,-,-,hcell⟩
      ·cases e1
      ·cases e1
       exact hcell _ u ((vcs_at ht hx).trans hu)
     have y0:wr.cell? ⟨bb,oo + k * 3,none⟩=some (.int .i64 x.k):=hcells 0 _ (by decide) rfl
     have y1:wr.cell? ⟨bb,oo + k * 3 + 1,none⟩=some (.int .i64 x.n):=hcells 1 _ (by decide) rfl
     have y2:wr.cell? ⟨bb,oo + k * 3 + 2,none⟩=some (.string (bs x.s)):=hcells 2 _ (by decide) rfl
     have gh:wr.cell? ⟨bh,0,none⟩=some (.pointer (some ⟨hp,0,none⟩)):=by rw [cell_of hP.bh];rfl
     have ghl:bh < wr.heap.size:=(zN hP.bh).1
     have ghn:¬ bh=wr.heap.size:=Nat.ne_of_lt ghl
     have ci:∀ W',Bl wr W'→_:=fun W' hb=>isClass_any W' hp h H (hP.r.bl hb) x
     have hsn:=filter_snoc (p:=fun x=>h.isClass x) hx
     have HS:=zH (And.intro hst (And.intro hJ (And.intro hP hvx)))
     have HX2:=zH hx
     have hltF:=HLT.out _ F' wr hJ
     have HLF:=zH hltF
     cases hcx:h.isClass x with
     | false =>
      rw [hcx] at ci
      have HSN:=zH (show ((its.take (k + 1)).filter fun x=>h.isClass x).length=((its.take k).filter fun x=>h.isClass x).length by rw [hsn,hcx];rfl)
      clear hst hJ hP hvx hx hcells hsn hltF hcx
      gi_wp2_with (refine ⟨trivial,?_⟩;gi_at_call 219;refine (callsIn_wide.2 (ci _ (by (repeat (first | exact qA _ | assumption | refine qB ?_ _ | refine qC ?_ | refine qD ?_ _ | refine qE ?_ _ (by simp<;>omega) _))))).mono ?_;rintro e W5 ⟨rfl,hb5⟩)
      refine ⟨trivial,?_⟩
      gi_wp2
      refine ⟨fun _ h=>(by cases h),?_⟩
      have hB5:Bl wr W5:=Bl.trans (by (repeat (first | exact qA _ | assumption | refine qB ?_ _ | refine qC ?_ | refine qD ?_ _ | refine qE ?_ _ (by simp<;>omega) _))) hb5
      have HREL:=zH (show Step W.heap.size F W W5 F'∧J (1 + ((its.take (k + 1)).filter fun x=>h.isClass x).length) F' W5∧ORel hp h H bh bc c W5∧Vx F' W5 (.slice (some ⟨bb,oo,none⟩) n xc) its from ⟨HS.out.1.bl hB5 HS.out.1.size,by rw [HSN.out];exact HSJ.out _ F' wr W5 HS.out.2.1 (Keep.of_bl hB5 HLF.out),HS.out.2.2.1.bl hB5,HS.out.2.2.2.bl hB5⟩)
      clear hb5 hB5
      gi_wp2
      go_roundw
      case rel=>exact ⟨k + 1,F',by omega,by go_num,HREL.out⟩
      case measure=>simp [intOf];omega
     | true =>
      rw [hcx] at ci
      have HSN:=zH (show ((its.take (k + 1)).filter fun x=>h.isClass x).length=((its.take k).filter fun x=>h.isClass x).length + 1 by rw [hsn,hcx];rfl)
      have HCX:=zH hcx
      clear hst hJ hP hvx hx hcells hsn hltF hcx
      gi_wp2_with (first | (refine ⟨trivial,?_⟩;gi_at_call 219;refine (callsIn_wide.2 (ci _ (by (repeat (first | exact qA _ | assumption | refine qB ?_ _ | refine qC ?_ | refine qD ?_ _ | refine qE ?_ _ (by simp<;>omega) _))))).mono ?_;rintro e W5 ⟨rfl,hb5⟩;obtain ⟨e0,e1,e2,-⟩:=hb5.three (MapKept.heap_alloc wr (.cells x.ca 23)).1) | (refine ⟨trivial,?_⟩;gi_at_call 220;refine (callsIn_wide.2 (ref_any _ x)).mono ?_;rintro e W6 ⟨rfl,hb6⟩))
      have hB6:Bl wr W6:=(Bl.trans (by (repeat (first | exact qA _ | assumption | refine qB ?_ _ | refine qC ?_ | refine qD ?_ _ | refine qE ?_ _ (by simp<;>omega) _))) hb5).trans hb6
      have hx0:(valArgs (vref c.n :: ((h.items c).filter fun x=>h.isClass x).map fun x=>vref x.n))[1 + ((its.take k).filter fun x=>h.isClass x).length]?=some #[(vref x.n).agg]:=by
       unfold valArgs
       rw [List.getElem?_map,Nat.add_comm,List.getElem?_cons_succ,List.getElem?_map,← HN.out.2,filter_at HX2.out HCX.out];rfl
      obtain ⟨fn,tmps,assign,body,hyy,hRd⟩:=HY.out _ _ F' W6 hx0 (HSJ.out _ F' wr W6 HS.out.2.1 (Keep.of_bl hB6 HLF.out))
      have HST6:=zH (show Step W.heap.size F W W6 F'∧ORel hp h H bh bc c W6∧Vx F' W6 (.slice (some ⟨bb,oo,none⟩) n xc) its from ⟨HS.out.1.bl hB6 HS.out.1.size,HS.out.2.2.1.bl hB6,HS.out.2.2.2.bl hB6⟩)
      clear hB6 hx0 hb5 hb6 ci
      rw [hyy]
      gi_wp2
      refine hRd.mono ?_
      rintro e W7 ⟨F7,hst7,(⟨rfl,hJ7⟩ | ⟨rfl,hY7⟩)⟩
      ·have HJ7:=zH hJ7
       have HREL:=zH (show Step W.heap.size F W W7 F7∧J (1 + ((its.take (k + 1)).filter fun x=>h.isClass x).length) F7 W7∧ORel hp h H bh bc c W7∧Vx F7 W7 (.slice (some ⟨bb,oo,none⟩) n xc) its from ⟨HST6.out.1.call HST6.out.1.size hst7,by rw [HSN.out,← Nat.add_assoc];exact hJ7,HR.out _ F7 W7 HJ7.out,HST6.out.2.2.step hst7⟩)
       clear hst7 hJ7
       gi_wp2
       go_roundw
       case rel=>exact ⟨k + 1,F7,by omega,by go_num,HREL.out⟩
       case measure=>simp [intOf];omega
      ·have HREL:=zH (show Step W.heap.size F W W7 F7∧Y F7 W7 from ⟨HST6.out.1.call HST6.out.1.size hst7,hY7⟩)
       clear hst7 hY7
       gi_wp2
       refine bodyPost_ret (results_none rfl _ _ _) rfl ?_
       exact ⟨⟨_,rfl⟩,F7,HREL.out.1,.inr HREL.out.2⟩
    ·obtain rfl:k=n:=by omega
     have HREL:=zH (show Step W.heap.size F W wr F'∧J (valArgs (vref c.n :: ((h.items c).filter fun x=>h.isClass x).map fun x=>vref x.n)).length F' wr from ⟨hst,by
      rw [HN.out.1,List.take_length] at hJ
      unfold valArgs
      rw [List.length_map,List.length_cons,List.length_map,← HN.out.2,Nat.add_comm];exact hJ⟩)
     clear hst hJ hP hvx
     gi_wp2
     go_end0
     exact ⟨⟨_,rfl⟩,F',HREL.out.1,.inl HREL.out.2⟩
  ·have HREL:=zH (show Step W.heap.size F W W3 F3∧Y F3 W3 from ⟨HST2.out.1.call HST2.out.1.size hst3,hY3⟩)
   clear hst3 hY3
   gi_wp2
   refine bodyPost_ret (results_none rfl _ _ _) rfl ?_
   exact ⟨⟨_,rfl⟩,F3,HREL.out.1,.inr HREL.out.2⟩
end
section
open Go.RowKit Go.Shelf
attribute [local go_sem] Oper.semAt_some
theorem al_at {w:World} {n:Nat} (hn:n=w.heap.size) (o:Obj):(w.alloc o).heap[n]?=some o:=by rw [hn];exact World.alloc_heap_new w o
theorem al_old {w:World} {b:Nat} {x:Obj} (h:w.heap[b]?=some x) (o:Obj):(w.alloc o).heap[b]?=some x:=(Below.heap_alloc _ _ _ (zN h).1).trans h
theorem orderO_refs {h:Hp} {c x:V} (hx:x∈h.orderO c):∃ m,x=vref m:=by
 unfold Hp.orderO at hx
 split at hx
 ·rcases List.mem_cons.1 hx with rfl | hx
  ·exact ⟨_,rfl⟩
  ·obtain ⟨y,-,rfl⟩:=List.mem_map.1 hx
   exact ⟨_,rfl⟩
 ·cases hx
def hitO (t:Bool) (m:Int) (l:List V):Bool:=l.any fun x=>t && decide (x=vref m)
def Hp.subO (h:Hp) (c b:V):Bool:=hitO (h.isClass b) b.n (h.orderO c)
def Seek (W0:World) (F:Foot) (W:World):Prop:=Bl W0 W∧(∀ b,b < W0.heap.size→F b)∧(∀ b,F b→b < W.heap.size)
theorem Seek.keep {W0 W W':World} {F:Foot} (s:Seek W0 F W) (hk:Keep F W W'):Seek W0 F W' :=
 ⟨⟨hk.os.trans s.1.os,hk.tape.trans s.1.tape,hk.output.trans s.1.output,Nat.le_trans s.1.sz hk.size,fun b hb=>(hk.block b (s.2.1 b hb)).trans (s.1.at hb)⟩,s.2.1,fun b hb=>Nat.lt_of_lt_of_le (s.2.2 b hb) hk.size⟩
theorem subO_end {w U:World} {v:Bool} {D:Nat} (hb:Bl w U) (hx:U.heap[w.heap.size + 3]?=some (.cells #[.bool v] 4 (0,0))) (hD:w.heap.size + 3 < D) (o:Obj) :
  (U.putObj D o).cell? ⟨w.heap.size + 1 + 1 + 1,0,none⟩=some (.bool v)∧Bl w (U.putObj D o) :=
 ⟨by rw [cell_of ((World.putObj_heap_other (by omega)).trans hx)];rfl,⟨hb.os,hb.tape,hb.output,by rw [putObj_size];exact hb.sz,fun b hb2=>(World.putObj_heap_other (by omega)).trans (hb.at hb2)⟩⟩
def SubI (W0:World) (t:Bool) (m:Int) (l:List V) (k:Nat) (F:Foot) (V':World):Prop:=Seek W0 F V'∧hitO t m (l.take k)=false
def SubX (w W0:World) (t:Bool) (m:Int) (l:List V) (c:Code) (F:Foot) (V':World):Prop :=
 c=.ret∧hitO t m l=true∧V'.heap[w.heap.size + 3]?=some (.cells #[.bool true] 4 (0,0))∧Bl w V'∧(∀ b,b < W0.heap.size→F b)∧(∀ b,F b→b < V'.heap.size)
set_option maxRecDepth 100000 in
set_option maxHeartbeats 8000000 in
theorem subO_any (w:World) (hp:Nat) (h:Hp) (F:Foot) (r:HR w hp h F) (cl bs':V) :
  Calls Tryz.prog 299 #[.pointer (some ⟨hp,0,none⟩),cl.agg,bs'.agg] w fun e w'=>e=.returned (.bool (h.subO cl bs'))∧Bl w w':=by
 obtain ⟨l,hl⟩:∃ l,l=h.orderO cl:=⟨_,rfl⟩
 have hseq:=fun bh bc=>order_seqR hp h F bh bc cl (r.few cl)
 have ci:∀ W,Bl w W→_:=fun W hb=>isClass_any W hp h F (r.bl hb) bs'
 have HRR:=zH r
 have HLR:=zH (show ∀ x∈l,∃ m,x=vref m from fun x hx=>orderO_refs (by rw [← hl];exact hx))
 unfold Hp.subO
 rw [← hl] at hseq ⊢
 generalize h.isClass bs'=t at ci ⊢
 have HCI:=zH ci
 have HSQ:=zH hseq
 clear hseq hl ci r
 refine (callsIn_wide (n:=3)).1 ?_
 refine callsIn_of_wp_marks Tryz.func299 rfl trivial ?_ rfl
 simp only [Tryz.ntmps299,zS,Nat.reduceAdd,Nat.reduceSub]
 gi_wp2_with (refine ⟨trivial,?_⟩;gi_at_call 358;refine named (p:=fun W=>CallsIn _ _ _ _ _ W _) (fun W hW=>?_);refine (callsIn_wide.2 (order_mk W hp cl)).mono ?_;rintro e W0 ⟨rfl,hW0⟩;have HWW:=zH (And.intro hW hW0);clear hW hW0)
 obtain ⟨hW,hW0⟩:=HWW.out
 have hbw:Bl w W:=by rw [hW];(repeat (first | exact qA _ | assumption | refine qB ?_ _ | refine qC ?_ | refine qD ?_ _ | refine qE ?_ _ (by simp<;>omega) _))
 have hsz:W.heap.size=w.heap.size + 4:=by rw [hW];simp [zL]
 have bx0:W.heap[w.heap.size]?=some (.cells #[.pointer (some ⟨hp,0,none⟩)] 41 (0,0)):=by rw [hW];exact al_old (al_old (al_old (al_at rfl _) _) _) _
 have bx2:W.heap[w.heap.size + 2]?=some (.cells bs'.ca 23 (0,0)):=by rw [hW];exact al_old (al_at (by simp [zL]) _) _
 have bx3:W.heap[w.heap.size + 3]?=some (.cells #[.bool false] 4 (0,0)):=by rw [hW];exact al_at (by simp [zL]) _
 have hb0:Bl W W0:=by rw [hW0];(repeat (first | exact qA _ | assumption | refine qB ?_ _ | refine qC ?_ | refine qD ?_ _ | refine qE ?_ _ (by simp<;>omega) _))
 have hs0:W0.heap.size=W.heap.size + 2:=by rw [hW0];simp [zL]
 have hrel0:ORel hp h F (W.heap.size) ((W.heap.size + 1)) cl W0:=⟨HRR.out.bl (hbw.trans hb0),by rw [hW0];exact al_old (al_at rfl _) _,by rw [hW0];exact al_at (by simp [zL]) _⟩
 have HREL0:=zH hrel0
 have HB0:=zH (show Bl w W0∧W0.heap.size=w.heap.size + 6∧W0.heap[w.heap.size]?=some (.cells #[.pointer (some ⟨hp,0,none⟩)] 41 (0,0))∧W0.heap[w.heap.size + 2]?=some (.cells bs'.ca 23 (0,0))∧W0.heap[w.heap.size + 3]?=some (.cells #[.bool false] 4 (0,0)) from ⟨hbw.trans hb0,by omega,(hb0.at (by omega)).trans bx0,(hb0.at (by omega)).trans bx2,(hb0.at (by omega)).trans bx3⟩)
 have hsq:=HSQ.out (W.heap.size) ((W.heap.size + 1))
 clear hW hW0 hbw hsz bx0 bx2 bx3 hb0 hs0 hrel0 HSQ HWW
 generalize hwb:W.heap.size=wb at *
 clear hwb W
 gi_wp2
 refine range_fnR (gf:=435) (lb:=#[.pointer (some ⟨wb,0,none⟩),.pointer (some ⟨wb + 1,0,none⟩)]) rfl (enters_of Tryz.func435 (by kernel_rfl) rfl) hsq ?_
  (SubI W0 t bs'.n l)
  (SubX w W0 t bs'.n l)
  ?stI ?stX ?ltI ?hR (fun b=>b < W0.heap.size) ?h0 ?hround ?hdone ?hstop
 ·intro x hx
  obtain ⟨p,-,rfl⟩:=List.mem_map.1 hx
  rfl
 case stI=>rintro k F' A B ⟨h1,h2⟩ hk;exact ⟨h1.keep hk,h2⟩
 case stX =>
  rintro c F' A B ⟨rfl,h2,h3,h4,h5,h6⟩ hk
  refine ⟨rfl,h2,(hk.block _ (h5 _ (by have:=HB0.out.2.1;omega))).trans h3,⟨hk.os.trans h4.os,hk.tape.trans h4.tape,hk.output.trans h4.output,Nat.le_trans h4.sz hk.size,fun b hb=>(hk.block b (h5 b (by have:=HB0.out.2.1;omega))).trans (h4.at hb)⟩,h5,fun b hb=>Nat.lt_of_lt_of_le (h6 b hb) hk.size⟩
 case ltI=>rintro k F' A ⟨h1,h2⟩;exact h1.2.2
 case hR=>rintro k F' A ⟨h1,h2⟩;exact HREL0.out.bl h1.1
 case h0=>exact ⟨⟨Bl.refl _,fun b hb=>hb,fun b hb=>hb⟩,by simp [hitO]⟩
 case hround =>
  rintro lp k x F' A K hx ⟨hse,hno⟩ hnl hll hK
  obtain ⟨p,hp2,rfl⟩:∃ p,l[k]?=some p∧x=#[p.agg]:=by
   unfold valArgs at hx
   rw [List.getElem?_map] at hx
   cases hp:l[k]? with
   | none=>rw [hp] at hx;cases hx
   | some p=>rw [hp] at hx;injection hx with hx;exact ⟨p,rfl,hx.symm⟩
  obtain ⟨m,rfl⟩:=HLR.out p (List.mem_of_getElem? hp2)
  have HK:=zH hK
  have HS:=zH (And.intro hse (And.intro hno hp2))
  have HNL:=zH hnl
  clear hK hx hse hno hp2 hnl
  gi_wp2
  refine HK.out _ _ (by (repeat (first | exact qA _ | assumption | refine qB ?_ _ | refine qC ?_ | refine qD ?_ _ | refine qE ?_ _ (by simp<;>omega) _))) ?_
  intro Wb hWb hsb hos htp hou
  rw [zL] at hsb
  have hWl:A.heap.size≠lp:=by omega
  have hold:∀ b,b < W0.heap.size→Wb.heap[b]?=W0.heap[b]?:=fun b hb=>by
   have hf:=HS.out.1.2.1 b hb
   rw [hWb b (fun e=>HNL.out (by rw [← e];exact hf)),Below.heap_alloc _ _ _ (HS.out.1.2.2 b hf)]
   exact HS.out.1.1.at hb
  have hbl:Bl W0 Wb:=⟨hos.trans HS.out.1.1.os,htp.trans HS.out.1.1.tape,hou.trans HS.out.1.1.output,by have:=HS.out.1.1.sz;omega,fun b hb=>hold b hb⟩
  have hpb:Wb.heap[A.heap.size]?=some (.cells (vref m).ca 23 (0,0)):=by
   rw [hWb _ hWl];exact (MapKept.heap_alloc A (.cells (vref m).ca 23 (0,0))).1
  have d0:Wb.cell? ⟨w.heap.size,0,none⟩=some (.pointer (some ⟨hp,0,none⟩)):=by rw [cell_of ((hold _ (by have:=HB0.out.2.1;omega)).trans HB0.out.2.2.1)];rfl
  obtain ⟨g0,g1,g2,gf⟩:=(Bl.refl Wb).three ((hold _ (by have:=HB0.out.2.1;omega)).trans HB0.out.2.2.2.1)
  obtain ⟨p0,p1,p2,pf⟩:=(Bl.refl Wb).three hpb
  have HBL:=zH hbl
  have HBX:=zH ((hold _ (by have:=HB0.out.2.1;omega)).trans HB0.out.2.2.2.2)
  have hAb:A.heap.size < Wb.heap.size:=by omega
  have hFb:∀ b,F' b→b < Wb.heap.size:=fun b hb=>by have:=HS.out.1.2.2 b hb;omega
  have HFB:=zH (And.intro hFb hAb)
  clear hWb hold hbl hpb hos htp hou hsb hFb
  cases t with
  | false =>
   gi_wp2_with fail
   gi_region_with (first | (refine ⟨trivial,?_⟩;gi_at_call 219;refine ((callsIn_wide.2 (HCI.out _ (HB0.out.1.trans (HBL.out.trans (by (repeat (first | exact qA _ | assumption | refine qB ?_ _ | refine qC ?_ | refine qD ?_ _ | refine qE ?_ _ (by simp<;>omega) _))))))).inRound lp).mono ?_;rintro e W5 ⟨rfl,hb5⟩) | refine ⟨trivial,?_⟩)
   all_goals
    have hB5:Bl Wb W5:=Bl.trans (by (repeat (first | exact qA _ | assumption | refine qB ?_ _ | refine qC ?_ | refine qD ?_ _ | refine qE ?_ _ (by simp<;>omega) _))) hb5
    have HREL:=zH (show ∃ F'',Step Wb.heap.size F' Wb W5 F''∧SubI W0 false bs'.n l (k + 1) F'' W5 from ⟨F',Step.of_bl hB5 HFB.out.1,⟨HBL.out.trans hB5,HS.out.1.2.1,fun b hb=>Nat.lt_of_lt_of_le (HFB.out.1 b hb) hB5.sz⟩,by simp [hitO]⟩)
    clear hb5 hB5
    gi_wp2
    exact HREL.out
  | true =>
   by_cases hm:m=bs'.n
   ·subst hm
    gi_wp2_with fail
    gi_region_with (first | (refine ⟨trivial,?_⟩;gi_at_call 219;refine ((callsIn_wide.2 (HCI.out _ (HB0.out.1.trans (HBL.out.trans (by (repeat (first | exact qA _ | assumption | refine qB ?_ _ | refine qC ?_ | refine qD ?_ _ | refine qE ?_ _ (by simp<;>omega) _))))))).inRound lp).mono ?_;rintro e W5 ⟨rfl,hb5⟩;have hB5:Bl Wb W5:=Bl.trans (by (repeat (first | exact qA _ | assumption | refine qB ?_ _ | refine qC ?_ | refine qD ?_ _ | refine qE ?_ _ (by simp<;>omega) _))) hb5;clear hb5;have x0:=hB5.sm p0;have x1:=hB5.sm p1;have x2:=hB5.sm p2;have y0:=hB5.sm g0;have y1:=hB5.sm g1;have y2:=hB5.sm g2) | (refine ⟨trivial,?_⟩;gi_at_call 220;refine ((callsIn_wide.2 (ref_any _ bs')).inRound lp).mono ?_;rintro e W6 ⟨rfl,hb6⟩;have hB6:Bl Wb W6:=hB5.trans (Bl.trans (by (repeat (first | exact qA _ | assumption | refine qB ?_ _ | refine qC ?_ | refine qD ?_ _ | refine qE ?_ _ (by simp<;>omega) _))) hb6);clear hb6;have z0:=hB6.sm p0;have z1:=hB6.sm p1;have z2:=hB6.sm p2))
    all_goals
     have hbx6:=(hB6.at (by have:=HB0.out.2.1;have:=HFB.out.2;have:=HBL.out.sz;omega)).trans HBX.out
     have q0:W6.cell? ⟨w.heap.size + 1 + 1 + 1,0,none⟩=some (.bool false):=by rw [cell_of hbx6];rfl
     have qf:W6.frozen? ⟨w.heap.size + 1 + 1 + 1,0,none⟩=false:=by simp [World.frozen?,hbx6]
     have HRET:=zH (show ∃ F'',Step Wb.heap.size F' Wb (W6.setCell ⟨w.heap.size + 1 + 1 + 1,0,none⟩ (.bool true)) F''∧SubX w W0 true bs'.n l .ret F'' (W6.setCell ⟨w.heap.size + 1 + 1 + 1,0,none⟩ (.bool true)) from
      ⟨F',(Step.of_bl hB6 HFB.out.1).setCell (.inr (show F' (w.heap.size + 3) from HS.out.1.2.1 _ (by have:=HB0.out.2.1;omega))) _,rfl,List.any_eq_true.2 ⟨_,List.mem_of_getElem? HS.out.2.2,by simp⟩,by rw [heap_setCell_same W6 (w.heap.size + 3) 0 _ _ _ hbx6];rfl,Bl.set' (HB0.out.1.trans (HBL.out.trans hB6)) _ (by simp<;>omega) _,HS.out.1.2.1,fun b hb=>by rw [World.size_setCell];exact Nat.lt_of_lt_of_le (HFB.out.1 b hb) hB6.sz⟩)
     clear hbx6 hB6 hB5
     gi_wp2
     exact HRET.out
   ·have hm0:(m == bs'.n)=false:=by simpa using hm
    have hm1:decide (m=bs'.n)=false:=by simpa using hm
    gi_wp2_with fail
    gi_region_with (first | (refine ⟨trivial,?_⟩;gi_at_call 219;refine ((callsIn_wide.2 (HCI.out _ (HB0.out.1.trans (HBL.out.trans (by (repeat (first | exact qA _ | assumption | refine qB ?_ _ | refine qC ?_ | refine qD ?_ _ | refine qE ?_ _ (by simp<;>omega) _))))))).inRound lp).mono ?_;rintro e W5 ⟨rfl,hb5⟩;have hB5:Bl Wb W5:=Bl.trans (by (repeat (first | exact qA _ | assumption | refine qB ?_ _ | refine qC ?_ | refine qD ?_ _ | refine qE ?_ _ (by simp<;>omega) _))) hb5;clear hb5;have x0:=hB5.sm p0;have x1:=hB5.sm p1;have x2:=hB5.sm p2;have y0:=hB5.sm g0;have y1:=hB5.sm g1;have y2:=hB5.sm g2) | (refine ⟨trivial,?_⟩;gi_at_call 220;refine ((callsIn_wide.2 (ref_any _ bs')).inRound lp).mono ?_;rintro e W6 ⟨rfl,hb6⟩;have hB6:Bl Wb W6:=hB5.trans (Bl.trans (by (repeat (first | exact qA _ | assumption | refine qB ?_ _ | refine qC ?_ | refine qD ?_ _ | refine qE ?_ _ (by simp<;>omega) _))) hb6);clear hb6;have z0:=hB6.sm p0;have z1:=hB6.sm p1;have z2:=hB6.sm p2))
    all_goals
     have HREL:=zH (show ∃ F'',Step Wb.heap.size F' Wb W6 F''∧SubI W0 true bs'.n l (k + 1) F'' W6 from ⟨F',Step.of_bl hB6 HFB.out.1,⟨HBL.out.trans hB6,HS.out.1.2.1,fun b hb=>Nat.lt_of_lt_of_le (HFB.out.1 b hb) hB6.sz⟩,by unfold hitO;rw [List.take_add_one,HS.out.2.2,List.any_append,show ((l.take k).any fun x=>true && decide (x=vref bs'.n))=false from HS.out.2.1];simp [V.mk.injEq,hm]⟩)
     clear hB6 hB5
     gi_wp2
     exact HREL.out
 case hdone =>
  rintro F' W' hst ⟨hse,hno⟩ hD hnD
  have hnA:hitO t bs'.n l=false:=by
   have e:(valArgs l).length=l.length:=by simp [valArgs]
   rw [e,List.take_length] at hno;exact hno
  have HNA:=zH hnA
  have hs0:=HB0.out.2.1
  have hbx:=(hse.1.at (by omega)).trans HB0.out.2.2.2.2
  have q0:W'.cell? ⟨w.heap.size + 1 + 1 + 1,0,none⟩=some (.bool false):=by rw [cell_of hbx];rfl
  have qf:W'.frozen? ⟨w.heap.size + 1 + 1 + 1,0,none⟩=false:=by simp [World.frozen?,hbx]
  obtain ⟨U,hU⟩:∃ U,U=W'.setCell ⟨w.heap.size + 1 + 1 + 1,0,none⟩ (.bool false):=⟨_,rfl⟩
  have HF:=zH (subO_end (w:=w) (U:=U) (v:=false) (D:=W0.heap.size) (by rw [hU];exact Bl.set' (HB0.out.1.trans hse.1) _ (by simp<;>omega) _) (by rw [hU,heap_setCell_same W' (w.heap.size + 3) 0 _ _ _ hbx];rfl) (by omega))
  have HDD:=zH (show U.heap[W0.heap.size]?=some (.deferred (some [])) from by rw [hU];exact (Below.heap_setCell _ _ _ _ (fun e=>by have e2:W0.heap.size=w.heap.size + 3:=e;omega)).trans hD)
  have HU:=zH hU
  clear hst hse hno hD hnD hbx hs0 hU hnA
  gi_wp2
  rw [← HU.out]
  refine ⟨by simp,.inl ⟨_,_,rfl,run_takeDeferred HDD.out,?_⟩⟩
  have s0:=(HF.out (.deferred none)).1
  refine ⟨_,by simp [results,Tryz.results299,go_sem,s0];rfl,?_⟩
  exact ⟨by rw [HNA.out],(HF.out _).2⟩
 case hstop =>
  rintro c F' W' hst ⟨rfl,hA,hbx,hb,h5,h6⟩ hD hnD
  have HNA:=zH hA
  have hs0:=HB0.out.2.1
  have HF:=zH (subO_end (w:=w) (U:=W') (v:=true) (D:=W0.heap.size) hb hbx (by omega))
  have HDD:=zH hD
  clear hst hA hbx hb h5 h6 hD hnD hs0
  gi_wp2
  refine ⟨by simp,.inl ⟨_,_,rfl,run_takeDeferred HDD.out,?_⟩⟩
  have s0:=(HF.out (.deferred none)).1
  refine ⟨_,by simp [results,Tryz.results299,go_sem,s0];rfl,?_⟩
  exact ⟨by rw [HNA.out],(HF.out _).2⟩
end
end Go.Proofs.YtbbokgpklihkoaaGreatDoor.W
