/- Find EvK Bld Bld2 EvW EvX -/
import Derived.Test.YtlbcbikplfocfaaGreatDoorPart19
import Derived.Sort.CutIn
import Derived.Test.YtlbcbikplfocfaaGreatDoorPart16
import Derived.Test.YtlbcbikplfocfaaGreatDoorPart18
import Derived.Test.YtlbcbikplfocfaaGreatDoorPart10
import Derived.Test.YtlbcbikplfocfaaGreatDoorPart14
import Derived.Shelf.RegionOpenPlain
import Derived.Lib.UnsafeStr
set_option linter.unusedVariables false
set_option linter.unusedSimpArgs false
namespace Go.Proofs.YtlbcbikplfocfaaGreatDoor.W
section
open Go.RowKit Go.Shelf
attribute [local go_sem] Oper.semAt_some
theorem set3 {w:World} {b:Nat} {x:V} {k n s:Value} (h:w.heap[b]?=some (.cells x.ca 27 (0,0))):(((w.setCell ⟨b,0,none⟩ k).setCell ⟨b,1,none⟩ n).setCell ⟨b,2,none⟩ s).heap[b]?=some (.cells #[k,n,s] 27 (0,0)):=by
 have h1:=heap_setCell_same w b 0 _ _ k h
 have h2:=heap_setCell_same _ b 1 _ _ n h1
 rw [heap_setCell_same _ b 2 _ _ s h2];rfl
def FindI (W0:World) (h:Hp) (s:List UInt8) (l:List V) (k:Nat) (F:Foot) (V':World):Prop:=Seek W0 F V'∧findL h s (l.take k)=(V.nil,false)
def FindX (w W0:World) (h:Hp) (s:List UInt8) (l:List V) (c:Code) (F:Foot) (V':World):Prop :=
 c=.ret∧∃ x,findL h s l=(x,true)∧V'.heap[w.heap.size + 3]?=some (.cells x.ca 27 (0,0))∧V'.heap[w.heap.size + 4]?=some (.cells #[.bool true] 4 (0,0))∧Bl w V'∧(∀ b,b < W0.heap.size→F b)∧(∀ b,F b→b < V'.heap.size)
theorem findO_end {w U:World} {x:V} {v:Bool} {D:Nat} (hb:Bl w U) (hx:U.heap[w.heap.size + 3]?=some (.cells x.ca 27 (0,0))) (hx4:U.heap[w.heap.size + 4]?=some (.cells #[.bool v] 4 (0,0))) (hD:w.heap.size + 4 < D) (o:Obj) :
  ((U.putObj D o).cell? ⟨w.heap.size + 1 + 1 + 1,0,none⟩=some (.int .i64 x.k)∧(U.putObj D o).cell? ⟨w.heap.size + 1 + 1 + 1,1,none⟩=some (.int .i64 x.n)∧(U.putObj D o).cell? ⟨w.heap.size + 1 + 1 + 1,2,none⟩=some (.string (bs x.s))∧(U.putObj D o).cell? ⟨w.heap.size + 1 + 1 + 1 + 1,0,none⟩=some (.bool v))∧Bl w (U.putObj D o):=by
 have e3:=(World.putObj_heap_other (o:=o) (show w.heap.size + 3≠D by omega)).trans hx
 have e4:=(World.putObj_heap_other (o:=o) (show w.heap.size + 4≠D by omega)).trans hx4
 exact ⟨⟨(cell_of e3).trans rfl,(cell_of e3).trans rfl,(cell_of e3).trans rfl,(cell_of e4).trans rfl⟩,⟨hb.os,hb.tape,hb.output,by rw [putObj_size];exact hb.sz,fun b hb2=>(World.putObj_heap_other (by omega)).trans (hb.at hb2)⟩⟩
set_option maxRecDepth 100000 in
set_option maxHeartbeats 8000000 in
theorem findO_any (w:World) (hp:Nat) (h:Hp) (F:Foot) (r:HR w hp h F) (cl:V) (nm:List UInt8) :
  Calls Tryz.prog 161 #[.pointer (some ⟨hp,0,none⟩),cl.agg,.string (bs nm)] w fun e w'=>e=.returned (.tuple #[(h.findO cl nm).1.agg,.bool (h.findO cl nm).2])∧Bl w w':=by
 obtain ⟨l,hl⟩:∃ l,l=h.orderO cl:=⟨_,rfl⟩
 have hseq:=fun bh bc=>order_seqR hp h F bh bc cl (r.few cl)
 have cg:∀ W c,Bl w W→_:=fun W c hb=>getH_any W hp h F (r.bl hb) c (vstr nm)
 have HRR:=zH r
 unfold Hp.findO
 rw [← hl] at hseq ⊢
 have HCG:=zH cg
 have HSQ:=zH hseq
 clear hseq hl cg r
 refine (callsIn_wide (n:=3)).1 ?_
 refine callsIn_of_wp_marks Tryz.func161 rfl trivial ?_ rfl
 simp only [Tryz.ntmps161,zS,Nat.reduceAdd,Nat.reduceSub]
 gi_wp2_with (refine ⟨trivial,?_⟩;gi_at_call 225;refine named (p:=fun W=>CallsIn _ _ _ _ _ W _) (fun W hW=>?_);refine (callsIn_wide.2 (order_mk W hp cl)).mono ?_;rintro e W0 ⟨rfl,hW0⟩;have HWW:=zH (And.intro hW hW0);clear hW hW0)
 obtain ⟨hW,hW0⟩:=HWW.out
 have hbw:Bl w W:=by rw [hW];(repeat (first | exact qA _ | assumption | refine qB ?_ _ | refine qC ?_ | refine qD ?_ _ | refine qE ?_ _ (by simp<;>omega) _))
 have hsz:W.heap.size=w.heap.size + 5:=by rw [hW];simp [zL]
 have bx0:W.heap[w.heap.size]?=some (.cells #[.pointer (some ⟨hp,0,none⟩)] 52 (0,0)):=by rw [hW];exact al_old (al_old (al_old (al_old (al_at rfl _) _) _) _) _
 have bx2:W.heap[w.heap.size + 2]?=some (.cells #[.string (bs nm)] 9 (0,0)):=by rw [hW];exact al_old (al_old (al_at (by simp [zL]) _) _) _
 have bx3:W.heap[w.heap.size + 3]?=some (.cells V.nil.ca 27 (0,0)):=by rw [hW];exact al_old (al_at (by simp [zL]) _) _
 have bx4:W.heap[w.heap.size + 4]?=some (.cells #[.bool false] 4 (0,0)):=by rw [hW];exact al_at (by simp [zL]) _
 have hb0:Bl W W0:=by rw [hW0];(repeat (first | exact qA _ | assumption | refine qB ?_ _ | refine qC ?_ | refine qD ?_ _ | refine qE ?_ _ (by simp<;>omega) _))
 have hs0:W0.heap.size=W.heap.size + 2:=by rw [hW0];simp [zL]
 have hrel0:ORel hp h F W.heap.size (W.heap.size + 1) cl W0:=⟨HRR.out.bl (hbw.trans hb0),by rw [hW0];exact al_old (al_at rfl _) _,by rw [hW0];exact al_at (by simp [zL]) _⟩
 have HREL0:=zH hrel0
 have HB0:=zH (show Bl w W0∧W0.heap.size=w.heap.size + 7∧W0.heap[w.heap.size]?=some (.cells #[.pointer (some ⟨hp,0,none⟩)] 52 (0,0))∧W0.heap[w.heap.size + 2]?=some (.cells #[.string (bs nm)] 9 (0,0))∧W0.heap[w.heap.size + 3]?=some (.cells V.nil.ca 27 (0,0))∧W0.heap[w.heap.size + 4]?=some (.cells #[.bool false] 4 (0,0)) from ⟨hbw.trans hb0,by omega,(hb0.at (by omega)).trans bx0,(hb0.at (by omega)).trans bx2,(hb0.at (by omega)).trans bx3,(hb0.at (by omega)).trans bx4⟩)
 have hsq:=HSQ.out W.heap.size (W.heap.size + 1)
 clear hW hW0 hbw hsz bx0 bx2 bx3 bx4 hb0 hs0 hrel0 HSQ HWW
 generalize hwb:W.heap.size=wb at *
 clear hwb W
 gi_wp2
 refine range_fnR (gf:=283) (lb:=#[.pointer (some ⟨wb,0,none⟩),.pointer (some ⟨wb + 1,0,none⟩)]) rfl (enters_of Tryz.func283 (by kernel_rfl) rfl) hsq ?_
  (FindI W0 h nm l) (FindX w W0 h nm l)
  ?stI ?stX ?ltI ?hR (fun b=>b < W0.heap.size) ?h0 ?hround ?hdone ?hstop
 ·intro x hx
  obtain ⟨p,-,rfl⟩:=List.mem_map.1 hx
  rfl
 case stI=>rintro k F' A B ⟨h1,h2⟩ hk;exact ⟨h1.keep hk,h2⟩
 case stX =>
  rintro c F' A B ⟨rfl,x,h2,h3,h3b,h4,h5,h6⟩ hk
  refine ⟨rfl,x,h2,(hk.block _ (h5 _ (by have:=HB0.out.2.1;omega))).trans h3,(hk.block _ (h5 _ (by have:=HB0.out.2.1;omega))).trans h3b,⟨hk.os.trans h4.os,hk.tape.trans h4.tape,hk.output.trans h4.output,Nat.le_trans h4.sz hk.size,fun b hb=>(hk.block b (h5 b (by have:=HB0.out.2.1;omega))).trans (h4.at hb)⟩,h5,fun b hb=>Nat.lt_of_lt_of_le (h6 b hb) hk.size⟩
 case ltI=>rintro k F' A ⟨h1,h2⟩;exact h1.2.2
 case hR=>rintro k F' A ⟨h1,h2⟩;exact HREL0.out.bl h1.1
 case h0=>exact ⟨⟨Bl.refl _,fun b hb=>hb,fun b hb=>hb⟩,rfl⟩
 case hround =>
  rintro lp k x F' A K hx ⟨hse,hno⟩ hnl hll hK
  obtain ⟨p,hp2,rfl⟩:∃ p,l[k]?=some p∧x=#[p.agg]:=by
   unfold valArgs at hx
   rw [List.getElem?_map] at hx
   cases hp:l[k]? with
   | none=>rw [hp] at hx;cases hx
   | some p=>rw [hp] at hx;injection hx with hx;exact ⟨p,rfl,hx.symm⟩
  have HK:=zH hK
  have HS:=zH (And.intro hse (And.intro hno hp2))
  have HNL:=zH hnl
  clear hK hx hse hno hp2 hnl
  gi_wp2
  refine HK.out _ _ (by (repeat (first | exact qA _ | assumption | refine qB ?_ _ | refine qC ?_ | refine qD ?_ _ | refine qE ?_ _ (by simp<;>omega) _))) ?_
  intro Wb hWb hsb hos htp hou
  rw [zL] at hsb
  have hWl:A.heap.size≠lp:=by omega
  have hold:∀ b,b < W0.heap.size→Wb.heap[b]?=W0.heap[b]?:=fun b hb=>by
   have hf:=HS.out.1.2.1 b hb
   rw [hWb b (fun e=>HNL.out (by rw [← e];exact hf)),Below.heap_alloc _ _ _ (HS.out.1.2.2 b hf)]
   exact HS.out.1.1.at hb
  have hbl:Bl W0 Wb:=⟨hos.trans HS.out.1.1.os,htp.trans HS.out.1.1.tape,hou.trans HS.out.1.1.output,by have:=HS.out.1.1.sz;omega,fun b hb=>hold b hb⟩
  have hpb:Wb.heap[A.heap.size]?=some (.cells p.ca 27 (0,0)):=by
   rw [hWb _ hWl];exact (MapKept.heap_alloc A (.cells p.ca 27 (0,0))).1
  have d0:Wb.cell? ⟨w.heap.size,0,none⟩=some (.pointer (some ⟨hp,0,none⟩)):=by rw [cell_of ((hold _ (by have:=HB0.out.2.1;omega)).trans HB0.out.2.2.1)];rfl
  have g0:Wb.cell? ⟨w.heap.size + 1 + 1,0,none⟩=some (.string (bs nm)):=by rw [cell_of ((hold _ (by have:=HB0.out.2.1;omega)).trans HB0.out.2.2.2.1)];rfl
  obtain ⟨p0,p1,p2,pf⟩:=(Bl.refl Wb).three hpb
  have HBL:=zH hbl
  have HO:=zH (And.intro ((hold _ (by have:=HB0.out.2.1;omega)).trans HB0.out.2.2.1) (And.intro ((hold _ (by have:=HB0.out.2.1;omega)).trans HB0.out.2.2.2.1) hpb))
  have HBX:=zH (And.intro ((hold _ (by have:=HB0.out.2.1;omega)).trans HB0.out.2.2.2.2.1) ((hold _ (by have:=HB0.out.2.1;omega)).trans HB0.out.2.2.2.2.2))
  have hAb:A.heap.size < Wb.heap.size:=by omega
  have hFb:∀ b,F' b→b < Wb.heap.size:=fun b hb=>by have:=HS.out.1.2.2 b hb;omega
  have HFB:=zH (And.intro hFb hAb)
  have hW1:w.heap.size + 1 + 1 < Wb.heap.size:=by have:=HB0.out.2.1;have:=hbl.sz;omega
  have hW2:w.heap.size < Wb.heap.size:=by omega
  clear hWb hold hbl hpb hos htp hou hsb hFb
  have HCP:=zH (fun W hb=>HCG.out W p hb)
  obtain ⟨gv,hgv⟩:∃ gv,gv=h.get p (vstr nm):=⟨_,rfl⟩
  have HGV:=zH hgv
  rw [← hgv] at HCP
  clear hgv
  gi_wp2_with fail
  gi_cut [9,10] from 11 (fun v9 v10 w'=>∃ bx,v9=Value.pointer (some ⟨bx,0,none⟩)∧v10=Value.bool gv.2∧Bl Wb w'∧Wb.heap.size≤bx∧w'.heap[bx]?=some (.cells gv.1.ca 27 (0,0)))
  case first =>
   have r0:HR Wb hp h F:=HRR.out.bl (HB0.out.1.trans HBL.out)
   have o1:Wb.heap[w.heap.size]?=some (.cells #[.pointer (some ⟨hp,0,none⟩)] 52 (0,0)):=HO.out.1
   have o2:Wb.heap[w.heap.size + 1 + 1]?=some (.cells #[.string (bs nm)] 9 (0,0)):=HO.out.2.1
   have o3:Wb.heap[A.heap.size]?=some (.cells p.ca 27 (0,0)):=HO.out.2.2
   have hS:SW (RR Wb hp h F) Wb noF [(w.heap.size,Obj.cells #[.pointer (some ⟨hp,0,none⟩)] 52 (0,0)),(w.heap.size + 1 + 1,Obj.cells #[.string (bs nm)] 9 (0,0)),(A.heap.size,Obj.cells #[.int .i64 p.k,.int .i64 p.n,.string (bs p.s)] 27 (0,0))] [] [] Wb:=SW.start (RR.ok Wb hp h F) (RR.start r0) (out_cons ⟨o1,fun h=>h⟩ (out_cons ⟨o2,fun h=>h⟩ (out_cons ⟨o3,fun h=>h⟩ out_nil))) (by nofun)
   refine wpS.enter (B:=(SB (RR Wb hp h F) Wb noF [(w.heap.size,Obj.cells #[.pointer (some ⟨hp,0,none⟩)] 52 (0,0)),(w.heap.size + 1 + 1,Obj.cells #[.string (bs nm)] 9 (0,0)),(A.heap.size,Obj.cells #[.int .i64 p.k,.int .i64 p.n,.string (bs p.s)] 27 (0,0))] [] [])) 11 (by kernel_rfl) (by kernel_rfl) hS ?_
   intro ops hops
   have hns:Region.noSelect ops=true:=by rw [hops];kernel_rfl
   refine wpS.take (i:=0) (v:=.pointer (some ⟨hp,0,none⟩)) (T':=[]) (by subst hops;simp only [zG];try rfl) hns (by rw [hops];kernel_rfl) (by rw [hops];kernel_rfl) (fun _ _ _ h=>h) (by subst hops;kernel_rfl) (YB.load (p:=.pointer (some ⟨w.heap.size,0,none⟩)) _ _ (by rfl) (by rfl) (by rfl) (fun w hw=>load_one Tryz.underlying52 rfl (hw.obox 0 rfl) rfl)) ?_
   simp only [qP]
   refine wpS.take (i:=1) (v:=V.agg p) (T':=[0]) (by subst hops;simp only [zG];try rfl) hns (by rw [hops];kernel_rfl) (by rw [hops];kernel_rfl) (fun _ _ _ h=>h) (by subst hops;kernel_rfl) (YB.load (p:=.pointer (some ⟨A.heap.size,0,none⟩)) _ _ (by rfl) (by rfl) (by rfl) (fun w hw=>load_whole Tryz.underlying27 rfl (by kernel_rfl) (hw.obox 2 rfl))) ?_
   simp only [qP]
   refine wpS.take (i:=2) (v:=.string (bs nm)) (T':=[1,0]) (by subst hops;simp only [zG];try rfl) hns (by rw [hops];kernel_rfl) (by rw [hops];kernel_rfl) (fun _ _ _ h=>h) (by subst hops;kernel_rfl) (YB.load (p:=.pointer (some ⟨w.heap.size + 1 + 1,0,none⟩)) _ _ (by rfl) (by rfl) (by rfl) (fun w hw=>load_one Tryz.underlying9 rfl (hw.obox 1 rfl) rfl)) ?_
   simp only [qP]
   refine wpS.take (i:=3) (v:=V.agg (vstr nm)) (T':=[1,0]) (by subst hops;simp only [zG];try rfl) hns (by rw [hops];kernel_rfl) (by rw [hops];kernel_rfl) (fun _ _ _ h=>h) (by subst hops;kernel_rfl) (YB.call (FWide.round lp) _ 185 (by rfl) (by rfl) (by rfl) (args:=#[.string (bs nm)]) (by simp only [List.map_toArray,List.map_cons,List.map_nil];rfl) (enters_of Tryz.func185 (by kernel_rfl) rfl) (fun wz _=>keyO_any wz nm)) ?_
   simp only [qP]
   refine wpS.take (i:=4) (v:=.tuple #[V.agg ((h.get p (vstr nm)).1),.bool ((h.get p (vstr nm)).2)]) (T':=[]) (by subst hops;simp only [zG];try rfl) hns (by rw [hops];kernel_rfl) (by rw [hops];kernel_rfl) (fun _ _ _ h=>h) (by subst hops;kernel_rfl) (YB.call (FWide.round lp) _ 66 (by rfl) (by rfl) (by rfl) (args:=#[.pointer (some ⟨hp,0,none⟩),V.agg p,V.agg (vstr nm)]) (by simp only [List.map_toArray,List.map_cons,List.map_nil];rfl) (enters_of Tryz.func66 (by kernel_rfl) rfl) (fun wz hw=>hw.elim fun G hG=>getH_any wz hp h F hG.res.2.1 p (vstr nm))) ?_
   simp only [qP]
   refine wpS.take (i:=5) (v:=.tuple #[V.agg ((h.get p (vstr nm)).1),.bool ((h.get p (vstr nm)).2)]) (T':=[]) (by subst hops;simp only [zG];try rfl) hns (by rw [hops];kernel_rfl) (by rw [hops];kernel_rfl) (fun _ _ _ h=>h) (by subst hops;kernel_rfl) (YB.move _ (by rfl) (by rfl) (by rfl)) ?_
   simp only [qP]
   refine wpS.take (i:=6) (v:=V.agg ((h.get p (vstr nm)).1)) (T':=[]) (by subst hops;simp only [zG];try rfl) hns (by rw [hops];kernel_rfl) (by rw [hops];kernel_rfl) (fun _ _ _ h=>h) (by subst hops;kernel_rfl) (YB.extract (vs:=#[V.agg ((h.get p (vstr nm)).1),.bool ((h.get p (vstr nm)).2)]) _ _ (by rfl) (by rfl) (by rfl) (by rfl)) ?_
   simp only [qP]
   refine wpS.takeP (i:=7) (v:=.bool ((h.get p (vstr nm)).2)) (by subst hops;simp only [zG];try rfl) hns (by rw [hops];kernel_rfl) (by rw [hops];kernel_rfl) (fun _ _ _ h=>h) (YB.extract (vs:=#[V.agg ((h.get p (vstr nm)).1),.bool ((h.get p (vstr nm)).2)]) _ _ (by rfl) (by rfl) (by rfl) (by rfl)) ?_
   simp only [qP]
   refine wpS.alloc (RR.ok Wb hp h F) (i:=8) (T':=[6]) (fun b=>.pointer (some ⟨b,0,none⟩)) (obj:=Obj.cells #[.int .i64 0,.int .i64 0,.string (bs [])] 27 (0,0)) (by subst hops;simp only [zG];try rfl) (by rw [hops];kernel_rfl) (Good.some_ (RR.ok Wb hp h F) 0 [] rfl rfl rfl) (by subst hops;kernel_rfl) (by rfl) (by nofun) (by nofun) (by intro w;go_simp) ?_
   intro b1
   simp only [qP]
   refine wpS.store (RR.ok Wb hp h F) (i:=9) (T':=[]) _ _ _ 0 (off:=0) (arr':=#[.int .i64 (((h.get p (vstr nm)).1).k),.int .i64 (((h.get p (vstr nm)).1).n),.string (bs (((h.get p (vstr nm)).1).s))]) (u:=V.agg ((h.get p (vstr nm)).1)) (L':=[(b1,Obj.cells #[.int .i64 (((h.get p (vstr nm)).1).k),.int .i64 (((h.get p (vstr nm)).1).n),.string (bs (((h.get p (vstr nm)).1).s))] 27 (0,0))]) (by subst hops;simp only [zG];try rfl) (by rw [hops];kernel_rfl) (Good.some_ (RR.ok Wb hp h F) 0 [] rfl rfl rfl) (by subst hops;kernel_rfl) (by rfl) (by rfl) (by rfl) (by rfl) (by rfl) (by kernel_rfl) (zB rfl) (by rfl) (by rfl) (by rfl) ?_
   simp only [qP]
   refine wpS.takeP (i:=10) (v:=.bool ((h.get p (vstr nm)).2)) (by subst hops;simp only [zG];try rfl) hns (by rw [hops];kernel_rfl) (by rw [hops];kernel_rfl) (fun _ _ _ h=>h) (YB.assign _ (by rfl) (by rfl) (by rfl)) ?_
   simp only [qP]
   refine wpS.done ?_ ?_ ?_ _
   ·rw [hops];kernel_rfl
   ·exact (Good.nil (RR.ok Wb hp h F))
   intro W1 hS1
   simp only [Exit.then]
   gi_step
   gi_meet
   have hbb:Wb.heap.size≤b1:=hS1.sb.elim fun G hG=>(hG.own _ (List.mem_of_getElem? (i:=0) rfl)).2.2
   have hbo:=hS1.sb.box 0 rfl
   exact ⟨b1,rfl,by rw [HGV.out],hS1.finBl,hbb,by rw [HGV.out];exact hbo⟩
  case rest =>
   obtain ⟨bx,rfl,rfl,hbc,hbx9,hbk9⟩:=hcut
   cases hg2:gv.2 with
   | false =>
    have HREL:=zH (show ∃ F'',Step Wb.heap.size F' Wb wc F''∧FindI W0 h nm l (k + 1) F'' wc from ⟨F',Step.of_bl hbc HFB.out.1,⟨HBL.out.trans hbc,HS.out.1.2.1,fun b hb=>Nat.lt_of_lt_of_le (HFB.out.1 b hb) hbc.sz⟩,findL_none HS.out.2.1 HS.out.2.2 (by rw [← HGV.out];exact hg2)⟩)
    clear hbc hbx9 hbk9
    gi_wp2
    exact HREL.out
   | true =>
    have hr3:=(hbc.at (by have:=HB0.out.2.1;have:=HBL.out.sz;omega)).trans HBX.out.1
    have hr4:=(hbc.at (by have:=HB0.out.2.1;have:=HBL.out.sz;omega)).trans HBX.out.2
    obtain ⟨r0,r1,r2,rf⟩:=(Bl.refl wc).three hr3
    obtain ⟨y0,y1,y2,yf⟩:=(Bl.refl wc).three hbk9
    have q0:wc.cell? ⟨w.heap.size + 1 + 1 + 1 + 1,0,none⟩=some (.bool false):=by rw [cell_of hr4];rfl
    have qf:wc.frozen? ⟨w.heap.size + 1 + 1 + 1 + 1,0,none⟩=false:=by simp [World.frozen?,hr4]
    have HRET:=zH (show ∃ F'',Step Wb.heap.size F' Wb ((((wc.setCell ⟨w.heap.size + 1 + 1 + 1,0,none⟩ (.int .i64 gv.1.k)).setCell ⟨w.heap.size + 1 + 1 + 1,1,none⟩ (.int .i64 gv.1.n)).setCell ⟨w.heap.size + 1 + 1 + 1,2,none⟩ (.string (bs gv.1.s))).setCell ⟨w.heap.size + 1 + 1 + 1 + 1,0,none⟩ (.bool true)) F''∧FindX w W0 h nm l .ret F'' ((((wc.setCell ⟨w.heap.size + 1 + 1 + 1,0,none⟩ (.int .i64 gv.1.k)).setCell ⟨w.heap.size + 1 + 1 + 1,1,none⟩ (.int .i64 gv.1.n)).setCell ⟨w.heap.size + 1 + 1 + 1,2,none⟩ (.string (bs gv.1.s))).setCell ⟨w.heap.size + 1 + 1 + 1 + 1,0,none⟩ (.bool true)) from
     ⟨F',((((Step.of_bl hbc HFB.out.1).setCell (.inr (show F' (w.heap.size + 3) from HS.out.1.2.1 _ (by have:=HB0.out.2.1;omega))) _).setCell (.inr (show F' (w.heap.size + 3) from HS.out.1.2.1 _ (by have:=HB0.out.2.1;omega))) _).setCell (.inr (show F' (w.heap.size + 3) from HS.out.1.2.1 _ (by have:=HB0.out.2.1;omega))) _).setCell (.inr (show F' (w.heap.size + 4) from HS.out.1.2.1 _ (by have:=HB0.out.2.1;omega))) _,rfl,gv.1,by rw [findL_some HS.out.2.1 HS.out.2.2 (by rw [← HGV.out];exact hg2),← HGV.out],
      (Below.heap_setCell _ _ _ _ (fun e=>by have e2:w.heap.size + 3=w.heap.size + 4:=e;omega)).trans (set3 hr3),
      by
       rw [heap_setCell_same _ (w.heap.size + 4) 0 _ _ _ ((Below.heap_setCell _ _ _ _ (fun e=>by have e2:w.heap.size + 4=w.heap.size + 3:=e;omega)).trans ((Below.heap_setCell _ _ _ _ (fun e=>by have e2:w.heap.size + 4=w.heap.size + 3:=e;omega)).trans ((Below.heap_setCell _ _ _ _ (fun e=>by have e2:w.heap.size + 4=w.heap.size + 3:=e;omega)).trans hr4)))];rfl,
      Bl.set' (Bl.set' (Bl.set' (Bl.set' (HB0.out.1.trans (HBL.out.trans hbc)) _ (by simp<;>omega) _) _ (by simp<;>omega) _) _ (by simp<;>omega) _) _ (by simp<;>omega) _,HS.out.1.2.1,fun b hb=>by simp only [World.size_setCell];exact Nat.lt_of_lt_of_le (HFB.out.1 b hb) hbc.sz⟩)
    clear hbc hbx9 hbk9 hr3 hr4
    gi_wp2
    exact HRET.out
 case hdone =>
  rintro F' W' hst ⟨hse,hno⟩ hD hnD
  have hnA:findL h nm l=(V.nil,false):=by
   have e:(valArgs l).length=l.length:=by simp [valArgs]
   rw [e,List.take_length] at hno;exact hno
  have HNA:=zH hnA
  have hs0:=HB0.out.2.1
  have hr3:=(hse.1.at (by omega)).trans HB0.out.2.2.2.2.1
  have hr4:=(hse.1.at (by omega)).trans HB0.out.2.2.2.2.2
  obtain ⟨r0,r1,r2,rf⟩:=(Bl.refl W').three hr3
  have q0:W'.cell? ⟨w.heap.size + 1 + 1 + 1 + 1,0,none⟩=some (.bool false):=by rw [cell_of hr4];rfl
  have qf:W'.frozen? ⟨w.heap.size + 1 + 1 + 1 + 1,0,none⟩=false:=by simp [World.frozen?,hr4]
  have HR34:=zH (And.intro hs0 (And.intro (HB0.out.1.trans hse.1) (And.intro hr3 (And.intro hr4 hD))))
  clear hst hse hno hD hnD hs0 hnA hr3 hr4
  gi_wp2
  obtain ⟨hs0,hbw,hr3,hr4,hD⟩:=HR34.out
  have HF:=zH (findO_end (w:=w) (U:=((((W'.setCell ⟨w.heap.size + 1 + 1 + 1,0,none⟩ (.int .i64 0)).setCell ⟨w.heap.size + 1 + 1 + 1,1,none⟩ (.int .i64 0)).setCell ⟨w.heap.size + 1 + 1 + 1,2,none⟩ (.string ⟨#[]⟩)).setCell ⟨w.heap.size + 1 + 1 + 1 + 1,0,none⟩ (.bool false))) (x:=V.nil) (v:=false) (D:=W0.heap.size)
   (Bl.set' (Bl.set' (Bl.set' (Bl.set' hbw _ (by simp<;>omega) _) _ (by simp<;>omega) _) _ (by simp<;>omega) _) _ (by simp<;>omega) _)
   ((Below.heap_setCell _ _ _ _ (fun e=>by have e2:w.heap.size + 3=w.heap.size + 4:=e;omega)).trans (set3 hr3))
   (by
    rw [heap_setCell_same _ (w.heap.size + 4) 0 _ _ _ ((Below.heap_setCell _ _ _ _ (fun e=>by have e2:w.heap.size + 4=w.heap.size + 3:=e;omega)).trans ((Below.heap_setCell _ _ _ _ (fun e=>by have e2:w.heap.size + 4=w.heap.size + 3:=e;omega)).trans ((Below.heap_setCell _ _ _ _ (fun e=>by have e2:w.heap.size + 4=w.heap.size + 3:=e;omega)).trans hr4)))];rfl) (by omega))
  have HDD:((((W'.setCell ⟨w.heap.size + 1 + 1 + 1,0,none⟩ (.int .i64 0)).setCell ⟨w.heap.size + 1 + 1 + 1,1,none⟩ (.int .i64 0)).setCell ⟨w.heap.size + 1 + 1 + 1,2,none⟩ (.string ⟨#[]⟩)).setCell ⟨w.heap.size + 1 + 1 + 1 + 1,0,none⟩ (.bool false)).heap[W0.heap.size]?=some (.deferred (some [])):=(Below.heap_setCell _ _ _ _ (fun e=>by have e2:W0.heap.size=w.heap.size + 4:=e;omega)).trans ((Below.heap_setCell _ _ _ _ (fun e=>by have e2:W0.heap.size=w.heap.size + 3:=e;omega)).trans ((Below.heap_setCell _ _ _ _ (fun e=>by have e2:W0.heap.size=w.heap.size + 3:=e;omega)).trans ((Below.heap_setCell _ _ _ _ (fun e=>by have e2:W0.heap.size=w.heap.size + 3:=e;omega)).trans hD)))
  refine ⟨by simp,.inl ⟨_,_,rfl,run_takeDeferred HDD,?_⟩⟩
  obtain ⟨⟨s0,s1,s2,s3⟩,-⟩:=HF.out (.deferred none)
  refine ⟨_,by simp [results,Tryz.results161,go_sem,s0,s1,s2,s3];try rfl,?_⟩
  exact ⟨by rw [HNA.out];try rfl,(HF.out _).2⟩
 case hstop =>
  rintro c F' W' hst ⟨rfl,x,hA,hbx,hbx4,hb,h5,h6⟩ hD hnD
  have HNA:=zH hA
  have hs0:=HB0.out.2.1
  have HF:=zH (findO_end (w:=w) (U:=W') (v:=true) (D:=W0.heap.size) hb hbx hbx4 (by omega))
  have HDD:=zH hD
  clear hst hA hbx hbx4 hb h5 h6 hD hnD hs0
  gi_wp2
  refine ⟨by simp,.inl ⟨_,_,rfl,run_takeDeferred HDD.out,?_⟩⟩
  obtain ⟨⟨s0,s1,s2,s3⟩,-⟩:=HF.out (.deferred none)
  refine ⟨_,by simp [results,Tryz.results161,go_sem,s0,s1,s2,s3];try rfl,?_⟩
  exact ⟨by rw [HNA.out];try rfl,(HF.out _).2⟩
end
end Go.Proofs.YtlbcbikplfocfaaGreatDoor.W
namespace Go.Proofs.YtlbcbikplfocfaaGreatDoor.W.E
section
open Go.RowKit
def xKey:ExtF:=fun vs st=>match vs with
 | [a0]=>(match toV a0 with | some x0=>some (.bool (keyB x0),st) | none=>none)
 | _=>none
def xFind:ExtF:=fun vs st=>match vs with
 | [p,a0,a1]=>(match heapAt st.x p with | some h=>(match toV a0 with | some x0=>(match toS a1 with | some x1=>some (.tup [((h.findO x0 x1).1).sv,.bool ((h.findO x0 x1).2)],st) | none=>none) | none=>none) | none=>none)
 | _=>none
theorem xFind_ok:ExtOk 161 xFind:=fun w0 vs st v st' h=>by
 unfold xFind at h
 split at h
 ·rename_i p a0 a1
  split at h
  ·rename_i hh hq
   split at h
   ·rename_i y0 e0
    split at h
    ·rename_i y1 e1
     cases h
     refine ext_reader fun e w F us hR hvs=>?_
     obtain ⟨uq,us,rfl,q,hvs⟩:=vrs_cons hvs
     obtain ⟨uq0,us,rfl,q0,hvs⟩:=vrs_cons hvs
     obtain ⟨uq1,us,rfl,q1,hvs⟩:=vrs_cons hvs
     cases vrs_nil hvs
     obtain ⟨b,c,F0,g1,k,rfl⟩:=heapAt_ok hq hR q
     obtain rfl:=toV_ok e0 q0
     obtain rfl:=toS_ok e1 q1
     exact ⟨_,.tup (.cons (V.sv_ok _ _) (.cons (.bool _) .nil)),findO_any w c hh F0 k.hr y0 y1⟩
    ·cases h
   ·cases h
  ·cases h
 ·cases h
def xSub:ExtF:=fun vs st=>match vs with
 | [p,a0,a1]=>(match heapAt st.x p with | some h=>(match toV a0 with | some x0=>(match toV a1 with | some x1=>some (.bool (h.subO x0 x1),st) | none=>none) | none=>none) | none=>none)
 | _=>none
theorem xSub_ok:ExtOk 212 xSub:=fun w0 vs st v st' h=>by
 unfold xSub at h
 split at h
 ·rename_i p a0 a1
  split at h
  ·rename_i hh hq
   split at h
   ·rename_i y0 e0
    split at h
    ·rename_i y1 e1
     cases h
     refine ext_reader fun e w F us hR hvs=>?_
     obtain ⟨uq,us,rfl,q,hvs⟩:=vrs_cons hvs
     obtain ⟨uq0,us,rfl,q0,hvs⟩:=vrs_cons hvs
     obtain ⟨uq1,us,rfl,q1,hvs⟩:=vrs_cons hvs
     cases vrs_nil hvs
     obtain ⟨b,c,F0,g1,k,rfl⟩:=heapAt_ok hq hR q
     obtain rfl:=toV_ok e0 q0
     obtain rfl:=toV_ok e1 q1
     exact ⟨_,.bool _,subO_any w c hh F0 k.hr y0 y1⟩
    ·cases h
   ·cases h
  ·cases h
 ·cases h
def xOrderO:ExtF:=fun vs st=>match vs with
 | [p,a0]=>(match heapAt st.x p with | some h=>(match toV a0 with | some x0=>(bif Nat.blt st.nx TMax then some (st.row (h.orderO x0)) else none) | none=>none) | none=>none)
 | _=>none
abbrev hp0:Hp:=⟨[],fun _=>0,0⟩
def xNew:ExtF:=fun vs st=>match vs with
 | []=>match st.x.h with
  | none=>bif Nat.blt st.nx TMax then some (.ptr st.nx 0,⟨st.m,st.nx + 1,⟨some (st.nx,hp0),st.x.cnt,st.x.sc,st.x.pc,st.x.rc⟩⟩) else none
  | some _=>none
 | _=>none
theorem xNew_ok:ExtOk 21 xNew:=fun w0 vs st v st' h=>by
 unfold xNew at h
 split at h
 ·split at h
  ·rename_i hx
   cases hb:Nat.blt st.nx TMax with
   | false=>rw [hb] at h;cases h
   | true =>
    rw [hb,cond_true] at h;cases h
    refine fun hg=>⟨hg,fun e w F us hR hvs=>?_⟩
    cases vrs_nil hvs
    refine (heap_new w).mono fun en w' ⟨q1,F1,r,s⟩=>?_
    have hgl:=hR.gl
    have hsz:=hgl.2.2
    have hF:∀ b,F b↔Fix w0 b:=by have:=hR.ext;simp only [HL,HXR,hx] at this;exact this.2
    have hn:=hR.none
    have hl:=Env.le_put hn (w.heap.size + 2,0,1)
    have hF1:∀ d,F1 d→w.heap.size≤d:=fun d hd=>(s.foot d hd).elim False.elim id
    have hk:∀ d,d < w.heap.size→w'.heap[d]?=w.heap[d]?:=fun d hd=>s.block d hd (fun h=>h)
    have nm:∀ x k,st.m.get x=some k→x≠st.nx:=fun x k hx hq=>by have:=hR.old x k hx;omega
    refine ⟨_,e.put st.nx (w.heap.size + 2,0,1),fun d=>F1 d∨Fix w0 d,q1,?_,⟨fun x k c o z h1 h2=>?_,fun x y bx by_ c o z c' o' z' h1 h2 h3 h4 h5 h6=>?_,fun x k h1=>Nat.lt_succ_of_lt (hR.old x k h1),fun x y h1=>?_,fun x bx h1 h2 y hy=>?_,?_⟩,?_⟩
    ·have:=VR.ptr (e:=e.put st.nx (w.heap.size + 2,0,1)) (b:=st.nx) (off:=0) (Env.put_same _ _ _)
     simpa using this
    ·rw [Env.put_ne _ _ (nm x k h1)] at h2
     obtain ⟨a1,a2⟩:=hR.blk x k c o z h1 h2
     have hlt:=a2.lt
     exact ⟨fun hf=>hf.elim (fun hf=>by have:=hF1 c hf;omega) (fun hf=>a1 ((hF c).2 hf)),a2.keep hl (hk c hlt)⟩
    ·rw [Env.put_ne _ _ (nm x bx h1)] at h5
     rw [Env.put_ne _ _ (nm y by_ h2)] at h6
     exact hR.dis x y bx by_ c o z c' o' z' h1 h2 h3 h4 h5 h6
    ·by_cases hq:x=st.nx
     ·subst hq;exact Nat.lt_succ_self _
     ·rw [Env.put_ne _ _ hq] at h1;exact Nat.lt_succ_of_lt (hR.dom x y h1)
    ·rw [Env.put_ne _ _ (nm x bx h1)] at h2
     have:=hR.sib x bx h1 h2 y hy
     intro hnn
     cases hq:e y with
     | none=>exact this hq
     | some v=>rw [hl y v hq] at hnn;cases hnn
    ·have he:=hR.ext.1
     have hfs:∀ d,Fix w0 d→d < w.heap.size:=fun d hd=>Nat.lt_of_lt_of_le (hd.lt he.1) he.2.2.1
     refine ⟨⟨he.1,fun d hd=>(hk d (hfs d hd)).trans (he.2.1 d hd),Nat.le_trans he.2.2.1 s.size,he.2.2.2.mono hl⟩,?_⟩
     exact ⟨w.heap.size + 2,F1,⟨1,Env.put_same _ _ _⟩,r,fun n=>rfl,fun d=>Iff.rfl,fun d hd hf=>by have:=hF1 d hf;have:=hfs d hd;omega⟩
    ·refine ⟨hl,s.os,s.tape,s.output,s.size,fun d hd _=>hk d hd,fun d hd hi=>?_,fun b hb he=>⟨by rw [Env.put_ne _ _ (by omega)];exact he,fun _=>rfl⟩,Nat.le_succ _⟩
     rcases hi with hi | ⟨x,k,o,z,h1,h2⟩
     ·exact hi.elim (fun hf=>by have:=hF1 d hf;omega) (fun hf=>.inl ((hF d).2 hf))
     ·rw [Env.put_ne _ _ (nm x k h1)] at h2
      exact .inr ⟨x,k,o,z,h1,h2⟩
  ·cases h
 ·cases h
end
end Go.Proofs.YtlbcbikplfocfaaGreatDoor.W.E
namespace Go.Proofs.YtlbcbikplfocfaaGreatDoor.W
section
open Go Go.RowKit Go.Shelf
structure BForm where
 T:TypeId
 o:Nat
 n:Nat
 cs:Value→Value→Array Value
 at0:∀ p v,(cs p v)[o]?=some p
 at1:∀ p v,(cs p v)[o + 1]?=some v
 set0:∀ p v q,(cs p v).setIfInBounds o q=cs q v
 set1:∀ p v q,(cs p v).setIfInBounds (o + 1) q=cs p q
 size:∀ p v,(cs p v).size=n
 lt:o < n
 lies:liesAt Tryz.prog Tryz.prog.depth T (n / Tryz.prog.cellsOf T) o 148 1=true
 ne:T≠5
structure BAt (w:World) (f:BForm) (b:Nat) (l:List UInt8) (p v:Value) (F:Nat→Prop):Prop where
 blk:w.heap[b]?=some (.cells (f.cs p v) f.T (0,0))
 self:p=.pointer none∨p=.pointer (some ⟨b,f.o,none⟩)
 own:w.ownsRow 0 5 1 v l.length (Lib.strCells (bs l))
 foot:∀ c,F c↔c=b∨v.ownBlock=some c
section
variable {w w':World} {f:BForm} {b:Nat} {l:List UInt8} {p v:Value} {F:Nat→Prop}
theorem BAt.ne (h:BAt w f b l p v F):v.ownBlock≠some b:=Lib.ownBlock_ne h.own h.blk f.ne
theorem BAt.blt (h:BAt w f b l p v F):b < w.heap.size:=(zN h.blk).1
theorem BAt.lt (h:BAt w f b l p v F):∀ c,F c→c < w.heap.size:=fun c hc=>((h.foot c).1 hc).elim (fun e=>e ▸ h.blt) (fun e=>(h.own.lt c e).2)
theorem BAt.cells (h:BAt w f b l p v F):w.cell? ⟨b,f.o,none⟩=some p∧w.cell? ⟨b,f.o + 1,none⟩=some v∧(∀ o,w.frozen? ⟨b,o,none⟩=false)∧w.shape? b=some (f.T,f.n) :=
 ⟨by rw [cell_of h.blk];exact f.at0 p v,by rw [cell_of h.blk];exact f.at1 p v,fun o=>by simp [World.frozen?,h.blk],by simp [World.shape?,h.blk,f.size]⟩
theorem BAt.keep (h:BAt w f b l p v F) (hk:∀ c,F c→w'.heap[c]?=w.heap[c]?):BAt w' f b l p v F :=
 ⟨(hk b ((h.foot b).2 (.inl rfl))).trans h.blk,h.self,⟨h.own.1,h.own.2.elim .inl fun ⟨g,cap,cur,e,h0,hg,r⟩=>.inr ⟨g,cap,cur,e,h0,(hk g ((h.foot g).2 (.inr (by rw [e];rfl)))).trans hg,r⟩⟩,h.foot⟩
theorem BAt.put {w2:World} {l':List UInt8} {v':Value} (h:BAt w f b l p v F) (hown:w2.ownsRow 0 5 1 v' l'.length (Lib.strCells (bs l'))) (hg:w.grownBy w2 v.ownBlock) (hv:v'.ownBlock=none∨v'.ownBlock=v.ownBlock∨∃ g,v'.ownBlock=some g∧w.heap.size≤g) :
  ∃ F',BAt (w2.setCell ⟨b,f.o + 1,none⟩ v') f b l' p v' F'∧Step w.heap.size F w (w2.setCell ⟨b,f.o + 1,none⟩ v') F':=by
 have hb2:w2.heap[b]?=some (.cells (f.cs p v) f.T (0,0)):=(hg.block b h.blt (fun e=>h.ne e.symm)).trans h.blk
 have hne':=Lib.ownBlock_ne hown hb2 f.ne
 have hsz:=hg.size
 refine ⟨fun c=>c=b∨v'.ownBlock=some c,⟨?_,h.self,?_,fun c=>Iff.rfl⟩,⟨hg.os,hg.tape,hg.output,by rw [World.size_setCell];exact hsz,fun c hc hF=>?_,?_,?_⟩⟩
 ·rw [heap_setCell_same w2 b (f.o + 1) _ _ _ hb2,f.set1]
 ·exact hown.kept (row:=some b) ⟨rfl,rfl,rfl,by simp [World.setCell],fun k _ hk=>Below.heap_setCell _ _ _ _ (fun e=>hk (by simp [e]))⟩ (Or.inr hne')
 ·rw [Below.heap_setCell _ _ _ _ (fun e=>hF ((h.foot c).2 (.inl e)))]
  exact hg.block c hc (fun e=>hF ((h.foot c).2 (.inr e.symm)))
 ·rintro c (rfl | hc)
  ·exact .inl ((h.foot _).2 (.inl rfl))
  ·rcases hv with e | e | ⟨g,e,hge⟩
   ·rw [hc] at e;cases e
   ·exact .inl ((h.foot c).2 (.inr (e ▸ hc)))
   ·rw [hc] at e;injection e with e;subst e;exact .inr hge
 ·rintro c (rfl | hc)
  ·rw [World.size_setCell];have:=h.blt;omega
  ·rw [World.size_setCell];exact (hown.lt c hc).2
end
theorem sizeBld:∃ j,Tryz.prog.info? 148=some j∧j.size=2:=Option.map_eq_some_iff.1 (show (Tryz.prog.info? 148).map (·.size)=some 2 by kernel_rfl)
end
section
open Go Go.RowKit Go.Shelf
theorem unsafeString_none (W:World) (q:Option Addr):(Builtin.unsafeString_ #[222,3] 9 #[.pointer q,.int .i64 0]).run Tryz.prog W=.ok (.string .empty) W:=Lib.run_unsafeString_none W _ _ _ q
end
end Go.Proofs.YtlbcbikplfocfaaGreatDoor.W
namespace Go.Proofs.YtlbcbikplfocfaaGreatDoor.W.E
section
open Go.RowKit
theorem rowAt_mono {p:Program} {fits:TypeId→Bool} {d:Nat} {e:TypeId} {c c' off n:Nat} (h:rowAt p fits d e c off n=true) (hc:c≤c'):rowAt p fits d e c' off n=true:=by
 cases d with
 | zero=>cases h
 | succ d =>
  unfold rowAt at *
  simp only at *
  split at h
  ·cases h
  ·rename_i hs
   rw [if_neg hs]
   simp only [Bool.or_eq_true,Bool.and_eq_true,decide_eq_true_eq] at h ⊢
   rcases h with ⟨⟨h1,h2⟩,h3⟩ | ⟨h1,h2⟩
   ·exact .inl ⟨⟨h1,by omega⟩,h3⟩
   ·exact .inr ⟨by omega,h2⟩
theorem liesAt_mono {p:Program}:∀ {d:Nat} {e:TypeId} {c c' off:Nat} {u:TypeId} {n:Nat},liesAt p d e c off u n=true→c≤c'→liesAt p d e c' off u n=true
 | 0,_,_,_,_,_,_,h,_=>by cases h
 | d + 1,e,c,c',off,u,n,h,hc=>by
  unfold liesAt at *
  simp only [Bool.or_eq_true] at h ⊢
  rcases h with h | h
  ·exact .inl (rowAt_mono h hc)
  ·right
   split at h
   ·exact liesAt_mono h hc
   ·cases h
def bldAt (T off:Nat):Bool:=(Nat.beq T 148 && Nat.beq off 0) || (Nat.beq T 150 && Nat.beq off 1)
theorem bldAt_ok {T off:Nat} (h:bldAt T off=true):liesAt Tryz.prog Tryz.prog.depth T 1 off 148 1=true∧((T=148∧off=0∧Tryz.prog.cellsOf T=2)∨(T=150∧off=1∧Tryz.prog.cellsOf T=4)):=by
 simp only [bldAt,Bool.or_eq_true,Bool.and_eq_true] at h
 rcases h with ⟨h1,h2⟩ | ⟨h1,h2⟩
 ·rw [Nat.eq_of_beq_eq_true h1,Nat.eq_of_beq_eq_true h2]
  exact ⟨by kernel_rfl,.inl ⟨rfl,rfl,by kernel_rfl⟩⟩
 ·rw [Nat.eq_of_beq_eq_true h1,Nat.eq_of_beq_eq_true h2]
  exact ⟨by kernel_rfl,.inr ⟨rfl,rfl,by kernel_rfl⟩⟩
set_option maxHeartbeats 1000000 in
set_option maxRecDepth 100000 in
theorem check_new (w:World) (b o:Nat) (T n:Nat) (h0:w.cell? ⟨b,o,none⟩=some (.pointer none)) (hfz:∀ o,w.frozen? ⟨b,o,none⟩=false) (hsh:w.shape? b=some (T,n)) (hlt:o < n) (hlies:liesAt Tryz.prog Tryz.prog.depth T (n / Tryz.prog.cellsOf T) o 148 1=true) :
  Calls Tryz.prog 310 #[.pointer (some ⟨b,o,none⟩)] w fun e w'=>e=.returned (.tuple #[])∧w'=w.setCell ⟨b,o,none⟩ (.pointer (some ⟨b,o,none⟩)):=by
 obtain ⟨j,hj,hjs⟩:=sizeBld
 go_enter Tryz.func310,Tryz.ntmps310
 go_wp2
 rw [Lib.run_to_unsafe w ⟨b,o,none⟩ Tryz.underlying145 Tryz.underlying324 hj (by rw [hjs];decide) hsh hlt]
 simp only [Result.andThen]
 rw [Oper.upon_value]
 go_wp2
 rw [run_callFunc_extern Tryz.func334 (by kernel_rfl) (by kernel_rfl) (by kernel_rfl) (e:=Extern.AbiNoEscape.same) (by kernel_rfl)]
 rw [Lib.run_noEscape]
 simp only [Result.andThen]
 rw [Oper.upon_value]
 go_wp2
 rw [Lib.run_from_unsafe w ⟨b,o,none⟩ Tryz.underlying324 Tryz.underlying145 hj hsh hlies]
 simp only [Result.andThen]
 rw [Oper.upon_value]
 go_wp2
 go_end0
 exact ⟨rfl,rfl⟩
set_option maxHeartbeats 1000000 in
set_option maxRecDepth 100000 in
theorem check_old (w:World) (b o:Nat) (h0:w.cell? ⟨b,o,none⟩=some (.pointer (some ⟨b,o,none⟩))) :
  Calls Tryz.prog 310 #[.pointer (some ⟨b,o,none⟩)] w fun e w'=>e=.returned (.tuple #[])∧w'=w:=by
 obtain ⟨j,hj,hjs⟩:=sizeBld
 go_enter Tryz.func310,Tryz.ntmps310
 go_wp2
 rw [Lib.run_neq_ptr_same w _ Tryz.underlying145 hj]
 go_wp2
 go_end0
 exact ⟨rfl,rfl⟩
def xCheck:ExtF:=fun vs st=>match vs with
 | [.ptr b off]=>match st.m.get b with
  | some (.cells cs false sib (some T))=>bif bldAt T off && ltM b sib && Nat.ble 2 cs.length && (Nat.beq off 0 || Nat.ble 4 cs.length) then match cs[off]? with
   | some .nilp=>some (.tup [],st.turn b sib (.cells (setRange cs off [.ptr b off]) false [] (some T)))
   | some (.ptr b2 o2)=>bif Nat.beq b2 b && Nat.beq o2 off then some (.tup [],st) else none
   | _=>none
   else none
  | _=>none
 | _=>none
theorem xCheck_ok:ExtOk 310 xCheck:=fun w0 vs st v st' h=>by
 unfold xCheck at h
 split at h
 ·rename_i b off
  split at h
  ·rename_i cs sib T hm
   cases hc:bldAt T off && ltM b sib && Nat.ble 2 cs.length && (Nat.beq off 0 || Nat.ble 4 cs.length) with
   | false=>rw [hc] at h;cases h
   | true =>
    rw [hc,cond_true] at h
    simp only [Bool.and_eq_true,Bool.or_eq_true] at hc
    obtain ⟨⟨⟨c1,c2⟩,c3⟩,c4⟩:=hc
    obtain ⟨l1,l2⟩:=bldAt_ok c1
    obtain ⟨l3,l4⟩:=ltM_ok c2
    have c3:=zB c3
    -- the builder's block in a world
    have lies:∀ {e:Env} {w:World} {F:FootE} {c o z:Nat},Rl (HL w0) e st w F→e b=some (c,o,z)→o=0∧(∀ o,w.frozen? ⟨c,o,none⟩=false)∧∃ n,w.shape? c=some (T,n)∧off < n∧cs.length≤n∧liesAt Tryz.prog Tryz.prog.depth T (n / Tryz.prog.cellsOf T) off 148 1=true:=fun {e w F c o z} hR hb=>by
     obtain ⟨arr,t,fr,k1,k2,k3,k4,k5⟩:=(hR.blk b _ c o z hm hb).2
     obtain ⟨rfl,rfl⟩:=k3.2 T rfl
     have hfr:=k3.1 rfl
     subst hfr
     refine ⟨rfl,fun o=>by simp [World.frozen?,k1],arr.size,by simp [World.shape?,k1],?_,by omega,liesAt_mono l1 ?_⟩
     ·rcases l2 with ⟨-,rfl,-⟩ | ⟨-,rfl,-⟩<;>omega
     ·rcases l2 with ⟨-,h0,h2⟩ | ⟨-,h0,h2⟩
      ·rw [h2];omega
      ·rw [h2]
       have:4≤cs.length:=by
        rcases c4 with c4 | c4
        ·have:=Nat.eq_of_beq_eq_true c4;omega
        ·exact zB c4
       omega
    split at h
    ·rename_i hcell
     cases h
     refine fun hg=>⟨hg,fun e w F us hR hvs=>?_⟩
     obtain ⟨u,us,rfl,hu,hvs⟩:=vrs_cons hvs
     cases vrs_nil hvs
     cases hu with
     | ptr hb =>
      rename_i c o z
      obtain ⟨rfl,hfz,n,h1,h2,h3,h4⟩:=lies hR hb
      have hB:=(hR.blk b _ c 0 z hm hb).2
      obtain ⟨y,g1,g2,-⟩:=cells_at hB hcell
      cases g2
      rw [Nat.zero_add] at g1
      have hcall:=check_new w c off T n g1 hfz h1 h2 h4
      have hoff:off + 1≤cs.length:=by have:=(List.getElem?_eq_some_iff.1 hcell).1;omega
      have hz:off + 1≤z:=by obtain ⟨_,_,_,_,_,_,q,_⟩:=hB;omega
      have hv:VR e (.ptr b off) (.pointer (some ⟨c,0 + off,none⟩)):=.ptr hb
      have hwr:=hB.write (vs:=[.ptr b off]) (us:=[.pointer (some ⟨c,off,none⟩)]) (.cons (by simpa using hv) .nil) rfl (by omega) hz
      obtain ⟨o1,o2,o3,o4,o5⟩:=setCells_outer c [.pointer (some ⟨c,off,none⟩)] (0 + off) w
      have hs:w.setCells c (0 + off) [.pointer (some ⟨c,off,none⟩)]=w.setCell ⟨c,off,none⟩ (.pointer (some ⟨c,off,none⟩)):=by rw [Nat.zero_add];rfl
      rw [hs] at o1 o2 o3 o4 o5 hwr
      rw [Nat.zero_add]
      refine hcall.mono fun en w' ⟨q1,q2⟩=>⟨.tuple #[],e,F,q1,.tup .nil,?_,?_⟩
      ·rw [q2];exact hR.turn hm rfl hb l3 l4 rfl (Nat.le_of_eq o4.symm) (fun d _ hd=>o5 d hd) hwr
      ·rw [q2];exact Nxt.turn hR hm hb l3 l4 (Nat.le_of_eq o4.symm) (fun d _ hd=>o5 d hd) ⟨o1,o2,o3⟩
    ·rename_i b2 o2 hcell
     cases hb2:Nat.beq b2 b && Nat.beq o2 off with
     | false=>rw [hb2] at h;cases h
     | true =>
      rw [hb2,cond_true] at h;cases h
      simp only [Bool.and_eq_true] at hb2
      have e1:=Nat.eq_of_beq_eq_true hb2.1
      have e2:=Nat.eq_of_beq_eq_true hb2.2
      subst e1 e2
      refine ext_reader fun e w F us hR hvs=>?_
      obtain ⟨u,us,rfl,hu,hvs⟩:=vrs_cons hvs
      cases vrs_nil hvs
      cases hu with
      | ptr hb =>
       rename_i c o z
       obtain ⟨rfl,hfz,n,h1,h2,h3,h4⟩:=lies hR hb
       obtain ⟨y,g1,g2,-⟩:=cells_at (hR.blk _ _ c 0 z hm hb).2 hcell
       cases g2 with
       | ptr hb3 =>
        rw [hb] at hb3;cases hb3
        rw [Nat.zero_add] at g1 ⊢
        exact ⟨.tuple #[],.tup .nil,(check_old w c _ g1).mono fun en w' ⟨q1,q2⟩=>⟨q1,by rw [q2];exact Bl.refl w⟩⟩
    ·cases h
  ·cases h
 ·cases h
theorem freeze_outer (w:World) (g n:Nat):(w.freeze ⟨g,0,none⟩ n).os=w.os∧(w.freeze ⟨g,0,none⟩ n).tape=w.tape∧(w.freeze ⟨g,0,none⟩ n).output=w.output∧(w.freeze ⟨g,0,none⟩ n).heap.size=w.heap.size∧∀ d,d≠g→(w.freeze ⟨g,0,none⟩ n).heap[d]?=w.heap[d]?:=by
 unfold World.freeze
 split
 ·exact ⟨rfl,rfl,rfl,rfl,fun _ _=>rfl⟩
 ·exact ⟨rfl,rfl,rfl,by simp,fun d hd=>by simp only;rw [Array.getElem?_modify,if_neg (Ne.symm hd)]⟩
theorem freeze_in (w:World) (g n:Nat) (arr:Array Value) (t:TypeId) (fr:Nat × Nat) (h:w.heap[g]?=some (.cells arr t fr)):∃ fr',(w.freeze ⟨g,0,none⟩ n).heap[g]?=some (.cells arr t fr'):=by
 unfold World.freeze
 split
 ·exact ⟨fr,h⟩
 ·simp only
  rw [Array.getElem?_modify,if_pos rfl,h]
  exact ⟨_,rfl⟩
set_option maxHeartbeats 2000000 in
set_option maxRecDepth 100000 in
theorem str_none (w:World) (b o:Nat) (h1:w.cell? ⟨b,o + 1,none⟩=some (.slice none 0 0)) :
  Calls Tryz.prog 138 #[.pointer (some ⟨b,o,none⟩)] w fun e w'=>e=.returned (.string (bs []))∧w'=w.drew:=by
 have hUS:=unsafeString_none
 have mixed:Tryz.prog.follows .mixedOrders=true:=by kernel_rfl
 have c1:w.drew.cell? ⟨b,o + 1,none⟩=some (.slice none 0 0):=h1
 have hSD:(Builtin.unsafeSliceData_ #[146] 222 #[.slice none 0 0]).run Tryz.prog w.drew=.ok (.pointer none) w.drew:=rfl
 clear h1
 go_enter Tryz.func138,Tryz.ntmps138
 go_wp2
 go_region_o
 all_goals (go_wp2;go_ret;exact ⟨rfl,rfl⟩)
set_option maxHeartbeats 2000000 in
set_option maxRecDepth 100000 in
theorem str_some (w:World) (b o g cap:Nat) (cur:Array Value) (l:List UInt8) (h1:w.cell? ⟨b,o + 1,none⟩=some (.slice (some ⟨g,0,none⟩) l.length cap)) (hg:w.heap[g]?=some (.cells cur 5 (0,0))) (hl0:l≠[]) (hle:l.length≤cur.size) (hcap:l.length≤cap) (hcm:cap≤maxLen)
  (hx:∀ (j:Nat) (x:UInt8),l[j]?=some x→w.cell? ⟨g,j,none⟩=some (.int .u8 x.toNat)) :
  Calls Tryz.prog 138 #[.pointer (some ⟨b,o,none⟩)] w fun e w'=>e=.returned (.string (bs l))∧w'=w.drew.freeze ⟨g,0,none⟩ l.length:=by
 have mixed:Tryz.prog.follows .mixedOrders=true:=by kernel_rfl
 have hl1:l.length≠0:=fun e=>hl0 (List.eq_nil_of_length_eq_zero e)
 have c1:w.drew.cell? ⟨b,o + 1,none⟩=some (.slice (some ⟨g,0,none⟩) l.length cap):=h1
 have hSD:(Builtin.unsafeSliceData_ #[146] 222 #[.slice (some ⟨g,0,none⟩) l.length cap]).run Tryz.prog w.drew=.ok (.pointer (some ⟨g,0,none⟩)) w.drew:=Lib.run_unsafeSliceData_row _ _ _ _ _ _ (by omega)
 have hUS2:(Builtin.unsafeString_ #[222,3] 9 #[.pointer (some ⟨g,0,none⟩),.int .i64 l.length]).run Tryz.prog w.drew=.ok (.string (bs l)) (w.drew.freeze ⟨g,0,none⟩ l.length):=by
  refine Lib.run_unsafeString_row w.drew 222 3 9 5 Tryz.underlying222 (by kernel_rfl) g cur.size (by have hg':w.drew.heap[g]?=some (.cells cur 5 (0,0)):=hg;simp [World.shape?,hg']) l hl0 (by omega) (by unfold maxLen at hcm;omega) ?_
  intro j x hj
  rw [add_none,Nat.zero_add]
  exact hx j x hj
 clear h1 hx hg hle hcap hcm
 go_enter Tryz.func138,Tryz.ntmps138
 go_wp2
 go_region_o
 all_goals (go_wp2;go_ret;exact ⟨rfl,rfl⟩)
def toB (v:SV):Option UInt8 :=
 match v with
 | .int .u8 (.ofNat k)=>bif Nat.blt k 256 then some (UInt8.ofNat k) else none
 | _=>none
theorem toB_ok {v:SV} {b:UInt8} (h:toB v=some b) {e:Env} {u:Value} (hv:VR e v u):u=.int .u8 b.toNat:=by
 unfold toB at h
 split at h
 ·rename_i k
  cases hb:Nat.blt k 256 with
  | false=>rw [hb] at h;cases h
  | true =>
   rw [hb,cond_true] at h;cases h
   cases hv
   have:k < 256:=by simpa [Nat.blt_eq] using hb
   have e1:(UInt8.ofNat k).toNat=k:=by simp [UInt8.toNat_ofNat'];omega
   rw [e1];rfl
 ·cases h
def toBs:List SV→Option (List UInt8)
 | []=>some []
 | v :: t=>match toB v with
  | some b=>match toBs t with
   | some l=>some (b :: l)
   | none=>none
  | none=>none
theorem toBs_ok:∀ {vs:List SV} {l:List UInt8} {e:Env} {us:List Value},toBs vs=some l→VRs e vs us→us=l.map fun b=>Value.int .u8 b.toNat
 | [],l,e,us,h,hv=>by cases h;cases hv;rfl
 | v :: t,l,e,us,h,hv=>by
  unfold toBs at h
  split at h
  ·rename_i b hb
   split at h
   ·rename_i l' hl
    cases h
    cases hv with
    | cons h1 h2=>rw [toB_ok hb h1,toBs_ok hl h2];rfl
   ·cases h
  ·cases h
def xString:ExtF:=fun vs st=>match vs with
 | [.ptr b off]=>match st.m.get b with
  | some (.cells cs _ _ _)=>match cs[off + 1]? with
   | some .nils=>some (.str [],st)
   | some (.sl g 0 n 1 _)=>match st.m.get g with
    | some (.cells gs false sib (some T))=>bif Nat.beq T 5 && ltM g sib && Nat.ble n gs.length then match toBs (gs.take n) with
     | some (x :: l)=>some (.str (x :: l),st.turn g sib (.cells gs true [] (some T)))
     | _=>none
     else none
    | _=>none
   | _=>none
  | _=>none
 | _=>none
theorem xString_ok:ExtOk 138 xString:=fun w0 vs st v st' h=>by
 unfold xString at h
 split at h
 ·rename_i b off
  split at h
  ·rename_i cs ro sib0 ty0 hm
   split at h
   ·rename_i hcell
    cases h
    refine ext_reader fun e w F us hR hvs=>?_
    obtain ⟨u,us,rfl,hu,hvs⟩:=vrs_cons hvs
    cases vrs_nil hvs
    cases hu with
    | ptr hb =>
     rename_i c o z
     obtain ⟨y,g1,g2,-⟩:=cells_at (hR.blk b _ c o z hm hb).2 hcell
     cases g2
     rw [← Nat.add_assoc] at g1
     exact ⟨_,.str _,(str_none w c (o + off) g1).mono fun en w' ⟨q1,q2⟩=>⟨q1,by rw [q2];exact Bl.dr w⟩⟩
   ·rename_i g n ck hcell
    split at h
    ·rename_i gs sib T hgm
     cases hc:Nat.beq T 5 && ltM g sib && Nat.ble n gs.length with
     | false=>rw [hc] at h;cases h
     | true =>
      rw [hc,cond_true] at h
      simp only [Bool.and_eq_true] at hc
      obtain ⟨⟨c1,c2⟩,c3⟩:=hc
      have c1:=Nat.eq_of_beq_eq_true c1
      have c3:=zB c3
      obtain ⟨l3,l4⟩:=ltM_ok c2
      subst c1
      split at h
      ·rename_i x l hbs
       cases h
       refine fun hg=>⟨hg,fun e w F us hR hvs=>?_⟩
       obtain ⟨u,us,rfl,hu,hvs⟩:=vrs_cons hvs
       cases vrs_nil hvs
       cases hu with
       | ptr hb =>
        rename_i c o z
        obtain ⟨y,g1,g2,-⟩:=cells_at (hR.blk b _ c o z hm hb).2 hcell
        rw [← Nat.add_assoc] at g1
        have hlen:(x :: l).length=n:=by
         have h1:∀ {vs:List SV} {l:List UInt8},toBs vs=some l→l.length=vs.length:=fun {vs}=>by
          induction vs with
          | nil=>intro l h;cases h;rfl
          | cons v t ih =>
           intro l h
           unfold toBs at h
           split at h
           ·split at h
            ·rename_i l' hl;cases h;simp [ih hl]
            ·cases h
           ·cases h
         have:=h1 hbs
         simp at this ⊢;omega
        cases g2 with
        | sl hgb hle hz hmx hck =>
         rename_i gc go gz cap
         have hB:=(hR.blk g _ gc go gz hgm hgb).2
         obtain ⟨us,r1,r2,-⟩:=part_row hB 0 n
         rw [List.drop_zero] at r1
         have r3:=toBs_ok hbs r1
         obtain ⟨arr,t,fr,k1,k2,k3,k4,k5⟩:=hB
         obtain ⟨rfl,rfl⟩:=k3.2 _ rfl
         have hfr:=k3.1 rfl
         subst hfr
         have hcall:=str_some w c (o + off) gc cap arr (x :: l) (by rw [hlen];simpa using g1) k1 (by simp) (by omega) (by omega) hmx fun j y hj=>by
          have:=r2 j (.int .u8 y.toNat) (by rw [r3,List.getElem?_map,hj];rfl)
          simpa using this
         obtain ⟨o1,o2,o3,o4,o5⟩:=freeze_outer w.drew gc (x :: l).length
         obtain ⟨fr',k6⟩:=freeze_in w.drew gc (x :: l).length arr _ _ k1
         refine hcall.mono fun en w' ⟨q1,q2⟩=>⟨_,e,F,q1,.str _,?_,?_⟩
         ·rw [q2]
          exact hR.turn hgm rfl hgb l3 l4 rfl (Nat.le_of_eq o4.symm) (fun d _ hd=>o5 d hd) ⟨arr,_,fr',k6,k2,⟨nofun,k3.2⟩,k4,k5⟩
         ·rw [q2]
          exact Nxt.turn hR hgm hgb l3 l4 (Nat.le_of_eq o4.symm) (fun d _ hd=>o5 d hd) ⟨o1,o2,o3⟩
        | sle off' es o' hgb=>simp at hlen
      ·cases h
    ·cases h
   ·cases h
  ·cases h
 ·cases h
end
section
open Go.RowKit
def toSs:List SV→Option (List (List UInt8))
 | []=>some []
 | v :: t=>match v with
  | .str s=>match toSs t with
   | some l=>some (s :: l)
   | none=>none
  | _=>none
theorem toSs_ok:∀ {vs:List SV} {l:List (List UInt8)} {e:Env} {us:List Value},toSs vs=some l→VRs e vs us→us=l.map fun s=>Value.string (bs s)
 | [],l,e,us,h,hv=>by cases h;cases hv;rfl
 | v :: t,l,e,us,h,hv=>by
  unfold toSs at h
  split at h
  ·split at h
   ·rename_i l' hl
    cases h
    cases hv with
    | cons h1 h2=>cases h1;rw [toSs_ok hl h2];rfl
   ·cases h
  ·cases h
theorem toSs_len:∀ {vs:List SV} {l:List (List UInt8)},toSs vs=some l→l.length=vs.length
 | [],l,h=>by cases h;rfl
 | v :: t,l,h=>by
  unfold toSs at h
  split at h
  ·split at h
   ·rename_i l' hl;cases h;simp [toSs_len hl]
   ·cases h
  ·cases h
theorem mapbs (ls:List (List UInt8)):(ls.map bs).map (·.data.toList)=ls:=by
 rw [List.map_map]
 conv=>rhs;rw [← List.map_id ls]
 rfl
def xJoin:ExtF:=fun vs st=>match vs with
 | [x,.str sep]=>match x with
  | .nils=>some (.str [],st)
  | .emp _ _=>some (.str [],st)
  | .sl b off n 1 _=>match st.m.get b with
   | some (.cells cs _ _ _)=>bif Nat.ble (off + n) cs.length && Nat.ble n 1000000000 then match toSs ((cs.drop off).take n) with
    | some l=>let r:=Lib.join l sep;bif Nat.ble r.length 1000000000 then some (.str r,st) else none
    | none=>none
    else none
   | _=>none
  | _=>none
 | _=>none
theorem xJoin_ok:ExtOk 300 xJoin:=fun w0 vs st v st' h=>by
 unfold xJoin at h
 split at h
 ·rename_i x sep
  split at h
  ·cases h
   refine ext_reader fun e w F us hR hvs=>?_
   obtain ⟨u,us,rfl,hu,hvs⟩:=vrs_cons hvs
   obtain ⟨u2,us,rfl,hu2,hvs⟩:=vrs_cons hvs
   cases vrs_nil hvs
   cases hu;cases hu2
   exact ⟨_,.str _,(Tryz.strings_Join_none none 0 (bs sep) w).mono fun en w' ⟨q1,q2⟩=>⟨q1,by rw [q2];exact Bl.refl w⟩⟩
  ·cases h
   refine ext_reader fun e w F us hR hvs=>?_
   obtain ⟨u,us,rfl,hu,hvs⟩:=vrs_cons hvs
   obtain ⟨u2,us,rfl,hu2,hvs⟩:=vrs_cons hvs
   cases vrs_nil hvs
   cases hu2
   cases hu<;>exact ⟨_,.str _,(Tryz.strings_Join_none _ _ (bs sep) w).mono fun en w' ⟨q1,q2⟩=>⟨q1,by rw [q2];exact Bl.refl w⟩⟩
  ·rename_i b off n ck
   split at h
   ·rename_i cs ro sib ty hm
    cases hc:Nat.ble (off + n) cs.length && Nat.ble n 1000000000 with
    | false=>rw [hc] at h;cases h
    | true =>
     rw [hc,cond_true] at h
     simp only [Bool.and_eq_true] at hc
     have c1:=zB hc.1
     have c2:=zB hc.2
     split at h
     ·rename_i l hl
      simp only at h
      cases hr:Nat.ble (Lib.join l sep).length 1000000000 with
      | false=>rw [hr] at h;cases h
      | true =>
       rw [hr,cond_true] at h;cases h
       have c3:=zB hr
       refine ext_reader fun e w F us hR hvs=>?_
       obtain ⟨u,us,rfl,hu,hvs⟩:=vrs_cons hvs
       obtain ⟨u2,us,rfl,hu2,hvs⟩:=vrs_cons hvs
       cases vrs_nil hvs
       cases hu2
       have hlen:l.length=n:=by have:=toSs_len hl;simp at this;omega
       cases hu with
       | sl hb hle hz hmx hck =>
        rename_i c o z cap
        have hB:=(hR.blk b _ c o z hm hb).2
        obtain ⟨us,r1,r2,-⟩:=part_row hB off n
        have r3:=toSs_ok hl r1
        have:=Tryz.strings_Join c (o + off) cap (l.map bs) (bs sep) w (fun j x hj=>by
         have:=r2 j (.string x) (by rw [r3,List.getElem?_map];rw [List.getElem?_map] at hj;cases hq:l[j]? with | none=>rw [hq] at hj;cases hj | some y=>rw [hq] at hj;cases hj;rfl)
         rwa [← Nat.add_assoc] at this) hB.lt (by simp;omega) (by simp;omega) (by rw [mapbs];exact Nat.le_trans c3 (by decide))
        rw [mapbs,List.length_map,hlen] at this
        exact ⟨_,.str _,this.mono fun en w' ⟨q1,q2⟩=>⟨q1,q2⟩⟩
       | sle off' es o' hb =>
        have:l=[]:=List.eq_nil_of_length_eq_zero hlen
        subst this
        exact ⟨_,.str _,(Tryz.strings_Join_none _ _ (bs sep) w).mono fun en w' ⟨q1,q2⟩=>⟨q1,by rw [q2];exact Bl.refl w⟩⟩
     ·cases h
   ·cases h
  ·cases h
 ·cases h
def xIndex:ExtF:=fun vs st=>match vs with
 | [.str s,.str u]=>bif Nat.ble s.length 1000000000 then some (.int .i64 (Lib.index s u),st) else none
 | _=>none
def xCut:ExtF:=fun vs st=>match vs with
 | [.str s,.str u]=>bif Nat.ble s.length 1000000000 then some (.tup [.str (Lib.cut s u).1,.str (Lib.cut s u).2.1,.bool (Lib.cut s u).2.2],st) else none
 | _=>none
def xHasSuffix:ExtF:=fun vs st=>match vs with
 | [.str s,.str u]=>bif Nat.ble s.length 1000000000 then some (.bool (Lib.hasSuffix s u),st) else none
 | _=>none
def xRepeat:ExtF:=fun vs st=>match vs with
 | [.str s,.int .i64 (.ofNat n)]=>bif Nat.ble (s.length * n) 1000000000 && Nat.ble n 1000000000 then some (.str (Lib.repeatL s n),st) else none
 | _=>none
end
end Go.Proofs.YtlbcbikplfocfaaGreatDoor.W.E
