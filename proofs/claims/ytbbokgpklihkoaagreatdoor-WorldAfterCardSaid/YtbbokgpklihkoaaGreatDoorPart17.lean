/- Merge2 Order Obj Of Inst -/
import Derived.Test.YtbbokgpklihkoaaGreatDoorPart16
import Derived.Sort.CutIn
set_option linter.unusedVariables false
set_option linter.unusedSimpArgs false
namespace Go.Proofs.YtbbokgpklihkoaaGreatDoor.W
section
open Go.RowKit Go.Shelf
attribute [local go_sem] Oper.semAt_some
theorem wpIn_scope {P:Program} {n:Nat} {c:Code} {Q:Exit→Go.Act→World→Prop} {a:Go.Act} {w:World} (h:c.wpIn Fence.wide n P (Exit.noGoto Q) a w):(Code.scope c).wpIn Fence.wide n P Q a w :=
 wpIn_wide.2 (wp_scope_straight (wpIn_wide.1 h))
set_option maxRecDepth 100000 in
set_option maxHeartbeats 16000000 in
theorem merge_any (w:World) (x:Value) (F:Foot) (rows:List (List Int)) (hx:Rx F w x rows) (hl:rows.length≤big) (ht:total rows≤big) :
  Calls Tryz.prog 359 #[x] w fun e w'=>Bl w w'∧match mergeF (total rows) rows [] with
   | some l=>∃ y,e=.returned (.tuple #[y,.bool true])∧Ix (fun b=>b < w.heap.size) w' y l
   | none=>e=.returned (.tuple #[.slice none 0 0,.bool false]):=by
 obtain ⟨i0,hi,hz0,hz1,hz2⟩:=info_parts Tryz.infoI
 have cl:Calls Tryz.prog 436 #[x] w fun e w'=>∃ (a:Option Addr) (c:Nat) (xs:List Value),e=.returned (.slice a rows.length c)∧Bl w w'∧w'.ownsRow w.heap.size 114 1 (.slice a rows.length c) rows.length xs∧∀ (j:Nat) (y:Value) (r:List Int),xs[j]?=some y→rows[j]?=some r→Ix (fun _=>False) w y r:=by
  rcases hx.is with ⟨rfl,rfl⟩ | ⟨b,o,c,xs,rfl,q0,q1,q2,q3,q4,q5⟩
  ·exact (clone_rows_nil w).mono fun e w' ⟨h1,h2⟩=>by subst h2;exact ⟨none,0,[],h1,Bl.refl _,World.ownsRow_nil _ _ _ _,fun j y r h=>by simp at h⟩
  ·replace hl:rows.length≤1048576:=hl
   refine (clone_rows w b o rows.length c xs (by omega) q4 (fun u hu=>?_) q0 (by unfold maxLen;omega) (by omega)).mono ?_
   ·obtain ⟨j,hj⟩:=List.mem_iff_getElem?.1 hu
    have hjl:=(List.getElem?_eq_some_iff.1 hj).1
    obtain ⟨a,c',e,-⟩:=(q5 j u rows[j] hj (List.getElem?_eq_getElem (by omega))).form
    rw [e];rfl
   ·rintro e w' ⟨y,rfl,ho,hb⟩
    obtain ⟨a,c',rfl,-⟩:=row_form ho
    exact ⟨a,c',xs,rfl,hb,ho,fun j y r h1 h2=>by
     have:=q5 j y r h1 h2
     exact ⟨this.is,fun _ _ _ _ _ h=>h⟩⟩
 obtain ⟨xa,xc,rfl,-⟩:=hx.form
 replace hl:rows.length≤1048576:=hl
 replace ht:total rows≤1048576:=ht
 have HLT:=zH (And.intro hl ht)
 obtain ⟨R,hR⟩:∃ R,R=mergeF (total rows) rows []:=⟨_,rfl⟩
 rw [← hR]
 have HR:=zH hR
 obtain ⟨N,hN⟩:∃ N,N=rows.length:=⟨_,rfl⟩
 rw [← hN] at cl ⊢
 have HN:=zH hN
 clear hx hl ht hR hN
 refine (callsIn_wide (n:=3)).1 ?_
 refine callsIn_of_wp_marks Tryz.func359 rfl trivial ?_ rfl
 simp only [Tryz.ntmps359,zS,Nat.reduceAdd,Nat.reduceSub]
 gi_wp2
 refine wpIn_scope ?_
 gi_wp2_with (refine ⟨trivial,?_⟩;gi_at_call 436;refine (callsIn_wide.2 cl).mono ?_;rintro e W1 ⟨ra,rc,xs,rfl,hb1,ho1,hix1⟩)
 refine wpIn_label ?_
 have hm0:MSt w W1.heap.size (W1.heap.size + 1) ((W1.alloc (.cells #[.slice ra N rc] 217)).alloc (.cells #[.slice none 0 0] 114)) rows [] xs (.slice ra N rc) (.slice none 0 0):=by
  have hbb:Bl W1 ((W1.alloc (.cells #[.slice ra N rc] 217)).alloc (.cells #[.slice none 0 0] 114)):=by (repeat (first | exact qA _ | assumption | refine qB ?_ _ | refine qC ?_ | refine qD ?_ _ | refine qE ?_ _ (by simp<;>omega) _))
  have hbs:=hb1.sz
  have hown:=ho1
  refine ⟨hb1.trans hbb,by rw [← HN.out];exact ⟨(Below.heap_alloc _ _ _ (by rw [zL];omega)).trans (MapKept.heap_alloc W1 _).1,⟨ho1.1,ho1.2.elim .inl fun ⟨g,cap,cur,e,h0,hg,q⟩=>.inr ⟨g,cap,cur,e,h0,(hbb.at (zN hg).1).trans hg,q⟩⟩⟩,hix1,⟨?_,World.ownsRow_nil _ _ _ _⟩,?_,by omega,by omega⟩
  ·have:=(MapKept.heap_alloc (W1.alloc (.cells #[.slice ra N rc] 217)) (.cells #[.slice none 0 0] 114)).1
   rw [zL] at this
   exact this
  ·rintro b (rfl | hb) (h | h)
   ·omega
   ·cases h
   ·have:=(hown.lt b hb).2;omega
   ·cases h
 have HM0:=zH hm0
 have HSZ:=zH hb1.sz
 clear hm0 hb1 ho1 hix1 cl
 obtain ⟨rb,hrb⟩:∃ rb,rb=W1.heap.size:=⟨_,rfl⟩
 gi_wp2
 rw [← hrb] at HM0 ⊢
 have HRB:=zH hrb
 clear hrb
 refine wpIn_loop (fun (act:Go.Act) (wr:World)=>∃ (x2 x3 x6 x7 x8 x9 x12 x13 x14 x15 x16 x17 x18 x19 x20 x21 x22 x23 x24 x25 x26 x27 x28 x29 x30 x31 x32 x33 x34 x35 x36 x37 x38 x39 x40 x41 x42 x43 x44 x45 x46:Value) (ds:List Nat),act={ tmps:=#[.slice xa N xc,undef,x2,x3,.pointer (some ⟨rb,0,none⟩),.pointer (some ⟨rb + 1,0,none⟩),x6,x7,x8,x9,.slice xa N xc,.slice ra N rc,x12,x13,x14,x15,x16,x17,x18,x19,x20,x21,x22,x23,x24,x25,x26,x27,x28,x29,x30,x31,x32,x33,x34,x35,x36,x37,x38,x39,x40,x41,x42,x43,x44,x45,x46],defers:=ds.map mark }∧ds.Nodup∧Mk ds wr∧(∀ d∈ds,w.heap.size≤d) ∧
  ∃ (rows':List (List Int)) (out:List Int) (xs:List Value) (vo:Value) (n:Nat) (a:Option Addr) (c:Nat),MSt w rb (rb + 1) wr rows' out xs (.slice a N c) vo∧rows'.length=N∧total rows'≤n∧mergeF n rows' out=R∧out.length + total rows'≤total rows) (fun _ wr=>total rows - sliceLen wr (rb + 1)) ?_ ?_
 ·exact ⟨_,_,_,_,_,_,_,_,_,_,_,_,_,_,_,_,_,_,_,_,_,_,_,_,_,_,_,_,_,_,_,_,_,_,_,_,_,_,_,_,_,[],rfl,by simp,(fun d hd=>by cases hd),(fun d hd=>by cases hd),rows,[],xs,_,total rows,ra,rc,HM0.out,HN.out.symm,Nat.le_refl _,HR.out.symm,by simp⟩
 ·rintro act wr ⟨x2,x3,x6,x7,x8,x9,x12,x13,x14,x15,x16,x17,x18,x19,x20,x21,x22,x23,x24,x25,x26,x27,x28,x29,x30,x31,x32,x33,x34,x35,x36,x37,x38,x39,x40,x41,x42,x43,x44,x45,x46,ds,rfl,hnd,hmk,hge,rows',out,xs,vo,n,a,c,hs,hlen,htn,hmf,hol⟩
  have HDS:=zH (And.intro hnd (And.intro hmk hge))
  clear hnd hmk hge
  have HS:=zH (And.intro hs (And.intro hlen (And.intro htn (And.intro hmf hol))))
  obtain ⟨q1,q2⟩:=hs.rest.cells
  have hrl:rb < wr.heap.size:=hs.lt _ (.inl (.inl rfl))
  have hrn:¬ rb=wr.heap.size:=by omega
  clear hs hlen htn hmf hol
  gi_wp2_with (refine ⟨trivial,?_⟩;gi_at_call 437;refine (callsIn_wide.2 (heads_any _ _ _ _)).mono ?_;rintro e w' ⟨rfl,rfl⟩)
  refine named (p:=fun W=>Code.wpIn _ _ _ _ _ _ W) (fun W4 hW4=>?_)
  have hb4:Bl wr W4:=by rw [hW4];(repeat (first | exact qA _ | assumption | refine qB ?_ _ | refine qC ?_ | refine qD ?_ _ | refine qE ?_ _ (by simp<;>omega) _))
  have hs4:W4.heap.size=wr.heap.size + 2:=by rw [hW4,zL,zL]
  have he4:W4.heap[wr.heap.size]?=some (.cells #[.bool true] 4 (0,0)):=by
   rw [hW4];exact (Below.heap_alloc _ _ _ (by rw [zL];omega)).trans (MapKept.heap_alloc wr _).1
  have hh4:W4.cell? ⟨wr.heap.size + 1,0,none⟩=some (.slice a N c):=by
   rw [hW4]
   have:=(MapKept.heap_alloc (wr.alloc (.cells #[.bool true] 4)) (.cells #[.slice a N c] 217)).1
   rw [zL] at this
   rw [cell_of this];rfl
  have hs:=HS.out.1
  have hlim:=hs.lt
  have hm4:=hs.blx hb4
  have HW4:=zH hb4
  have HS4:=zH hs4
  have hlen2:rows'.length=N:=HS.out.2.1
  have hrl2:∀ r∈rows',r.length≤1048576:=fun r hr=>by
   have h1:=len_total hr
   have h2:=HS.out.2.2.2.2
   have h3:=HLT.out.2
   omega
  have hol:out.length≤1048576:=by
   have h2:=HS.out.2.2.2.2
   have h3:=HLT.out.2
   omega
  have HRL:=zH hrl2
  have HLIM:=zH hlim
  have hNl:rows'.length≤1048576:=by
   have:=HN.out
   have h3:=HLT.out.1
   omega
  have HNL:=zH hNl
  clear hW4 hs hb4 hNl hlim q1 q2
  refine range_fnR (gf:=479) (lb:=#[.pointer (some ⟨wr.heap.size + 1,0,none⟩)]) rfl (enters_of Tryz.func479 (by kernel_rfl) rfl) (heads_seq (wr.heap.size + 1) (.slice a N c) rows' HNL.out hrl2) ?_
   (MI w ds rb (rb + 1) wr.heap.size (wr.heap.size + 1) W4.heap.size rows' out xs (.slice a N c) vo) (MX w ds rb (rb + 1) W4.heap.size rows' out (.slice a N c)) ?stI ?stX ?ltI ?hR (fun b=>b < W4.heap.size) ?h0 ?hround ?hdone ?hstop
  ·intro x hx
   obtain ⟨p,-,rfl⟩:=List.mem_map.1 hx
   rfl
  case stI =>
   rintro k F W W' i hk
   exact ⟨i.s.kp hk (fun b hb=>i.cov b (by have:=i.small.1;omega)) (fun b hb=>i.cov b (i.small.2.2.2 b hb)),(hk.block _ (i.cov _ i.small.2.1)).trans i.e,(World.cell?_of_block (w:=W) (a:=⟨wr.heap.size + 1,0,none⟩) (hk.block _ (i.cov _ i.small.2.2.1))).trans i.h,i.n,i.cov,fun b hb=>Nat.lt_of_lt_of_le (i.lt b hb) hk.size,i.small,i.ap,fun d hd=>(hk.block d (i.cov d (i.mks.2 d hd))).trans (i.mks.1 d hd),i.mks.2⟩
  case stX =>
   rintro c F W W' i hk
   obtain ⟨x,xs2,vo2,h1,h2,h3⟩:=i.s
   exact ⟨i.c,⟨x,xs2,vo2,h1,h2.kp hk (fun b hb=>i.cov b (by have:=i.small;omega)) h3,h3⟩,i.cov,fun b hb=>Nat.lt_of_lt_of_le (i.lt b hb) hk.size,i.small,fun d hd=>(hk.block d (i.cov d (i.mks.2 d hd))).trans (i.mks.1 d hd),i.mks.2⟩
  case ltI=>rintro k F W i;exact i.lt
  case hR=>rintro k F W i;exact ⟨i.h,i.s.rx⟩
  case h0 =>
   refine ⟨hm4,he4,hh4,by simp,fun b hb=>hb,fun b hb=>hb,⟨?_,by omega,by omega,fun b hb=>by have:=HLIM.out b hb;omega⟩,⟨fun hf=>?_,fun hf=>?_,by omega⟩,HDS.out.2.1.bl HW4.out,fun d hd=>by have:=HDS.out.2.1.lt d hd;omega⟩
   ·have:=hm4.bl.sz;omega
   ·have:=HLIM.out _ hf;omega
   ·have:=HLIM.out _ hf;omega
  case hround =>
   rintro l k x F W K hx hI hnl hll hK
   obtain ⟨h,hh,rfl⟩:∃ h,(headsOf rows')[k]?=some h∧x=#[.int .i64 h]:=by
    unfold intArgs at hx
    rw [List.getElem?_map] at hx
    cases hp:(headsOf rows')[k]? with
    | none=>rw [hp] at hx;cases hx
    | some p=>rw [hp] at hx;injection hx with hx;exact ⟨p,rfl,hx.symm⟩
   have HK:=zH hK
   have HI:=zH hI
   have HH:=zH hh
   clear hK hI hx hh
   gi_wp2
   refine HK.out _ _ (by (repeat (first | exact qA _ | assumption | refine qB ?_ _ | refine qC ?_ | refine qD ?_ _ | refine qE ?_ _ (by simp<;>omega) _))) ?_
   intro Wb hWb hsb hos htp hou
   have hkp:Keep F W Wb:=⟨hos,htp,hou,by omega,fun b hb=>hWb b (fun e=>hnl (by rw [← e];exact hb))⟩
   have hIb:MI w ds rb (rb + 1) wr.heap.size (wr.heap.size + 1) W4.heap.size rows' out xs (.slice a N c) vo k F Wb:=by
    have i:=HI.out
    exact ⟨i.s.kp hkp (fun b hb=>i.cov b (by have:=i.small.1;omega)) (fun b hb=>i.cov b (i.small.2.2.2 b hb)),(hkp.block _ (i.cov _ i.small.2.1)).trans i.e,(World.cell?_of_block (w:=W) (a:=⟨wr.heap.size + 1,0,none⟩) (hkp.block _ (i.cov _ i.small.2.2.1))).trans i.h,i.n,i.cov,fun b hb=>by rw [hsb];exact i.lt b hb,i.small,i.ap,fun d hd=>(hkp.block d (i.cov d (i.mks.2 d hd))).trans (i.mks.1 d hd),i.mks.2⟩
   have hlW:l < Wb.heap.size:=by omega
   obtain ⟨q1,q2⟩:=hIb.s.rest.cells
   have hle:=hIb.lt _ (hIb.cov _ hIb.small.2.1)
   have hlr:=hIb.s.lt _ (.inl (.inl rfl))
   have hne:¬ rb=wr.heap.size:=fun e=>hIb.ap.1 (by rw [← e];exact .inl (.inl rfl))
   have e0:Wb.cell? ⟨wr.heap.size,0,none⟩=some (.bool (decide (k=0))):=by rw [cell_of hIb.e];rfl
   have ef:Wb.frozen? ⟨wr.heap.size,0,none⟩=false:=by simp [World.frozen?,hIb.e]
   have hs6:MSt w rb (rb + 1) (Wb.setCell ⟨wr.heap.size,0,none⟩ (.bool false)) rows' out xs (.slice a N c) vo:=by
    refine hIb.s.keep (fun b hb=>Below.heap_setCell _ _ _ _ (fun e=>hIb.ap.1 (by have e2:b=wr.heap.size:=e;rw [← e2];exact hb))) ?_
    have hw:w.heap.size≤wr.heap.size:=HS.out.1.bl.sz
    exact hIb.s.bl.set' _ hw _
   have cb:=behind_any (Wb.setCell ⟨wr.heap.size,0,none⟩ (.bool false)) (.slice a N c) _ rows' hs6.rx HNL.out HRL.out h
   obtain ⟨t,ht⟩:∃ t,t=rows'.any (behindR · h):=⟨_,rfl⟩
   rw [← ht] at cb
   have HIB:=zH hIb
   have HS6:=zH hs6
   have HT:=zH ht
   have HNL2:=zH (And.intro hnl hlW)
   clear hWb hkp hIb hs6 ht hos htp hou hll hsb
   obtain ⟨oa,oc,hvo⟩:=HIB.out.s.out.form
   cases t with
   | true =>
    gi_wp2_with (refine ⟨trivial,?_⟩;gi_at_call 438;refine ((callsIn_wide.2 cb).inRound l).mono ?_;rintro e W7 ⟨rfl,hb7⟩)
    have hb7':=hb7
    refine ⟨F,?_,?_⟩
    ·have h1:=(Step.refl HIB.out.lt:Step Wb.heap.size F Wb Wb F).setCell (p:=⟨wr.heap.size,0,none⟩) (.inr (HIB.out.cov _ HIB.out.small.2.1)) (.bool false)
     exact h1.bl hb7 (by rw [World.size_setCell];exact Nat.le_refl _)
    ·have i:=HIB.out
     have hoth:∀ b,b≠wr.heap.size→(Wb.setCell ⟨wr.heap.size,0,none⟩ (.bool false)).heap[b]?=Wb.heap[b]?:=fun b h=>Below.heap_setCell _ _ _ _ h
     have hsz:=hb7.sz
     rw [World.size_setCell] at hsz
     refine ⟨HS6.out.blx hb7,?_,hb7.sm ((World.cell?_of_block (w:=Wb) (a:=⟨wr.heap.size + 1,0,none⟩) (hoth _ (show wr.heap.size + 1≠wr.heap.size by omega))).trans i.h),fun x hx=>?_,i.cov,fun b hb=>Nat.lt_of_lt_of_le (i.lt b hb) hsz,i.small,i.ap,(i.mks.1.setCell i.e 0 _).bl hb7,i.mks.2⟩
     ·rw [hb7.at (by rw [World.size_setCell];exact hle),heap_setCell_same Wb wr.heap.size 0 _ _ _ i.e]
      simp
     ·rw [List.take_add_one,HH.out] at hx
      rcases List.mem_append.1 hx with hx | hx
      ·exact i.n x hx
      ·simp at hx;rw [hx];exact HT.out.symm
   | false =>
    obtain ⟨qo1,qo2⟩:=HS6.out.out.cells
    subst hvo
    gi_upto_region 8 with (refine ⟨trivial,?_⟩;gi_at_call 438;refine ((callsIn_wide.2 cb).inRound l).mono ?_;rintro e W7 ⟨rfl,hb7⟩;have q7:=hb7.sm qo1)
    have hs7:=HS6.out.blx hb7
    obtain ⟨g',cap',w4,ap,d1,d2,hs8,hst8,hmk8⟩:=hs7.push h hol
    have hMK8:=hmk8 ds ((HIB.out.mks.1.setCell HIB.out.e 0 _).bl hb7)
    have HMK8:=zH hMK8
    clear hmk8 hMK8
    have hR7:Step Wb.heap.size F Wb W7 F:=((Step.refl HIB.out.lt:Step Wb.heap.size F Wb Wb F).setCell (p:=⟨wr.heap.size,0,none⟩) (.inr (HIB.out.cov _ HIB.out.small.2.1)) (.bool false)).bl hb7 (by rw [World.size_setCell];exact Nat.le_refl _)
    have hR8:=hR7.call hR7.size (hst8 F (fun b hb=>HIB.out.cov b (HIB.out.small.2.2.2 b hb)) hR7.lt)
    obtain ⟨q81,q82⟩:=hs8.rest.cells
    have HS8:=zH hs8
    have HR8:=zH hR8
    have hl7:rb + 1 < W7.heap.size:=hs7.lt _ (.inr (.inl rfl))
    have hn7:¬ rb + 1=W7.heap.size:=by omega
    clear hs7 hs8 hst8 hR7 hR8 hb7 qo1 qo2 cb q1 q2 e0 ef
    gi_wp2_with (gi_at_builtin;refine wpListIn_app rfl (.tmp 18) (.tmp 20) 114 rfl (.slice oa out.length oc) (.slice (some ⟨W7.heap.size,0,none⟩) 1 1) (by simp [Go.Act.eval]) (by simp [Go.Act.eval]) (.slice (some ⟨g',0,none⟩) (out.length + 1) cap') w4 ap ?_)
    have hA:0 < N→∃ g,a=some ⟨g,0,none⟩∧F g:=fun hpos=>by
     rcases HS8.out.rest.row.2 with ⟨e,-⟩ | ⟨g,cap,cur,e,-⟩
     ·injection e with _ e2 _;omega
     ·injection e with e1 _ _
      exact ⟨g,e1,HIB.out.cov g (HIB.out.small.2.2.2 g (.inl (.inr (by rw [e1];rfl))))⟩
    have HAA:=zH hA
    have hNN:N≤1048576:=by have:=HNL.out;omega
    have HLEN:=zH hlen2
    have HRR:=zH (And.intro hrl2 hol)
    clear hA hrl2 hol hlen2 q81 q82 d1 d2 ap q7
    gi_loopw [8,9,24] (fun _ _ v24 wi=>∃ (i:Nat) (xs2:List Value),i≤N∧v24=.int .i64 i∧MSt w rb (rb + 1) wi (mixed rows' h i) (out++[h]) xs2 (.slice a N c) (.slice (some ⟨g',0,none⟩) (out.length + 1) cap')∧Step Wb.heap.size F Wb wi (fun b=>F b∨b=g')∧Mk ds wi) (fun _ _ v24 _=>N - (intOf v24).toNat)
    case atStart=>exact ⟨0,xs,Nat.zero_le _,rfl,by rw [mixed_zero];exact HS8.out,HR8.out,HMK8.out⟩
    case round =>
     rename World=>wi
     obtain ⟨i,xs2,hi,rfl,hsi,hsti,hmki⟩:=hrel
     have HMKI:=zH hmki
     clear hmki
     by_cases hlt:i < N
     ·obtain ⟨g,rfl,hFg⟩:=HAA.out (by omega)
      obtain ⟨r,hr⟩:∃ r,rows'[i]?=some r:=⟨_,List.getElem?_eq_getElem (by rw [HLEN.out];exact hlt)⟩
      have hmi:=mixed_at (m:=h) hr
      have hxl:=hsi.len
      rw [mixed_len,HLEN.out] at hxl
      obtain ⟨y,hy⟩:∃ y,xs2[i]?=some y:=⟨_,List.getElem?_eq_getElem (by rw [hxl];exact hlt)⟩
      have hix:=hsi.ix i y r hy hmi
      have hixW:=hix.bl hsi.bl
      have hrow:wi.ownsRow w.heap.size 114 1 (.slice (some ⟨g,0,none⟩) N c) N xs2:=by have:=hsi.rest.row;rwa [mixed_len,HLEN.out] at this
      have y0:wi.cell? ⟨g,i,none⟩=some y:=by rw [hrow.cellAt i (by omega)];exact hy
      have yf:wi.frozen? ⟨g,i,none⟩=false:=hrow.frozenAt i
      have hstep:=mixed_succ (m:=h) hr
      have hrlen:=HRR.out.1 r (List.mem_of_getElem? hr)
      obtain ⟨ya,yc,rfl,hyc,hya,hcell⟩:=hixW.form
      obtain ⟨q81,q82⟩:=hsi.rest.cells
      have hset:(mixed rows' h i).set i r=mixed rows' h i:=by
       refine List.ext_getElem? fun j=>?_
       by_cases e:i=j
       ·subst e;rw [List.getElem?_set_self (List.getElem?_eq_some_iff.1 hmi).1,hmi]
       ·rw [List.getElem?_set_ne e]
      cases r with
      | nil =>
       have HREL:=zH (show MSt w rb (rb + 1) wi (mixed rows' h (i + 1)) (out++[h]) xs2 (.slice (some ⟨g,0,none⟩) N c) (.slice (some ⟨g',0,none⟩) (out.length + 1) cap')∧Step Wb.heap.size F Wb wi (fun b=>F b∨b=g') from ⟨by rw [hstep];show MSt _ _ _ _ ((mixed rows' h i).set i []) _ _ _ _;rw [hset];exact hsi,hsti⟩)
       rw [List.length_nil] at y0
       clear hsi hsti hix hixW hcell hya hmi hr hy hstep hset hxl hrlen hyc
       gi_wp2
       go_roundw
       case rel=>exact ⟨i + 1,xs2,by omega,by go_num,HREL.out.1,HREL.out.2,HMKI.out⟩
       case measure=>simp [intOf];omega
      | cons m t =>
       obtain ⟨yb,yo,rfl,hyb,-⟩:=hya (by simp)
       have z0:wi.cell? ⟨yb,yo,none⟩=some (.int .i64 m):=by have:=hcell yb yo rfl 0 m rfl;simpa using this
       rw [List.length_cons] at y0 hrlen hyc hix
       by_cases e:m=h
       ·have t0:(m == h)=true:=by simpa using e
        have htl:=hix.tail
        have hnew:=hsi.setRow (i:=i) htl
        have hstw:Step Wb.heap.size F Wb (wi.setCell ⟨g,i,none⟩ (.slice (if yc=1 then some ⟨yb,yo,none⟩ else some ⟨yb,yo + 1,none⟩) t.length (yc - 1))) (fun b=>F b∨b=g'):=hsti.setCell (.inr hFg) _
        have hst2:(mixed rows' h i).set i t=mixed rows' h (i + 1):=by rw [hstep];simp [stepRow,e]
        rw [hst2] at hnew
        have hgb:∃ cur,wi.heap[g]?=some (.cells cur 114 (0,0)):=by
         rcases hrow.2 with ⟨e3,-⟩ | ⟨g2,cap2,cur,e3,-,hg2,-⟩
         ·cases e3
         ·cases e3;exact ⟨cur,hg2⟩
        obtain ⟨cur,hgb⟩:=hgb
        have hnm:=fun y=>(HMKI.out.setCell hgb i y).bl (Bl.dr _)
        have HNM:=zH (hnm (.slice (if yc=1 then some ⟨yb,yo,none⟩ else some ⟨yb,yo + 1,none⟩) t.length (yc - 1)))
        clear hgb hnm
        by_cases h1:yc=1
        ·subst h1
         have ht0:t=[]:=List.eq_nil_of_length_eq_zero (by omega)
         subst ht0
         rw [if_pos rfl] at hnew hstw HNM
         have HREL:=zH (And.intro (hnew.blx (Bl.dr _)) (hstw.drew))
         clear hsi hsti hix hixW hcell hya hmi hr hy hstep hset hxl hrlen hyc e htl hnew hstw hst2 hrow
         simp only [List.length_nil,Nat.zero_add] at y0
         gi_wp2
         gi_region
         all_goals
          gi_wp2
          go_roundw
          case rel=>exact ⟨i + 1,_,by omega,by go_num,HREL.out.1,HREL.out.2,HNM.out⟩
          case measure=>simp [intOf];omega
        ·rw [if_neg h1] at hnew hstw HNM
         have HREL:=zH (And.intro (hnew.blx (Bl.dr _)) (hstw.drew))
         clear hsi hsti hix hixW hcell hya hmi hr hy hstep hset hxl e htl hnew hstw hst2 hrow
         gi_wp2
         gi_region
         all_goals
          gi_wp2
          go_roundw
          case rel=>exact ⟨i + 1,_,by omega,by go_num,HREL.out.1,HREL.out.2,HNM.out⟩
          case measure=>simp [intOf];omega
       ·have t0:(m == h)=false:=by simpa using e
        have HREL:=zH (show MSt w rb (rb + 1) wi (mixed rows' h (i + 1)) (out++[h]) xs2 (.slice (some ⟨g,0,none⟩) N c) (.slice (some ⟨g',0,none⟩) (out.length + 1) cap')∧Step Wb.heap.size F Wb wi (fun b=>F b∨b=g') from ⟨by rw [hstep,show stepRow h (m :: t)=m :: t by simp [stepRow,e]];rw [hset];exact hsi,hsti⟩)
        clear hsi hsti hix hixW hcell hya hmi hr hy hstep hset hxl e
        gi_wp2
        go_roundw
        case rel=>exact ⟨i + 1,xs2,by omega,by go_num,HREL.out.1,HREL.out.2,HMKI.out⟩
        case measure=>simp [intOf];omega
     ·obtain rfl:i=N:=by omega
      have HREL:=zH (show MX w ds rb (rb + 1) W4.heap.size rows' out (.slice a i c) (Code.exit 1) (fun b=>F b∨b=g') wi∧Step Wb.heap.size F Wb wi (fun b=>F b∨b=g') from by
       rw [mixed_all HLEN.out.symm] at hsi
       refine ⟨⟨rfl,⟨h,xs2,_,find_first (k:=k) (fun y hy=>by rw [HIB.out.n y hy];rfl) HH.out (by show (!behindB rows' h)=true;rw [show behindB rows' h=false from HT.out.symm];rfl),hsi,?_⟩,fun b hb=>.inl (HIB.out.cov b hb),hsti.lt,HIB.out.small.1,HMKI.out,HIB.out.mks.2⟩,hsti⟩
       rintro b ((rfl | hb) | (rfl | hb))
       ·exact .inl (HIB.out.cov _ (HIB.out.small.2.2.2 _ (.inl (.inl rfl))))
       ·exact .inl (HIB.out.cov _ (HIB.out.small.2.2.2 _ (.inl (.inr hb))))
       ·exact .inl (HIB.out.cov _ (HIB.out.small.2.2.2 _ (.inr (.inl rfl))))
       ·cases hb;exact .inr rfl)
      clear hsi hsti
      gi_wp2
      exact ⟨_,HREL.out.2,HREL.out.1⟩
  case hdone =>
   rintro F' W' hst hI hD hnD
   have hall:(headsOf rows').find? (fun x=>!behindB rows' x)=none:=by
    rw [List.find?_eq_none]
    intro x hx
    have:=hI.n x (by unfold intArgs;rw [List.length_map,List.take_length];exact hx)
    simp [this]
   have hme:=mergeF_end (n:=n) (out:=out) hall
   rw [HS.out.2.2.2.1] at hme
   have hlen0:(intArgs (headsOf rows')).length=(headsOf rows').length:=by unfold intArgs;rw [List.length_map]
   have he0:W'.cell? ⟨wr.heap.size,0,none⟩=some (.bool (decide ((headsOf rows').length=0))):=by rw [cell_of hI.e,hlen0];rfl
   obtain ⟨oa,oc,hvo⟩:=hI.s.out.form
   obtain ⟨qo1,qo2⟩:=hI.s.out.cells
   subst hvo
   have hmks:Mk (W4.heap.size :: ds) W':=fun d hd=>by
    rcases List.mem_cons.1 hd with rfl | hd
    ·exact hD
    ·exact hI.mks.1 d hd
   have hnd:(W4.heap.size :: ds).Nodup:=List.nodup_cons.2 ⟨fun h=>by have:=hI.mks.2 _ h;omega,HDS.out.1⟩
   have hge:∀ d∈W4.heap.size :: ds,w.heap.size≤d:=fun d hd=>by
    rcases List.mem_cons.1 hd with rfl | hd
    ·exact hI.small.1
    ·exact HDS.out.2.2 d hd
   have hnm:=hI.s.nomark hmks
   have HF:=zH (And.intro hmks (And.intro hnd (And.intro hge (And.intro hnm hI.s))))
   have HME:=zH hme
   have hds:({ target:=.collected W4.heap.size,args:=#[] }:Deferred) :: ds.map mark=(W4.heap.size :: ds).map mark:=rfl
   rw [hds]
   generalize hDS:(W4.heap.size :: ds).map mark=DS
   have HDSS:=zH hDS
   clear hst hI hD hnD hall hme hlen0 hmks hnd hge hnm hds hDS
   by_cases h0:(headsOf rows').length=0
   ·rw [decide_eq_true h0] at he0
    have he:headsOf rows'=[]:=List.eq_nil_of_length_eq_zero h0
    have HR2:=zH (show R=some out by rw [HME.out,if_pos he])
    clear h0 he HME
    gi_wp2
    rw [← HDSS.out]
    refine leaves_marks (fun W=>Bl w W∧Ix (fun b=>b < w.heap.size) W (.slice oa out.length oc) out) (fun W hW=>⟨.tuple #[.slice oa out.length oc,.bool true],by simp [results,Tryz.results359,go_sem],hW.1,by rw [HR2.out];exact ⟨_,rfl,hW.2⟩⟩) _ _ HF.out.2.1 HF.out.1 (fun d hd W hW=>?_) ?_
    ·refine ⟨hW.1.put (HF.out.2.2.1 d hd) _,hW.2.put (fun b o e e2=>HF.out.2.2.2.1 d hd (.inr (.inr ?_))) _⟩
     rw [e,e2];rfl
    ·exact ⟨HF.out.2.2.2.2.bl,HF.out.2.2.2.2.out.ix⟩
   ·rw [decide_eq_false h0] at he0
    have he:¬ headsOf rows'=[]:=fun e=>h0 (by rw [e];rfl)
    have HR2:=zH (show R=none by rw [HME.out,if_neg he])
    clear h0 he HME
    gi_wp2
    rw [← HDSS.out]
    refine leaves_marks (fun W=>Bl w W) (fun W hW=>⟨.tuple #[.slice none 0 0,.bool false],by simp [results,Tryz.results359,go_sem],hW,by rw [HR2.out]⟩) _ _ HF.out.2.1 HF.out.1 (fun d hd W hW=>hW.put (HF.out.2.2.1 d hd) _) HF.out.2.2.2.2.bl
  case hstop =>
   rintro c' F' W' hst hX hD hnD
   obtain ⟨rfl,⟨x,xs2,vo2,hf,hs2,hMF⟩,hcov,hlt,hsm,hmk,hmlt⟩:=hX
   obtain ⟨n',hn1,hn2⟩:=mergeF_step (out:=out) hf HS.out.2.2.1
   have hxm:=List.mem_of_find?_eq_some hf
   have HN2:=zH (show total (stepR rows' x)≤n'∧mergeF n' (stepR rows' x) (out++[x])=R∧(out++[x]).length + total (stepR rows' x)≤total rows∧total (stepR rows' x) < total rows' from by
    have h1:=total_lt hxm
    have h2:=HS.out.2.2.2.2
    exact ⟨hn1,by rw [← hn2];exact HS.out.2.2.2.1,by rw [List.length_append];simp;omega,h1⟩)
   have HF:=zH (show Mk (W4.heap.size :: ds) W'∧(W4.heap.size :: ds).Nodup∧(∀ d∈W4.heap.size :: ds,w.heap.size≤d)∧MSt w rb (rb + 1) W' (stepR rows' x) (out++[x]) xs2 (.slice a N c) vo2 from by
    refine ⟨fun d hd=>?_,List.nodup_cons.2 ⟨fun h=>by have:=hmlt _ h;omega,HDS.out.1⟩,fun d hd=>?_,hs2⟩
    ·rcases List.mem_cons.1 hd with rfl | hd
     ·exact hD
     ·exact hmk d hd
    ·rcases List.mem_cons.1 hd with rfl | hd
     ·exact hsm
     ·exact HDS.out.2.2 d hd)
   clear hst hf hs2 hMF hcov hlt hsm hmk hmlt hn1 hn2 hxm hD hnD
   gi_wp2
   refine ⟨⟨_,_,_,_,_,_,_,_,_,_,_,_,_,_,_,_,_,_,_,_,_,_,_,_,_,_,_,_,_,_,_,_,_,_,_,_,_,_,_,_,_,W4.heap.size :: ds,rfl,HF.out.2.1,HF.out.1,HF.out.2.2.1,stepR rows' x,out++[x],xs2,vo2,n',a,c,HF.out.2.2.2,by rw [stepR,List.length_map];exact HS.out.2.1,HN2.out.1,HN2.out.2.1,HN2.out.2.2.1⟩,?_⟩
   have e1:sliceLen W' (rb + 1)=out.length + 1:=by
    obtain ⟨oa,oc,hvo⟩:=HF.out.2.2.2.out.form
    have:=HF.out.2.2.2.out.cells.1
    unfold sliceLen;rw [this,hvo];simp
   have e2:sliceLen wr (rb + 1)=out.length:=by
    obtain ⟨oa,oc,hvo⟩:=HS.out.1.out.form
    have:=HS.out.1.out.cells.1
    unfold sliceLen;rw [this,hvo]
   have h2:=HS.out.2.2.2.2
   have h3:=HN2.out.2.2.2
   rw [e1,e2]
   omega
end
section
open Go.RowKit
theorem clip_rows (w:World) (a:Option Addr) (n c:Nat) (h:n≤c) (hn:n≤1048576):Calls Tryz.prog 360 #[.slice a n c] w fun e w'=>e=.returned (.slice a n n)∧w=w':=by
 go_enter Tryz.func360,Tryz.ntmps360
 go_wp2
 go_ret
 exact ⟨rfl,rfl⟩
def orderF (class_:Int) (bases:List Int) (orders:List (List Int)):Option (List Int) :=
 match mergeF (total (orders++[bases])) (orders++[bases]) [] with
 | some l=>if class_∈l then none else some (class_ :: l)
 | none=>none
theorem rows_app (w:World) (a:Option Addr) (F:Foot) (rows:List (List Int)) (c:Nat) (hx:Rx F w (.slice a rows.length c) rows) (hl:rows.length≤1048576) (y:Value) (r:List Int) (hy:Ix F w y r) :
  ∃ b2 c2 w4,(Builtin.append_ #[217,217] 217 #[.slice a rows.length rows.length,.slice (some ⟨w.heap.size,0,none⟩) 1 1]).run Tryz.prog (w.alloc (.cells #[y] 114))=.ok (.slice (some ⟨b2,0,none⟩) (rows.length + 1) c2) w4 ∧
   Bl w w4∧Rx (fun _=>False) w4 (.slice (some ⟨b2,0,none⟩) (rows.length + 1) c2) (rows++[r]):=by
 obtain ⟨i0,hi,hz0,hz1,hz2⟩:=info_parts Tryz.infoR
 have hyo:y.oneCell'=true:=by obtain ⟨a,c',rfl,-⟩:=hy.form;rfl
 have hnews:∀ (j:Nat) (u:Value),[y][j]?=some u→(w.alloc (.cells #[y] 114)).cell? ((⟨w.heap.size,0,none⟩:Addr).add j)=some u:=fun j u h=>by
  rw [Addr.add_lit,Nat.zero_add,cell_of (MapKept.heap_alloc w _).1];simpa using h
 have fin:∀ (xs:List Value) (v':Value) (w4:World),xs.length=rows.length→(∀ (j:Nat) (z:Value) (q:List Int),xs[j]?=some z→rows[j]?=some q→Ix F w z q)→w4.ownsRow 0 114 1 v' (rows.length + 1) (xs++[y])→Bl w w4 →
   ∃ b2 c2,v'=.slice (some ⟨b2,0,none⟩) (rows.length + 1) c2∧Rx (fun _=>False) w4 (.slice (some ⟨b2,0,none⟩) (rows.length + 1) c2) (rows++[r]):=fun xs v' w4 hxl hix ho hb=>by
  obtain ⟨b2,c2,rfl⟩:=ownsRow_succ ho
  refine ⟨b2,c2,rfl,.inr ⟨b2,0,c2,xs++[y],by simp,?_,?_,?_,by simp [hxl],fun j z hj=>?_,fun j z q hz hq=>?_⟩,fun _ _ _ _ _ h=>h⟩
  ·exact (ho.lt b2 rfl).2
  ·rcases ho.2 with ⟨e,-⟩ | ⟨g,cap,cur,e,-,-,h3,-⟩
   ·cases e
   ·cases e;simpa using h3
  ·rcases ho.2 with ⟨e,-⟩ | ⟨g,cap,cur,e,-,-,-,h4,-⟩
   ·cases e
   ·cases e;exact h4
  ·have:=ho.cellAt j (by have:=(List.getElem?_eq_some_iff.1 hj).1;simp [hxl] at this;omega)
   rw [Nat.zero_add,this];exact hj
  ·by_cases e:j < rows.length
   ·rw [List.getElem?_append_left (by omega)] at hz hq
    have:=(hix j z q hz hq).bl hb
    exact ⟨this.is,fun _ _ _ _ _ h=>h⟩
   ·have hj:j=rows.length:=by have:=(List.getElem?_eq_some_iff.1 hq).1;simp at this;omega
    subst hj
    rw [List.getElem?_append_right (by omega)] at hz hq
    simp [hxl] at hz hq
    subst hz hq
    have:=hy.bl hb
    exact ⟨this.is,fun _ _ _ _ _ h=>h⟩
 rcases hx.is with ⟨e,h0⟩ | ⟨b,o,c',xs,e,q0,q1,q2,q3,q4,q5⟩
 ·injection e with e1 e2 e3
  subst e1 h0
  obtain ⟨v',w4,hap,ho,hgr,hblk⟩:=run_app (P:=Tryz.prog) (w.alloc (.cells #[y] 114)) 217 217 114 i0 _ 1 24 Tryz.underlying217 hi hz0 hz1 hz2 rfl (by decide) (.slice none 0 0) 0 [] (World.ownsRow_nil _ _ _ _) ⟨w.heap.size,0,none⟩ 1 1 [y] rfl hnews (by intro u hu;simp at hu;rw [hu];exact hyo) (by decide) (by decide)
  have hbl:Bl w w4:=⟨hgr.os,hgr.tape,hgr.output,by have:=hgr.size;rw [zL] at this;omega,fun k hk=>(hgr.block k (by rw [zL];omega) (fun e=>by simp [Value.ownBlock] at e)).trans (Below.heap_alloc w _ k hk)⟩
  obtain ⟨b2,c2,rfl,hrx⟩:=fin [] v' w4 rfl (fun j z q h=>by simp at h) (by simpa using ho) hbl
  exact ⟨b2,c2,w4,hap,hbl,hrx⟩
 ·injection e with e1 e2 e3
  subst e1 e3
  have holds:∀ (j:Nat) (u:Value),xs[j]?=some u→(w.alloc (.cells #[y] 114)).cell? ((⟨b,o,none⟩:Addr).add j)=some u:=fun j u h=>by
   rw [Addr.add_lit,alc _ _ _ _ q0];exact q4 j u h
  obtain ⟨v',w4,hap,ho,hgr⟩:=run_append_arg_grows (P:=Tryz.prog) (w.alloc (.cells #[y] 114)) 217 217 114 i0 _ 1 24 Tryz.underlying217 hi hz0 hz1 hz2 rfl (by decide) ⟨b,o,none⟩ rows.length rows.length xs (by omega) holds ⟨w.heap.size,0,none⟩ 1 1 [y] rfl hnews (by omega) (by unfold maxLen;omega) (by omega)
  have hbl:Bl w w4:=⟨hgr.os,hgr.tape,hgr.output,by have:=hgr.size;rw [zL] at this;omega,fun k hk=>(hgr.block k (by rw [zL];omega) (fun e=>by simp at e)).trans (Below.heap_alloc w _ k hk)⟩
  have ho2:w4.ownsRow 0 114 1 v' (rows.length + 1) (xs++[y]):=⟨ho.1,ho.2.elim .inl fun ⟨g,cap,cur,e,_,q⟩=>.inr ⟨g,cap,cur,e,Nat.zero_le _,q⟩⟩
  obtain ⟨b2,c2,rfl,hrx⟩:=fin xs v' w4 q3 q5 ho2 hbl
  exact ⟨b2,c2,w4,hap,hbl,hrx⟩
theorem mergeF_len:∀ {n:Nat} {rows:List (List Int)} {out l:List Int},mergeF n rows out=some l→l.length≤out.length + total rows:=by
 intro n
 induction n with
 | zero =>
  intro rows out l h
  cases hf:(headsOf rows).find? (fun x=>!behindB rows x) with
  | none =>
   rw [mergeF_end hf] at h
   split at h
   ·cases h;omega
   ·cases h
  | some x=>unfold mergeF at h;rw [hf] at h;cases h
 | succ n ih =>
  intro rows out l h
  cases hf:(headsOf rows).find? (fun x=>!behindB rows x) with
  | none =>
   rw [mergeF_end hf] at h
   split at h
   ·cases h;omega
   ·cases h
  | some x =>
   unfold mergeF at h;rw [hf] at h
   have h1:=ih h
   have h2:=total_lt (List.mem_of_find?_eq_some hf)
   rw [List.length_append] at h1
   simp at h1
   omega
theorem total_append (a b:List (List Int)):total (a++b)=total a + total b:=by simp [total]
theorem cons_app (w:World) (m:Int) (x:Value) (F:Foot) (l:List Int) (hx:Ix F w x l) (hl:l.length≤1048576) :
  ∃ v' w4,(Builtin.append_ #[114,114] 114 #[.slice (some ⟨w.heap.size,0,none⟩) 1 1,x]).run Tryz.prog (w.alloc (.cells #[.int .i64 m] 2))=.ok v' w4∧Bl w w4∧Ix (fun b=>b < w.heap.size) w4 v' (m :: l):=by
 obtain ⟨i0,hi,hz0,hz1,hz2⟩:=info_parts Tryz.infoI
 have hown:(w.alloc (.cells #[.int .i64 m] 2)).ownsRow 0 2 1 (.slice (some ⟨w.heap.size,0,none⟩) 1 1) 1 (ints [m]) :=
  ⟨rfl,.inr ⟨w.heap.size,1,_,rfl,Nat.zero_le _,(MapKept.heap_alloc w _).1,Nat.le_refl _,by decide,rfl,rfl⟩⟩
 rcases hx.is with ⟨rfl,rfl⟩ | ⟨b,o,c,rfl,q0,q1,q2,q3⟩
 ·refine ⟨_,_,run_app_nil (P:=Tryz.prog) _ _ _ _ i0 Tryz.underlying114 hi (some ⟨w.heap.size,0,none⟩) 1 1 (Nat.le_refl _),Bl.al _ _,.inr ⟨w.heap.size,0,1,rfl,by rw [zL];omega,Nat.le_refl _,by decide,fun j n hj=>?_⟩,fun b o n c e hb=>by cases e;omega⟩
  rw [cell_of (MapKept.heap_alloc w _).1,Nat.zero_add]
  match j,hj with
  | 0,hj=>cases hj;rfl
  | j + 1,hj=>simp at hj
 ·obtain ⟨v',w4,hap,ho,hgr,hblk⟩:=run_app (P:=Tryz.prog) (w.alloc (.cells #[.int .i64 m] 2)) 114 114 2 i0 _ 1 8 Tryz.underlying114 hi hz0 hz1 hz2 rfl (by decide) _ 1 _ hown ⟨b,o,none⟩ l.length c (ints l) (by simp) (fun j u h=>by
   rw [Addr.add_lit,alc _ _ _ _ q0]
   unfold ints at h
   rw [List.getElem?_map] at h
   cases hj:l[j]? with
   | none=>rw [hj] at h;cases h
   | some n=>rw [hj] at h;cases h;exact q3 j n hj) (by
   intro u hu
   obtain ⟨n,-,rfl⟩:=List.mem_map.1 hu
   rfl) (by unfold maxLen;omega) (by omega)
  have hbl:Bl w w4:=⟨hgr.os,hgr.tape,hgr.output,by have:=hgr.size;rw [zL] at this;omega,fun k hk=>(hgr.block k (by rw [zL];omega) (fun e=>by simp [Value.ownBlock] at e;omega)).trans (Below.heap_alloc w _ k hk)⟩
  have hge:∀ g,v'.ownBlock=some g→w.heap.size≤g:=fun g e=>by
   rcases hblk with e2 | ⟨g2,e2,h2⟩
   ·rw [e] at e2;simp [Value.ownBlock] at e2;omega
   ·rw [e] at e2;cases e2;rw [zL] at h2;omega
  refine ⟨v',w4,hap,hbl,?_⟩
  have hlen:ints [m]++ints l=ints (m :: l):=rfl
  rw [hlen] at ho
  rcases ho.2 with ⟨rfl,h0⟩ | ⟨g,cap,cur,rfl,h1,hg,h2,h3,h4,h5⟩
  ·omega
  ·refine ⟨.inr ⟨g,0,cap,by rw [List.length_cons,Nat.add_comm],(zN hg).1,by rw [List.length_cons];omega,h3,fun j n hj=>?_⟩,fun b o n c e hb=>by cases e;have:=hge g rfl;omega⟩
   rw [Nat.zero_add,ho.cellAt j (by have:=(List.getElem?_eq_some_iff.1 hj).1;simp at this;omega)]
   unfold ints;rw [List.getElem?_map,hj];rfl
set_option maxRecDepth 100000 in
set_option maxHeartbeats 8000000 in
theorem order_any (w:World) (m:Int) (xb xo:Value) (F:Foot) (bases:List Int) (orders:List (List Int)) (hb:Ix F w xb bases) (ho:Rx F w xo orders) (hl:orders.length < 1048576) (ht:total orders + bases.length≤1048576) :
  Calls Tryz.prog 232 #[.int .i64 m,xb,xo] w fun e w'=>Bl w w'∧match orderF m bases orders with
   | some l=>∃ y,e=.returned (.tuple #[y,.bool true])∧Ix (fun b=>b < w.heap.size) w' y l
   | none=>e=.returned (.tuple #[.slice none 0 0,.bool false]):=by
 obtain ⟨oa,oc,rfl,hoc,-⟩:=ho.form
 obtain ⟨ba,bc,rfl,-⟩:=hb.form
 have cc:=clip_rows w oa orders.length oc hoc (by omega)
 obtain ⟨b2,c2,w4,hap,hb4,hr4⟩:=rows_app w oa F orders oc ho (by omega) (.slice ba bases.length bc) bases hb
 have cm:=merge_any w4 _ _ _ hr4 (by show (orders++[bases]).length≤1048576;simp;omega) (by show total (orders++[bases])≤1048576;rw [total_append];simp [total] at ht ⊢;omega)
 have HL:=zH (And.intro hl ht)
 obtain ⟨no,hno⟩:∃ no,no=orders.length:=⟨_,rfl⟩
 obtain ⟨nb,hnb⟩:∃ nb,nb=bases.length:=⟨_,rfl⟩
 rw [← hno] at cc hap cm ⊢
 rw [← hnb] at hap ⊢
 have hnol:no≤1048576:=by omega
 have hnbl:nb≤1048576:=by omega
 have HNN:=zH (And.intro hno hnb)
 clear ho hb hr4 hl ht hno hnb hoc
 have hlr:(orders++[bases]).length=no + 1:=by rw [List.length_append,HNN.out.1];rfl
 unfold orderF
 cases hM:mergeF (total (orders++[bases])) (orders++[bases]) [] with
 | none =>
  rw [hM] at cm
  simp only at cm
  clear hM
  go_enter Tryz.func232,Tryz.ntmps232
  go_wp2_with (first | (go_at_call 360;refine cc.mono ?_;rintro e w' ⟨rfl,rfl⟩) | (go_at_call 359;refine cm.mono ?_;rintro e W5 ⟨hb5,rfl⟩) | (at_builtin;refine wpList_app rfl (.tmp 12) (.tmp 14) 217 rfl (.slice oa no no) (.slice (some ⟨w.heap.size,0,none⟩) 1 1) (by simp [Go.Act.eval]) (by simp [Go.Act.eval]) (.slice (some ⟨b2,0,none⟩) (no + 1) c2) w4 hap ?_))
  refine bodyPost_ret (v:=.tuple #[.slice none 0 0,.bool false]) (by simp [results,Tryz.results232,go_sem]) rfl ⟨hb4.trans hb5,rfl⟩
 | some l =>
  rw [hM] at cm
  simp only at cm
  have hlen:l.length≤1048576:=by
   have h1:=mergeF_len hM
   have h2:=HL.out.2
   rw [total_append] at h1
   simp [total] at h1 h2
   omega
  clear hM
  by_cases hm:m∈l
  ·have hif:(if m∈l then (none:Option (List Int)) else some (m :: l))=none:=if_pos hm
   simp only [hif]
   clear hif
   have HMEM:=zH hm
   have HLEN:=zH hlen
   clear hm hlen
   go_enter Tryz.func232,Tryz.ntmps232
   go_upto_region 2 with (first | (go_at_call 360;refine cc.mono ?_;rintro e w' ⟨rfl,rfl⟩) | (go_at_call 359;refine cm.mono ?_;rintro e W5 ⟨hb5,y,rfl,hy⟩) | (at_builtin;refine wpList_app rfl (.tmp 12) (.tmp 14) 217 rfl (.slice oa no no) (.slice (some ⟨w.heap.size,0,none⟩) 1 1) (by simp [Go.Act.eval]) (by simp [Go.Act.eval]) (.slice (some ⟨b2,0,none⟩) (no + 1) c2) w4 hap ?_))
   have ci:=contains_int W5 y _ l hy (by show l.length≤1048576;exact HLEN.out) m
   obtain ⟨v',w6,hap6,hb6,hx6⟩:=cons_app W5 m y _ l hy HLEN.out
   obtain ⟨ya,yc,rfl,-⟩:=hy.form
   obtain ⟨ln,hln⟩:∃ ln,ln=l.length:=⟨_,rfl⟩
   rw [← hln] at ci hap6
   rw [← hln]
   have HB:=zH (hb4.trans hb5)
   have HFIN:=zH (show Bl w w6∧Ix (fun b=>b < w.heap.size) w6 v' (m :: l) from ⟨(hb4.trans hb5).trans hb6,hx6.is,fun b o n c e hlt=>hx6.out b o n c e (by have:=(hb4.trans hb5).sz;omega)⟩)
   clear hy hb5 hb6 hx6 hln hap cc cm hb4
   rw [decide_eq_true HMEM.out] at ci
   go_wp2_with (go_at_call 361;refine ci.mono ?_;rintro e w' ⟨rfl,rfl⟩)
   refine bodyPost_ret (v:=.tuple #[.slice none 0 0,.bool false]) (by simp [results,Tryz.results232,go_sem]) rfl ⟨HB.out,rfl⟩
  ·have hif:(if m∈l then (none:Option (List Int)) else some (m :: l))=some (m :: l):=if_neg hm
   simp only [hif]
   clear hif
   have HMEM:=zH hm
   have HLEN:=zH hlen
   clear hm hlen
   go_enter Tryz.func232,Tryz.ntmps232
   go_upto_region 2 with (first | (go_at_call 360;refine cc.mono ?_;rintro e w' ⟨rfl,rfl⟩) | (go_at_call 359;refine cm.mono ?_;rintro e W5 ⟨hb5,y,rfl,hy⟩) | (at_builtin;refine wpList_app rfl (.tmp 12) (.tmp 14) 217 rfl (.slice oa no no) (.slice (some ⟨w.heap.size,0,none⟩) 1 1) (by simp [Go.Act.eval]) (by simp [Go.Act.eval]) (.slice (some ⟨b2,0,none⟩) (no + 1) c2) w4 hap ?_))
   have ci:=contains_int W5 y _ l hy (by show l.length≤1048576;exact HLEN.out) m
   obtain ⟨v',w6,hap6,hb6,hx6⟩:=cons_app W5 m y _ l hy HLEN.out
   obtain ⟨ya,yc,rfl,-⟩:=hy.form
   obtain ⟨ln,hln⟩:∃ ln,ln=l.length:=⟨_,rfl⟩
   rw [← hln] at ci hap6
   rw [← hln]
   have HB:=zH (hb4.trans hb5)
   have HFIN:=zH (show Bl w w6∧Ix (fun b=>b < w.heap.size) w6 v' (m :: l) from ⟨(hb4.trans hb5).trans hb6,hx6.is,fun b o n c e hlt=>hx6.out b o n c e (by have:=(hb4.trans hb5).sz;omega)⟩)
   clear hy hb5 hb6 hx6 hln hap cc cm hb4
   rw [decide_eq_false HMEM.out] at ci
   go_wp2_with (first | (go_at_call 361;refine ci.mono ?_;rintro e w' ⟨rfl,rfl⟩) | (at_builtin;refine wpList_app rfl (.tmp 27) (.tmp 28) 114 rfl (.slice (some ⟨W5.heap.size,0,none⟩) 1 1) (.slice ya ln yc) (by simp [Go.Act.eval]) (by simp [Go.Act.eval]) v' w6 hap6 ?_))
   refine bodyPost_ret (v:=.tuple #[v',.bool true]) (by simp [results,Tryz.results232,go_sem]) rfl ⟨HFIN.out.1,_,rfl,HFIN.out.2⟩
end
section
open Go.RowKit
def Hp.isClass (h:Hp) (v:V):Bool:=decide (h.kind v=5)
theorem ref_any (w:World) (v:V):Calls Tryz.prog 220 #[v.agg] w fun e w'=>e=.returned (vref v.n).agg∧Bl w w':=by
 go_enter Tryz.func220,Tryz.ntmps220
 go_wp2
 refine bodyPost_ret (v:=(vref v.n).agg) (by simp [results,Tryz.results220,go_sem]) rfl ⟨rfl,?_⟩
 (repeat (first | exact qA _ | assumption | refine qB ?_ _ | refine qC ?_ | refine qD ?_ _ | refine qE ?_ _ (by simp<;>omega) _))
theorem isClass_any (w:World) (hp:Nat) (h:Hp) (F:Foot) (r:HR w hp h F) (v:V) :
  Calls Tryz.prog 219 #[.pointer (some ⟨hp,0,none⟩),v.agg] w fun e w'=>e=.returned (.bool (h.isClass v))∧Bl w w':=by
 have ck:=kind_any (w.alloc (.cells v.ca 23)) hp h F (r.bl (Bl.al _ _)) v
 unfold Hp.isClass
 generalize h.kind v=k at ck ⊢
 clear r
 go_enter Tryz.func219,Tryz.ntmps219
 go_wp2_with (go_at_call 92;refine ck.mono ?_;rintro e W1 ⟨rfl,hb1⟩)
 go_ret
 exact ⟨by rfl,(Bl.al _ _).trans hb1⟩
end
section
open Go.RowKit
end
section
open Go.RowKit
theorem Step.sm {B:Nat} {F F1:Foot} {a w:World} (h:Step B F a w F1) {b o:Nat} {u:Value} (hb:b < B) (hF:¬ F b) (c:a.cell? ⟨b,o,none⟩=some u):w.cell? ⟨b,o,none⟩=some u:=(h.cellAt b o hb hF).trans c
theorem Vx.one {F:Foot} {W:World} {g:Nat} {x:V} (hg:W.heap[g]?=some (.cells x.ca 23 (0,0))) (hF:¬ F g):Vx F W (.slice (some ⟨g,0,none⟩) 1 1) [x]:=by
 refine ⟨.inr ⟨g,0,1,rfl,(zN hg).1,Nat.le_refl _,by decide,fun j u hj=>?_⟩,fun b o n c e=>by cases e;exact hF⟩
 rw [cell_of hg,Nat.zero_add]
 simpa [V.ca,V.cs] using hj
theorem Step.after {w W W':World} {F F':Foot} (hb:Bl w W) (hF:∀ b,F b→b < w.heap.size) (st:Step W.heap.size F W W' F'):Step w.heap.size F w W' F':=(Step.of_bl hb hF).call hb.sz st
end
end Go.Proofs.YtbbokgpklihkoaaGreatDoor.W
