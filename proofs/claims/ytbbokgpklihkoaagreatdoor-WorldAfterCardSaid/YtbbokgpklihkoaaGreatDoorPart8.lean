/- Pack4 Dict7 Clone Range -/
import Derived.Test.YtbbokgpklihkoaaGreatDoorPart7
import Derived.WalkSpells
import Derived.Test.YtbbokgpklihkoaaGreatDoorPart0
import Derived.RangeFuncBound
import Derived.RangeFuncCalls
import Derived.RangeFuncLeaves
import Derived.RangeFuncNested
set_option linter.unusedVariables false
set_option linter.unusedSimpArgs false
namespace Go.Proofs.YtbbokgpklihkoaaGreatDoor.W
section
open Go.RowKit
structure PackMid (w wr:World) (db mb rb cp:Nat) (sl:Value) (rows:List Prow) (d:Row) (k:Nat):Prop where
 blk:wr.heap[db]?=some (.cells #[.map (some mb),.slice (some ⟨rb,0,none⟩) (packed rows).length cp] 225 (0,0))
 map:∃ es c at_,wr.heap[mb]?=some (.map es c)∧Ents V.agg (fun i:Nat=>Value.int .i64 i) es.toList at_∧(at_.map (·.1)).Nodup∧at_.length=d.length ∧
  ∀ key,get at_ key=match pos ((packed rows).take k) key with | some i=>some i | none=>pos rows key
 own:wr.ownsRow 0 301 7 (.slice (some ⟨rb,0,none⟩) (packed rows).length cp) (packed rows).length ((packed rows).flatMap pcs)
 st:Step w.heap.size (Fd db mb sl) w wr (Fd db mb sl)
theorem PackMid.bl {w wr w1:World} {db mb rb cp:Nat} {sl:Value} {rows:List Prow} {d:Row} {k:Nat} (h:PackMid w wr db mb rb cp sl rows d k) (hb:Bl wr w1):PackMid w w1 db mb rb cp sl rows d k:=by
 obtain ⟨es,c,at_,hm,r⟩:=h.map
 refine ⟨(hb.at (zN h.blk).1).trans h.blk,⟨es,c,at_,(hb.at (zN hm).1).trans hm,r⟩,⟨h.own.1,?_⟩,h.st.bl hb h.st.size⟩
 rcases h.own.2 with e | ⟨g,cap,cur,e,h0,hg,r⟩
 ·exact .inl e
 ·exact .inr ⟨g,cap,cur,e,h0,(hb.at (zN hg).1).trans hg,r⟩
theorem packed_live {rows:List Prow} {k:Nat} {p:Prow} (h:(packed rows)[k]?=some p):p.2.2=false:=by
 have:=List.mem_of_getElem? h
 have:=(List.mem_filter.1 this).2
 simpa using this
theorem live_of_packed (rows:List Prow):live (packed rows)=(packed rows).map fun p=>(p.1,p.2.1):=by
 induction rows with
 | nil=>rfl
 | cons p t ih =>
  obtain ⟨k0,y,g⟩:=p
  cases g
  ·simp [packed,live] at ih ⊢;exact ih
  ·simp only [packed] at ih ⊢;simpa using ih
theorem live_take {rows:List Prow} {k:Nat}:live ((packed rows).take k)=((packed rows).take k).map fun p=>(p.1,p.2.1):=by
 have h:∀ l:List Prow,(∀ p∈l,p.2.2=false)→live l=l.map fun p=>(p.1,p.2.1):=by
  intro l
  induction l with
  | nil=>intro _;rfl
  | cons p t ih =>
   intro h
   obtain ⟨k0,y,g⟩:=p
   have hg:g=false:=h (k0,y,g) (by simp)
   subst hg
   simp [live,ih (fun q hq=>h q (by simp [hq]))]
 exact h _ fun p hp=>by
  have:=(List.mem_filter.1 (List.mem_of_mem_take hp)).2
  simpa using this
theorem pos_fresh {rows:List Prow} {k:Nat} {p:Prow} (hn:((live rows).map (·.1)).Nodup) (h:(packed rows)[k]?=some p):pos ((packed rows).take k) p.1=none:=by
 refine pos_isNone fun hm=>?_
 rw [live_take] at hm
 rw [← live_packed,live_of_packed,List.map_map] at hn
 have e:(packed rows)=(packed rows).take k++p :: (packed rows).drop (k + 1):=by
  have hlt:=(List.getElem?_eq_some_iff.1 h).1
  have h2:=List.take_append_drop k (packed rows)
  rw [List.drop_eq_getElem_cons hlt,(List.getElem?_eq_some_iff.1 h).2] at h2
  exact h2.symm
 rw [e,List.map_append,List.map_cons,List.nodup_append] at hn
 rw [List.map_map] at hm
 exact hn.2.2 _ hm _ (List.mem_cons_self ..) rfl
theorem PackMid.next {w wr:World} {db mb rb cp:Nat} {sl:Value} {rows:List Prow} {d:Row} {k:Nat} {p:Prow} (h:PackMid w wr db mb rb cp sl rows d k) (hn:((live rows).map (·.1)).Nodup) (hlive:live rows=d) (hmb:Fd db mb sl mb) (hp:(packed rows)[k]?=some p) :
  ∃ es' c',(∀ W:World,W.heap[mb]?=wr.heap[mb]?→(Instr.mapUpdate 222 (.map (some mb)) p.1.agg (.int .i64 k)).run Tryz.prog W=.ok () (setMap W mb es' c')) ∧
   ∀ W:World,Bl wr W→PackMid w (setMap W mb es' c') db mb rb cp sl rows d (k + 1):=by
 obtain ⟨es,c,at_,hm,he,hnd,hl,hg⟩:=h.map
 obtain ⟨es',c',hput,he'⟩:=run_put Tryz.underlying222 key_V he p.1 k c
 refine ⟨es',c',fun W hW=>hput W mb (hW.trans hm),fun W hb=>?_⟩
 have hmbl:=(zN hm).1
 have hdm:db≠mb:=by rintro rfl;rw [h.blk] at hm;cases hm
 have hrm:rb≠mb:=by
  rintro rfl
  rcases h.own.2 with ⟨e,-⟩ | ⟨g,cap,cur,e,h0,hg,r⟩
  ·cases e
  ·cases e;rw [hm] at hg;cases hg
 have h1:=h.bl hb
 have hlt:=(List.getElem?_eq_some_iff.1 hp).1
 obtain ⟨i,hpi⟩:∃ i,pos rows p.1=some i:=by
  have:p.1∈(live rows).map (·.1):=by
   rw [← live_packed,live_of_packed,List.map_map]
   exact List.mem_map.2 ⟨p,List.mem_of_getElem? hp,rfl⟩
  rw [mem_keys,← pos_get rfl] at this
  exact Option.isSome_iff_exists.1 this
 have hfr:=pos_fresh hn hp
 refine ⟨(setMap_other hdm _ _).trans h1.blk,⟨es',c',put at_ p.1 k,setMap_at (Nat.lt_of_lt_of_le hmbl hb.sz) _ _,he',nodup_put hnd _ _,?_,?_⟩,⟨h1.own.1,?_⟩,?_⟩
 ·rw [length_put,hg,hfr,hpi];exact hl
 ·intro key
  rw [get_put,hg]
  have e:(packed rows).take (k + 1)=(packed rows).take k++[(p.1,p.2.1,false)]:=by
   rw [List.take_add_one,hp]
   have:=packed_live hp
   rw [← this];rfl
  obtain ⟨-,s⟩:=new_row (x:=p.2.1) hfr
  rw [e,s,List.length_take,Nat.min_eq_left (by omega)]
  by_cases hk:p.1=key
  ·rw [if_pos hk,if_pos hk]
  ·rw [if_neg hk,if_neg hk]
 ·rcases h1.own.2 with e | ⟨g,cap,cur,e,h0,hg,r⟩
  ·exact .inl e
  ·exact .inr ⟨g,cap,cur,e,h0,by rw [setMap_other (by cases e;exact hrm)];exact hg,r⟩
 ·exact ⟨h1.st.os,h1.st.tape,h1.st.output,by rw [setMap_size];exact h1.st.size,fun b q1 q2=>(setMap_other (w:=W) (fun e=>q2 (by rw [e];exact hmb)) _ _).trans (h1.st.block b q1 q2),h1.st.foot,fun b q=>by rw [setMap_size];exact h1.st.lt b q⟩
theorem PackMid.end {w wr:World} {db mb rb cp:Nat} {sl:Value} {rows:List Prow} {d:Row} (h:PackMid w wr db mb rb cp sl rows d (packed rows).length) (hsl:sl.ownBlock=some rb) (hd:DictIs w db mb sl rows d) :
  DictIs wr db mb (.slice (some ⟨rb,0,none⟩) (packed rows).length cp) (packed rows) d∧Step w.heap.size (Fd db mb sl) w wr (Fd db mb (.slice (some ⟨rb,0,none⟩) (packed rows).length cp)):=by
 obtain ⟨es,c,at_,hm,he,hnd,hl,hg⟩:=h.map
 refine ⟨⟨h.blk,⟨es,c,at_,hm,he,hnd,hl,fun key=>?_⟩,h.own,by rw [live_packed];exact hd.live,hd.nd,by rw [packed_length,hd.live];have:=hd.few;omega⟩,?_⟩
 ·rw [hg,List.take_length]
  cases hq:pos (packed rows) key with
  | some i=>rfl
  | none =>
   cases hq2:pos rows key with
   | none=>rfl
   | some i =>
    have h1:=pos_get (rows:=packed rows) rfl key
    have h2:=pos_get (rows:=rows) rfl key
    rw [live_packed,← h2,hq,hq2] at h1
    cases h1
 ·have hfd:Fd db mb (.slice (some ⟨rb,0,none⟩) (packed rows).length cp)=Fd db mb sl:=by
   funext b;unfold Fd;rw [hsl];rfl
  rw [hfd];exact h.st
def PackPost (w:World) (db mb rb cp:Nat) (sl:Value) (rows:List Prow) (d:Row) (w':World):Prop :=
 DictIs w' db mb (.slice (some ⟨rb,0,none⟩) (packed rows).length cp) (packed rows) d∧Step w.heap.size (Fd db mb sl) w w' (Fd db mb (.slice (some ⟨rb,0,none⟩) (packed rows).length cp))
set_option maxRecDepth 100000 in
set_option maxHeartbeats 8000000 in
theorem pack_any (w:World) (db mb rb cp:Nat) (rows:List Prow) (d:Row) (hd:DictIs w db mb (.slice (some ⟨rb,0,none⟩) rows.length cp) rows d) :
  Calls Tryz.prog 363 #[.pointer (some ⟨db,0,none⟩)] w fun e w'=>e=.returned (.tuple #[])∧PackPost w db mb rb cp (.slice (some ⟨rb,0,none⟩) rows.length cp) rows d w':=by
 obtain ⟨f1,f2,f3,f4,f5,f6⟩:=hd.head
 obtain ⟨n1,n2,n3⟩:=hd.ne
 have hfew:=hd.few
 have hpl:(packed rows).length≤4096:=by rw [packed_length,hd.live];exact hfew.2
 have cd:=fun w h=>deletef_any w rb cp rows h hfew.1
 have HD:=zH hd
 have HF:=zH hfew
 clear hd hfew
 go_enter Tryz.func363,Tryz.ntmps363
 go_wp2_with fail
 refine (cd w HD.out.own).mono ?_
 rintro e W1 ⟨rfl,ho,hst⟩
 have hdb:db≠rb:=fun e=>n2 (by rw [e];rfl)
 have hmr:mb≠rb:=fun e=>n3 (by rw [e];rfl)
 have hblk:W1.heap[db]?=some (.cells #[.map (some mb),.slice (some ⟨rb,0,none⟩) rows.length cp] 225 (0,0)):=(hst.block db f5 hdb).trans HD.out.blk
 have c1:W1.cell? ⟨db,1,none⟩=some (.slice (some ⟨rb,0,none⟩) rows.length cp):=by rw [cell_of hblk];rfl
 have c2:W1.frozen? ⟨db,1,none⟩=false:=by simp [World.frozen?,hblk]
 have HM:=zH (show PackMid w (W1.setCell ⟨db,1,none⟩ (.slice (some ⟨rb,0,none⟩) (packed rows).length cp)) db mb rb cp (.slice (some ⟨rb,0,none⟩) rows.length cp) rows d 0 from by
  have hoth:∀ b,b≠db→(W1.setCell ⟨db,1,none⟩ (.slice (some ⟨rb,0,none⟩) (packed rows).length cp)).heap[b]?=W1.heap[b]?:=fun b h=>Below.heap_setCell _ _ _ _ h
  obtain ⟨es,c,at_,hm,he,hnd,hl,hg⟩:=HD.out.map
  refine ⟨by rw [heap_setCell_same W1 db 1 _ _ _ hblk];rfl,⟨es,c,at_,(hoth mb n1.symm).trans ((hst.block mb f6 hmr).trans hm),he,hnd,hl,fun key=>by rw [hg];rfl⟩,⟨ho.1,?_⟩,?_⟩
  ·rcases ho.2 with e | ⟨g,cap,cur,e,h0,hg,r⟩
   ·exact .inl e
   ·exact .inr ⟨g,cap,cur,e,h0,by rw [hoth g (by cases e;exact hdb.symm)];exact hg,r⟩
  ·exact ⟨hst.os,hst.tape,hst.output,by rw [World.size_setCell];exact hst.size,fun b h1 h2=>(hoth b (fun e=>h2 (.inl e))).trans (hst.block b h1 (fun e=>h2 (.inr (.inr (by rw [e];rfl))))),fun _ h=>.inl h,
    fun b h=>by rw [World.size_setCell];exact Nat.lt_of_lt_of_le (HD.out.lt b h) hst.size⟩)
 clear ho hst hblk cd
 obtain ⟨m,hm⟩:∃ m,m=(packed rows).length:=⟨_,rfl⟩
 rw [← hm] at HM hpl ⊢
 have HN:=zH hm
 clear hm
 go_wp2
 go_loopw [2,3,17] (fun v2 v3 i wr=>∃ k:Nat,k≤m∧i=.int .i64 k∧PackMid w wr db mb rb cp (.slice (some ⟨rb,0,none⟩) rows.length cp) rows d k) (fun _ _ i _=>m - (intOf i).toNat)
 case atStart=>exact ⟨0,Nat.zero_le _,rfl,HM.out⟩
 case round =>
  obtain ⟨k,hk,rfl,hpm⟩:=hrel
  by_cases hlt:k < m
  ·obtain ⟨p,hp⟩:∃ p,(packed rows)[k]?=some p:=⟨_,List.getElem?_eq_getElem (by rw [← HN.out];exact hlt)⟩
   have q:∀ t,t < 7→wr.cell? ⟨rb,k * 7 + t,none⟩=(pcs p)[t]?:=fun t ht=>by
    have hl:=(List.getElem?_eq_some_iff.1 hp).1
    rw [hpm.own.cellAt _ (by omega),pcs_at ht hp]
   have q0:wr.cell? ⟨rb,k * 7,none⟩=some (.int .i64 p.1.k):=q 0 (by decide)
   have q1:wr.cell? ⟨rb,k * 7 + 1,none⟩=some (.int .i64 p.1.n):=q 1 (by decide)
   have q2:wr.cell? ⟨rb,k * 7 + 2,none⟩=some (.string (bs p.1.s)):=q 2 (by decide)
   have q3:wr.cell? ⟨rb,k * 7 + 3,none⟩=some (.int .i64 p.2.1.k):=q 3 (by decide)
   have q4:wr.cell? ⟨rb,k * 7 + 4,none⟩=some (.int .i64 p.2.1.n):=q 4 (by decide)
   have q5:wr.cell? ⟨rb,k * 7 + 5,none⟩=some (.string (bs p.2.1.s)):=q 5 (by decide)
   have q6:wr.cell? ⟨rb,k * 7 + 6,none⟩=some (.bool p.2.2):=q 6 (by decide)
   have b1:wr.cell? ⟨db,0,none⟩=some (.map (some mb)):=by rw [cell_of hpm.blk];rfl
   have b2:=(zN hpm.blk).1
   have b3:=(hpm.own.lt rb rfl).2
   have hnd:=HD.out.nd
   rw [← HD.out.live] at hnd
   obtain ⟨es',c',hput,hnext⟩:=hpm.next hnd HD.out.live (.inr (.inl rfl)) hp
   have hmbl:mb < wr.heap.size:=by
    obtain ⟨es,c,at_,hm,-⟩:=hpm.map
    exact (zN hm).1
   have HPT:=zH hput
   have HNX:=zH hnext
   have HP:=zH hp
   clear q hp hpm hput hnext hnd
   go_wp2
   refine named (p:=fun W=>Code.wp _ _ _ _ W) (fun W hW=>?_)
   have hbw:Bl wr W:=by rw [hW];(repeat (first | exact qA _ | assumption | refine qB ?_ _ | refine qC ?_ | refine qD ?_ _ | refine qE ?_ _ (by simp<;>omega) _))
   have hbox:W.heap[wr.heap.size]?=some (.cells (pcs p).toArray 301):=by
    rw [hW];exact (MapKept.heap_alloc wr _).1
   have y0:W.cell? ⟨wr.heap.size,0,none⟩=some (.int .i64 p.1.k):=by rw [cell_of hbox];rfl
   have y1:W.cell? ⟨wr.heap.size,1,none⟩=some (.int .i64 p.1.n):=by rw [cell_of hbox];rfl
   have y2:W.cell? ⟨wr.heap.size,2,none⟩=some (.string (bs p.1.s)):=by rw [cell_of hbox];rfl
   have y3:W.cell? ⟨db,0,none⟩=some (.map (some mb)):=(World.cell?_of_block (w:=wr) (a:=⟨db,0,none⟩) (hbw.at b2)).trans b1
   have mu:(Instr.mapUpdate 222 (.map (some mb)) p.1.agg (.int .i64 k)).run Tryz.prog W.drew=.ok () (setMap W.drew mb es' c'):=HPT.out W.drew (hbw.at hmbl)
   have HX:=zH (HNX.out W.drew (hbw.trans (Bl.dr _)))
   clear hW hbox hbw q0 q1 q2 q3 q4 q5 q6 b1 b2 b3 hmbl
   go_region
   all_goals
    go_wp2
    go_roundw
    case rel=>first | exact ⟨k + 1,by omega,by go_num,HX.out⟩ | ((repeat apply Exists.intro);exact ⟨⟨k + 1,by omega,by go_num,HX.out⟩,rfl⟩)
    case measure=>simp [intOf];omega
  ·obtain rfl:k=m:=by omega
   have HX:=zH hpm
   clear hpm
   go_wp2
   go_end0
   have h:=HX.out
   rw [HN.out] at h
   exact ⟨rfl,h.end rfl HD.out⟩
end
section
open Go.RowKit
theorem DStep.trans {w w1 w2:World} {db mb:Nat} {sl sl1:Value} {d:Row} (hs:w.heap.size≤w1.heap.size) (h:Step w.heap.size (Fd db mb sl) w w1 (Fd db mb sl1)) (k:DStep w1 db mb sl1 d w2):DStep w db mb sl d w2:=by
 obtain ⟨sl2,rows,hd,hst⟩:=k
 exact ⟨sl2,rows,hd,h.call hs hst⟩
set_option maxRecDepth 100000 in
set_option maxHeartbeats 4000000 in
theorem dput_pack (w:World) (db mb:Nat) (sl:Value) (rows:List Prow) (d:Row) (hd:DictIs w db mb sl rows d) (k x:V) (h:get d k=none) (hk:keyB k=true) (hl:d.length < 4096) (hs:2 * d.length + 8 < rows.length) :
  Calls Tryz.prog 234 #[.pointer (some ⟨db,0,none⟩),k.agg,x.agg] w fun e w'=>e=.returned (.bool true)∧DStep w db mb sl (put d k x) w':=by
 obtain ⟨f1,f2,-,-,f3,f4⟩:=hd.head
 have hpn:pos rows k=none:=by
  have:=pos_get hd.live k
  rw [h] at this
  simpa using this
 have lk:∀ n,(Instr.lookup 222 (.map (some mb)) k.agg true).run Tryz.prog (((w.alloc (.cells k.ca 23)).alloc (.cells x.ca 23)).drewN n)=.ok (.tuple #[.int .i64 0,.bool false]) (((w.alloc (.cells k.ca 23)).alloc (.cells x.ca 23)).drewN n):=by
  intro n
  rw [hd.look k _ (show (((w.alloc _).alloc _).drewN n).heap[mb]?=_ from (Below.heap_alloc _ _ _ (by rw [zL];omega)).trans (Below.heap_alloc _ _ _ f4)),hpn]
  rfl
 have kc:=fun w=>key_is k true hk w
 obtain ⟨rb,c0,hsl⟩:∃ a c,sl=.slice (some ⟨a,0,none⟩) rows.length c:=by
  rcases hd.own.2 with ⟨e,h0⟩ | ⟨g,cap,cur,e,-⟩
  ·omega
  ·exact ⟨_,_,e⟩
 have HSL:=zH hsl
 subst hsl
 have HD:=zH hd
 have HPN:=zH hpn
 have HH:=zH h
 clear hd hpn h hk
 go_enter Tryz.func234,Tryz.ntmps234
 go_wp2
 go_quiet (fail)
 go_wp2_with fail
 refine named (p:=fun W=>Calls _ _ _ W _) (fun W hW=>?_)
 have hb0:Bl w W:=by rw [hW];(repeat (first | exact qA _ | assumption | refine qB ?_ _ | refine qC ?_ | refine qD ?_ _ | refine qE ?_ _ (by simp<;>omega) _))
 have kb:W.heap[w.heap.size]?=some (.cells k.ca 23):=by
  rw [hW]
  exact (Below.heap_alloc _ _ _ (by rw [zL];omega)).trans (MapKept.heap_alloc w _).1
 have xb:W.heap[w.heap.size + 1]?=some (.cells x.ca 23):=by
  rw [hW]
  have:=(MapKept.heap_alloc (w.alloc (.cells k.ca 23)) (.cells x.ca 23)).1
  rw [zL] at this
  exact this
 have hlt:=(zN xb).1
 clear hW lk f1 f2
 refine (kc _).mono ?_
 rintro e W1 ⟨rfl,hb1⟩
 have hb2:=hb0.trans hb1
 have kb1:=(hb1.at (zN kb).1).trans kb
 have xb1:=(hb1.at (zN xb).1).trans xb
 have hd2:=HD.out.blm hb2
 obtain ⟨g1,g2,-,-,g3,g4⟩:=hd2.head
 have ln:=fun rt n=>hd2.lenM rt (W1.drewN n) rfl
 have k0:W1.cell? ⟨w.heap.size,0,none⟩=some (.int .i64 k.k):=by rw [cell_of kb1];rfl
 have k1:W1.cell? ⟨w.heap.size,1,none⟩=some (.int .i64 k.n):=by rw [cell_of kb1];rfl
 have k2:W1.cell? ⟨w.heap.size,2,none⟩=some (.string (bs k.s)):=by rw [cell_of kb1];rfl
 have x0:W1.cell? ⟨w.heap.size + 1,0,none⟩=some (.int .i64 x.k):=by rw [cell_of xb1];rfl
 have x1:W1.cell? ⟨w.heap.size + 1,1,none⟩=some (.int .i64 x.n):=by rw [cell_of xb1];rfl
 have x2:W1.cell? ⟨w.heap.size + 1,2,none⟩=some (.string (bs x.s)):=by rw [cell_of xb1];rfl
 have HB:=zH hb2
 have HX2:=zH (show w.heap.size + 1 < W1.heap.size from Nat.lt_of_lt_of_le hlt hb1.sz)
 have HLS:=zH (And.intro hl hs)
 have t1:decide ((4096:Int)≤(d.length:Int))=false:=decide_eq_false (by omega)
 have t2:decide ((2 * (d.length:Int) + 8) < (rows.length:Int))=true:=decide_eq_true (by omega)
 have r1:IntKind.i64.wrap (2 * (d.length:Int))=2 * (d.length:Int):=IntWalk.i64_in _ (by omega)
 have r2:IntKind.i64.wrap (2 * (d.length:Int) + 8)=2 * (d.length:Int) + 8:=IntWalk.i64_in _ (by omega)
 have ln0:=fun rt=>hd2.lenM rt W1 rfl
 clear hb0 hb1 hb2 hd2 kb xb kb1 xb1 hlt kc hs hl
 go_wp2
 clear t1 ln0
 go_quiet (fail)
 go_wp2_with fail
 refine named (p:=fun W=>Calls _ _ _ W _) (fun Wp hWp=>?_)
 have hbp:Bl w Wp:=by rw [hWp];exact HB.out.trans (Bl.drn _ _)
 have hsp:w.heap.size + 1 < Wp.heap.size:=by rw [hWp];exact HX2.out
 have hc:∀ b o,Wp.cell? ⟨b,o,none⟩=W1.cell? ⟨b,o,none⟩:=fun b o=>by rw [hWp];rfl
 have v0:=(hc w.heap.size 0).trans k0
 have v1:=(hc w.heap.size 1).trans k1
 have v2:=(hc w.heap.size 2).trans k2
 have v3:=(hc (w.heap.size + 1) 0).trans x0
 have v4:=(hc (w.heap.size + 1) 1).trans x1
 have v5:=(hc (w.heap.size + 1) 2).trans x2
 have hdp:=HD.out.blm hbp
 have HOLD:=zH HD.out
 have HOLDP:=zH hbp
 clear hWp hc k0 k1 k2 x0 x1 x2 g1 g2 g3 g4 HB ln t2 r1 r2
 refine (pack_any Wp db mb rb c0 rows d hdp).mono ?_
 rintro e wb ⟨rfl,hdb,hstb⟩
 obtain ⟨R,hR⟩:∃ R,R=packed rows:=⟨_,rfl⟩
 rw [← hR] at hdb hstb
 have hRl:R.length=d.length:=by rw [hR,packed_length,HD.out.live]
 have nf1:¬ Fd db mb (.slice (some ⟨rb,0,none⟩) rows.length c0) w.heap.size:=fun h=>Nat.lt_irrefl _ (HD.out.lt _ h)
 have nf2:¬ Fd db mb (.slice (some ⟨rb,0,none⟩) rows.length c0) (w.heap.size + 1):=fun h=>by have:=HD.out.lt _ h;omega
 have hk1:=hstb.block w.heap.size (by omega) nf1
 have hk2:=hstb.block (w.heap.size + 1) (by omega) nf2
 have k0:wb.cell? ⟨w.heap.size,0,none⟩=some (.int .i64 k.k):=(World.cell?_of_block (w:=Wp) (a:=⟨w.heap.size,0,none⟩) hk1).trans v0
 have k1:wb.cell? ⟨w.heap.size,1,none⟩=some (.int .i64 k.n):=(World.cell?_of_block (w:=Wp) (a:=⟨w.heap.size,1,none⟩) hk1).trans v1
 have k2:wb.cell? ⟨w.heap.size,2,none⟩=some (.string (bs k.s)):=(World.cell?_of_block (w:=Wp) (a:=⟨w.heap.size,2,none⟩) hk1).trans v2
 have x0:wb.cell? ⟨w.heap.size + 1,0,none⟩=some (.int .i64 x.k):=(World.cell?_of_block (w:=Wp) (a:=⟨w.heap.size + 1,0,none⟩) hk2).trans v3
 have x1:wb.cell? ⟨w.heap.size + 1,1,none⟩=some (.int .i64 x.n):=(World.cell?_of_block (w:=Wp) (a:=⟨w.heap.size + 1,1,none⟩) hk2).trans v4
 have x2:wb.cell? ⟨w.heap.size + 1,2,none⟩=some (.string (bs x.s)):=(World.cell?_of_block (w:=Wp) (a:=⟨w.heap.size + 1,2,none⟩) hk2).trans v5
 obtain ⟨n0,hn0⟩:∃ n0:Option Addr,n0=some ⟨rb,0,none⟩:=⟨_,rfl⟩
 have HSTB:=zH (show Step w.heap.size (Fd db mb (.slice (some ⟨rb,0,none⟩) rows.length c0)) w wb (Fd db mb (.slice n0 R.length c0)) from by
  have h0:=(Step.of_bl HOLDP.out HD.out.lt)
  rw [hn0]
  exact h0.call HOLDP.out.sz hstb)
 have HXB:=zH (show w.heap.size + 1 < wb.heap.size from Nat.lt_of_lt_of_le hsp hstb.size)
 have hpnR:pos R k=none:=by
  have:=pos_get hdb.live k
  rw [HH.out] at this
  simpa using this
 have HLS2:=zH (And.intro HLS.out.1 (show R.length≤2 * d.length + 8 by omega))
 have hfewR:=hdb.few.1
 clear HD HPN v0 v1 v2 v3 v4 v5 hk1 hk2 nf1 nf2 hdp hbp hsp hstb hR hRl HLS HX2 hfewR
 have HD:=zH hdb
 have HPN:=zH hpnR
 clear hdb hpnR
 rw [← hn0] at HD
 clear hn0
 obtain ⟨g1,g2,-,-,g3,g4⟩:=HD.out.head
 go_wp2
 refine named (p:=fun W=>Code.wp _ _ _ _ W) (fun W2 hW2=>?_)
 have hb2:Bl wb W2:=by rw [hW2];exact Bl.refl _
 have y0:W2.cell? ⟨w.heap.size,0,none⟩=some (.int .i64 k.k):=by rw [hW2];exact k0
 have y1:W2.cell? ⟨w.heap.size,1,none⟩=some (.int .i64 k.n):=by rw [hW2];exact k1
 have y2:W2.cell? ⟨w.heap.size,2,none⟩=some (.string (bs k.s)):=by rw [hW2];exact k2
 have z0:W2.cell? ⟨w.heap.size + 1,0,none⟩=some (.int .i64 x.k):=by rw [hW2];exact x0
 have z1:W2.cell? ⟨w.heap.size + 1,1,none⟩=some (.int .i64 x.n):=by rw [hW2];exact x1
 have z2:W2.cell? ⟨w.heap.size + 1,2,none⟩=some (.string (bs x.s)):=by rw [hW2];exact x2
 have hlt2:w.heap.size + 1 < W2.heap.size:=by rw [hW2];exact HXB.out
 clear k0 k1 k2 x0 x1 x2 g1 g2 g3 g4 hW2
 have hd2:=HD.out.blm hb2
 obtain ⟨g1,g2,-,-,g3,g4⟩:=hd2.head
 obtain ⟨es,c,at_,hm,he,hn,hln,hp⟩:=hd2.map
 obtain ⟨es',c',hput,he'⟩:=run_put Tryz.underlying222 key_V he k R.length c
 have mu:(Instr.mapUpdate 222 (.map (some mb)) k.agg (.int .i64 R.length)).run Tryz.prog W2.drew=.ok () (setMap W2.drew mb es' c'):=hput W2.drew mb hm
 have HB:=zH hb2
 have HE:=zH (And.intro he' (And.intro hn (And.intro hln hp)))
 have HL2:=zH hlt2
 have HY:=zH (And.intro y0 (And.intro y1 y2))
 have HZ:=zH (And.intro z0 (And.intro z1 z2))
 clear hb2 hd2 hm he hn hln hp hput he' hlt2
 go_region
 all_goals go_wp2
 refine named (p:=fun W=>Code.wp _ _ _ _ W) (fun W3 hW3=>?_)
 obtain ⟨y0',y1',y2'⟩:=HY.out
 obtain ⟨z0',z1',z2'⟩:=HZ.out
 have hd2:=HD.out.blm HB.out
 obtain ⟨n1,n2,n3⟩:=hd2.ne
 have hoth:∀ b,b≠mb→W3.heap[b]?=W2.heap[b]?:=fun b hb=>by rw [hW3];exact setMap_other hb _ _
 have hm3:W3.heap[mb]?=some (.map es' c'):=by rw [hW3];exact setMap_at g4 _ _
 have hs3:W3.heap.size=W2.heap.size:=by rw [hW3];exact setMap_size _ _ _ _
 have e1:w.heap.size≠mb:=by omega
 have e2:w.heap.size + 1≠mb:=by omega
 have p0:W3.cell? ⟨w.heap.size,0,none⟩=some (.int .i64 k.k):=(World.cell?_of_block (w:=W2) (a:=⟨w.heap.size,0,none⟩) (hoth _ e1)).trans y0'
 have p1:W3.cell? ⟨w.heap.size,1,none⟩=some (.int .i64 k.n):=(World.cell?_of_block (w:=W2) (a:=⟨w.heap.size,1,none⟩) (hoth _ e1)).trans y1'
 have p2:W3.cell? ⟨w.heap.size,2,none⟩=some (.string (bs k.s)):=(World.cell?_of_block (w:=W2) (a:=⟨w.heap.size,2,none⟩) (hoth _ e1)).trans y2'
 have p3:W3.cell? ⟨w.heap.size + 1,0,none⟩=some (.int .i64 x.k):=(World.cell?_of_block (w:=W2) (a:=⟨w.heap.size + 1,0,none⟩) (hoth _ e2)).trans z0'
 have p4:W3.cell? ⟨w.heap.size + 1,1,none⟩=some (.int .i64 x.n):=(World.cell?_of_block (w:=W2) (a:=⟨w.heap.size + 1,1,none⟩) (hoth _ e2)).trans z1'
 have p5:W3.cell? ⟨w.heap.size + 1,2,none⟩=some (.string (bs x.s)):=(World.cell?_of_block (w:=W2) (a:=⟨w.heap.size + 1,2,none⟩) (hoth _ e2)).trans z2'
 have q1:W3.cell? ⟨db,1,none⟩=some (.slice n0 R.length c0):=(World.cell?_of_block (w:=W2) (a:=⟨db,1,none⟩) (hoth _ n1)).trans g2
 have hrow:W3.ownsRow 0 301 7 (.slice n0 R.length c0) R.length (R.flatMap pcs):=by
  obtain ⟨h1,h2⟩:=hd2.own
  refine ⟨h1,?_⟩
  rcases h2 with h2 | ⟨g,cap,cur,e,h3,h4,h5⟩
  ·exact .inl h2
  ·exact .inr ⟨g,cap,cur,e,h3,(hoth g (fun e'=>n3 (by rw [e,e'];rfl))).trans h4,h5⟩
 obtain ⟨i0,hi,hz0,hz1,hz2⟩:=info_parts Tryz.infoPair
 have hfew:=hd2.few.1
 obtain ⟨v',w4,hap,hown,hgrow,hblk⟩:=run_app (P:=Tryz.prog) (W3.drew.alloc (.cells (pcs (k,x,false)).toArray 301)) 223 223 301 i0 _ 7 72 Tryz.underlying223 hi hz0 hz1 hz2 rfl (by decide) _ _ _ (hrow.alloc _) ⟨W3.heap.size,0,none⟩ 1 1 (pcs (k,x,false)) rfl
  (news_cells W3.drew _ _) (by simp [pcs,Value.oneCell']) (by unfold maxLen;omega) (by omega)
 obtain ⟨g',cap',rfl⟩:=ownsRow_succ hown
 have ap:(Builtin.append_ #[223,223] 223 #[.slice n0 R.length c0,.slice (some ⟨W3.heap.size,0,none⟩) 1 1]).run Tryz.prog (W3.alloc (.cells #[.int .i64 k.k,.int .i64 k.n,.string (bs k.s),.int .i64 x.k,.int .i64 x.n,.string (bs x.s),.bool false] 301)).drew=.ok (.slice (some ⟨g',0,none⟩) (R.length + 1) cap') w4:=hap
 have hb4:w4.heap[db]?=some (.cells #[.map (some mb),.slice n0 R.length c0] 225 (0,0)):=by
  rw [hgrow.block db (by rw [zL];show db < W3.heap.size + 1;omega) (fun e=>n2 e.symm),show (W3.drew.alloc (.cells (pcs (k,x,false)).toArray 301)).heap[db]?=W3.heap[db]? from Below.heap_alloc W3.drew _ _ (show db < W3.heap.size by omega)]
  exact (hoth db n1).trans hd2.blk
 have s1:w4.cell? ⟨db,1,none⟩=some (.slice n0 R.length c0):=by rw [cell_of hb4];rfl
 have s2:w4.frozen? ⟨db,1,none⟩=false:=by simp [World.frozen?,hb4]
 have HO:=zH hown
 have HG:=zH hgrow
 have HK:=zH hblk
 have HW3:=zH hW3
 have HS3:=zH hs3
 have b1:db < W3.heap.size:=by omega
 have b3:w.heap.size + 1 < W3.heap.size:=by rw [hs3];exact HL2.out
 have b2:w.heap.size < W3.heap.size:=by omega
 clear hown hgrow hblk hap hb4 hrow hi hz0 hz1 hz2 hW3 hoth hm3 y0' y1' y2' z0' z1' z2' e1 e2 hd2 hs3
 go_region_law (refine step_app rfl (.tmp 69) (.tmp 73) 223 rfl _ _ (by simp [Go.Act.eval]) (by simp [Go.Act.eval]) _ _ ap ?_)
 all_goals
  go_wp2
  go_ret
  exact ⟨rfl,DStep.trans HSTB.out.size HSTB.out (DStep.new HD.out HB.out HPN.out HLS2.out.1 HLS2.out.2 HW3.out HE.out.1 HE.out.2.1 HE.out.2.2.1 HE.out.2.2.2 HO.out HG.out HK.out)⟩
theorem dput_any (w:World) (db mb:Nat) (sl:Value) (rows:List Prow) (d:Row) (hd:DictIs w db mb sl rows d) (k x:V) :
  Calls Tryz.prog 234 #[.pointer (some ⟨db,0,none⟩),k.agg,x.agg] w fun e w'=>e=.returned (.bool (dputB d k))∧DStep w db mb sl (dput d k x) w':=by
 unfold dput dputB
 cases h:get d k with
 | some y=>simp only [Option.isSome_some,Bool.true_or,if_true];exact dput_set w db mb sl rows d hd k x (by rw [h];rfl)
 | none =>
  simp only [Option.isSome_none,Bool.false_or]
  cases hk:keyB k with
  | false=>simp only [Bool.false_and,Bool.false_eq_true,if_false];exact (dput_bad w db mb sl rows d hd k x h hk).mono fun e w' ⟨h1,h2⟩=>⟨h1,DStep.of_bl hd h2⟩
  | true =>
   by_cases hl:d.length < 4096
   ·simp only [Bool.true_and,hl,decide_true,if_true]
    by_cases hs:rows.length≤2 * d.length + 8
    ·exact dput_new w db mb sl rows d hd k x h hk hl hs
    ·exact dput_pack w db mb sl rows d hd k x h hk hl (by omega)
   ·simp only [Bool.true_and,hl,decide_false,Bool.false_eq_true,if_false]
    exact (dput_full w db mb sl rows d hd k x h hk (by omega)).mono fun e w' ⟨h1,h2⟩=>⟨h1,DStep.of_bl hd h2⟩
end
section
open Go.RowKit
theorem Tryz.infoV:(Tryz.prog.info? 23).map (fun i=>(i.zero,i.size,i.bytes))=some (some (.agg #[.int .i64 0,.int .i64 0,.string ⟨#[]⟩]),3,32):=by kernel_rfl
def Fresh (w:World) (e:TypeId) (sz n:Nat) (news:List Value) (en:Ending) (w':World):Prop:=∃ x,en=.returned x∧w'.ownsRow w.heap.size e sz x n news∧Bl w w'
theorem clone_vals (w:World) (b o n c:Nat) (news:List Value) (hl:news.length=n * 3) (hnews:∀ j u,news[j]?=some u→w.cell? ⟨b,o + j,none⟩=some u) (h1:∀ u∈news,u.oneCell'=true) (hb:b < w.heap.size) (hn:n≤maxLen) (hby:n * 32≤140737488355328) :
  Calls Tryz.prog 292 #[.slice (some ⟨b,o,none⟩) n c] w (Fresh w 23 3 n news):=by
 obtain ⟨i0,hi,hz0,hz1,hz2⟩:=info_parts Tryz.infoV
 have hown:(w.alloc (.cells #[] 23)).ownsRow 0 23 3 (.slice (some ⟨w.heap.size,0,none⟩) 0 0) 0 [] :=
  ⟨rfl,.inr ⟨w.heap.size,0,#[],rfl,Nat.zero_le _,(MapKept.heap_alloc w _).1,Nat.le_refl _,Nat.zero_le _,rfl,rfl⟩⟩
 obtain ⟨v',w4,hap,ho,hgrow,hblk⟩:=run_app (P:=Tryz.prog) (w.alloc (.cells #[] 23)) 30 30 23 i0 _ 3 32 Tryz.underlying30 hi hz0 hz1 hz2 rfl (by decide) _ _ _ hown ⟨b,o,none⟩ n c news hl
  (fun j u h=>by rw [Addr.add_lit,World.cell?_of_block (w:=w) (a:=⟨b,o + j,none⟩) (Below.heap_alloc w _ b hb)];exact hnews j u h) h1 (by simpa using hn) (by simpa using hby)
 have HF:=zH (show Fresh w 23 3 n news (.returned v') w4 from by
  rw [Nat.zero_add,List.nil_append] at ho
  have hz:=hgrow.size
  rw [zL] at hz
  have hbl:Bl w w4:=⟨hgrow.os,hgrow.tape,hgrow.output,by omega,fun k hk=>(hgrow.block k (by rw [zL];omega) (fun e=>by simp [Value.ownBlock] at e;omega)).trans (Below.heap_alloc w _ k hk)⟩
  refine ⟨v',rfl,⟨ho.1,ho.2.elim .inl (fun ⟨g,cap,cur,e,_,r⟩=>.inr ⟨g,cap,cur,e,?_,r⟩)⟩,hbl⟩
  rcases hblk with e2 | ⟨g2,e2,h2⟩
  ·rw [e] at e2;simp [Value.ownBlock] at e2;omega
  ·rw [e] at e2;simp [Value.ownBlock] at e2;rw [zL] at h2;omega)
 clear hown ho hgrow hblk hl hnews h1 hb hn hby hi hz0 hz1 hz2
 have hnn:=fun w':World=>Lib.run_eql_slice_nil (P:=Tryz.prog) (w:=w') 30 23 (some ⟨b,o,none⟩) n c 0 0 Tryz.underlying30
 go_enter Tryz.func292,Tryz.ntmps292
 go_wp2_with (at_builtin;refine wpList_app rfl _ _ 30 rfl _ _ rfl rfl _ _ hap ?_)
 go_ret
 exact HF.out
theorem clone_vals_nil (w:World):Calls Tryz.prog 292 #[.slice none 0 0] w fun e w'=>e=.returned (.slice none 0 0)∧w=w':=by
 have hnn:=fun w':World=>Lib.run_eql_slice_nil (P:=Tryz.prog) (w:=w') 30 23 none 0 0 0 0 Tryz.underlying30
 go_enter Tryz.func292,Tryz.ntmps292
 go_wp2
 go_ret
 exact ⟨rfl,rfl⟩
theorem clone_pairs (w:World) (b o n c:Nat) (news:List Value) (hl:news.length=n * 7) (hnews:∀ j u,news[j]?=some u→w.cell? ⟨b,o + j,none⟩=some u) (h1:∀ u∈news,u.oneCell'=true) (hb:b < w.heap.size) (hn:n≤maxLen) (hby:n * 72≤140737488355328) :
  Calls Tryz.prog 472 #[.slice (some ⟨b,o,none⟩) n c] w (Fresh w 301 7 n news):=by
 obtain ⟨i0,hi,hz0,hz1,hz2⟩:=info_parts Tryz.infoPair
 have hown:(w.alloc (.cells #[] 301)).ownsRow 0 301 7 (.slice (some ⟨w.heap.size,0,none⟩) 0 0) 0 [] :=
  ⟨rfl,.inr ⟨w.heap.size,0,#[],rfl,Nat.zero_le _,(MapKept.heap_alloc w _).1,Nat.le_refl _,Nat.zero_le _,rfl,rfl⟩⟩
 obtain ⟨v',w4,hap,ho,hgrow,hblk⟩:=run_app (P:=Tryz.prog) (w.alloc (.cells #[] 301)) 223 223 301 i0 _ 7 72 Tryz.underlying223 hi hz0 hz1 hz2 rfl (by decide) _ _ _ hown ⟨b,o,none⟩ n c news hl
  (fun j u h=>by rw [Addr.add_lit,World.cell?_of_block (w:=w) (a:=⟨b,o + j,none⟩) (Below.heap_alloc w _ b hb)];exact hnews j u h) h1 (by simpa using hn) (by simpa using hby)
 have HF:=zH (show Fresh w 301 7 n news (.returned v') w4 from by
  rw [Nat.zero_add,List.nil_append] at ho
  have hz:=hgrow.size
  rw [zL] at hz
  have hbl:Bl w w4:=⟨hgrow.os,hgrow.tape,hgrow.output,by omega,fun k hk=>(hgrow.block k (by rw [zL];omega) (fun e=>by simp [Value.ownBlock] at e;omega)).trans (Below.heap_alloc w _ k hk)⟩
  refine ⟨v',rfl,⟨ho.1,ho.2.elim .inl (fun ⟨g,cap,cur,e,_,r⟩=>.inr ⟨g,cap,cur,e,?_,r⟩)⟩,hbl⟩
  rcases hblk with e2 | ⟨g2,e2,h2⟩
  ·rw [e] at e2;simp [Value.ownBlock] at e2;omega
  ·rw [e] at e2;simp [Value.ownBlock] at e2;rw [zL] at h2;omega)
 clear hown ho hgrow hblk hl hnews h1 hb hn hby hi hz0 hz1 hz2
 have hnn:=fun w':World=>Lib.run_eql_slice_nil (P:=Tryz.prog) (w:=w') 223 301 (some ⟨b,o,none⟩) n c 0 0 Tryz.underlying223
 go_enter Tryz.func472,Tryz.ntmps472
 go_wp2_with (at_builtin;refine wpList_app rfl _ _ 223 rfl _ _ rfl rfl _ _ hap ?_)
 go_ret
 exact HF.out
theorem clone_pairs_nil (w:World):Calls Tryz.prog 472 #[.slice none 0 0] w fun e w'=>e=.returned (.slice none 0 0)∧w=w':=by
 have hnn:=fun w':World=>Lib.run_eql_slice_nil (P:=Tryz.prog) (w:=w') 223 301 none 0 0 0 0 Tryz.underlying223
 go_enter Tryz.func472,Tryz.ntmps472
 go_wp2
 go_ret
 exact ⟨rfl,rfl⟩
end
section
open Go.RowKit
abbrev Foot:=Nat→Prop
structure Keep (F:Foot) (W W':World):Prop where
 os:W'.os=W.os
 tape:W'.tape=W.tape
 output:W'.output=W.output
 size:W.heap.size≤W'.heap.size
 block:∀ b,F b→W'.heap[b]?=W.heap[b]?
def Stable (I:Foot→World→Prop):Prop:=∀ F W W',I F W→Keep F W W'→I F W'
def Rounds (P:Program) (l:Nat) (J:Nat→Foot→World→Prop) (Y:Foot→World→Prop) (xs:List (Array Value)):Prop :=
 ∀ k x F W,xs[k]?=some x→J k F W→YieldAt Fence.wide 1 P l x W fun e W'=>∃ F',Step W.heap.size F W W' F' ∧
  ((e=.returned (.bool true)∧J (k + 1) F' W')∨(e=.returned (.bool false)∧Y F' W'))
def SeqOf (P:Program) (gf:Nat) (lb:Array Value) (xs:List (Array Value)) (Pre:Foot→World→Prop):Prop :=
 ∀ (l:Nat) (J:Nat→Foot→World→Prop) (Y:Foot→World→Prop),(∀ k,Stable (J k))→Stable Y→(∀ k F W,J k F W→∀ b,F b→b < W.heap.size)→Rounds P l J Y xs →
  ∀ F W,J 0 F W→Pre F W→CallsIn Fence.wide 2 P gf (#[.func (.yield l) #[] #[]]++lb) W fun e W'=>(∃ v,e=.returned v)∧∃ F',Step W.heap.size F W W' F'∧(J xs.length F' W'∨Y F' W')
def roundQ (I:Nat→Foot→World→Prop) (X:Code→Foot→World→Prop) (k:Nat) (F:Foot) (Wb:World):Exit→Go.Act→World→Prop
 | .normal,_,W'=>∃ F',Step Wb.heap.size F Wb W' F'∧I (k + 1) F' W'
 | .ret,_,W'=>∃ F',Step Wb.heap.size F Wb W' F'∧X .ret F' W'
 | .exit id,_,W'=>∃ F',Step Wb.heap.size F Wb W' F'∧X (.exit id) F' W'
 | .goto t,_,W'=>∃ F',Step Wb.heap.size F Wb W' F'∧X (.goto t) F' W'
 | .panic _,_,_=>False
 | .outgrown,_,_=>False
theorem Keep.put {F:Foot} {W:World} {l:Nat} {o:Obj} (h:¬ F l):Keep F W (W.putObj l o) :=
 ⟨rfl,rfl,rfl,by simp [World.putObj],fun b hb=>World.putObj_heap_other (fun e=>h (by rw [← e];exact hb))⟩
theorem Keep.of_bl {F:Foot} {W W':World} (h:Bl W W') (hF:∀ b,F b→b < W.heap.size):Keep F W W':=⟨h.os,h.tape,h.output,h.sz,fun b hb=>h.at (hF b hb)⟩
theorem Keep.trans {F:Foot} {A B C:World} (h:Keep F A B) (k:Keep F B C):Keep F A C:=⟨k.os.trans h.os,k.tape.trans h.tape,k.output.trans h.output,Nat.le_trans h.size k.size,fun b hb=>(k.block b hb).trans (h.block b hb)⟩
theorem putObj_size (W:World) (l:Nat) (o:Obj):(W.putObj l o).heap.size=W.heap.size:=by simp [World.putObj]
theorem Step.put {B:Nat} {F F1:Foot} {a w:World} (h:Step B F a w F1) {l:Nat} (hl:B≤l∨F l) (o:Obj):Step B F a (w.putObj l o) F1 :=
 ⟨h.os,h.tape,h.output,by rw [putObj_size];exact h.size,fun k h1 h2=>(World.putObj_heap_other (fun e=>hl.elim (fun h3=>by omega) (fun h3=>h2 (by rw [e];exact h3)))).trans (h.block k h1 h2),h.foot,fun k hk=>by rw [putObj_size];exact h.lt k hk⟩
theorem range_fn {P:Program} {g:Operand} {ps:Array Tmp} {assign body:Code} {Q:Exit→Go.Act→World→Prop} {a:Go.Act} {w:World} {gf:Nat} {lb:Array Value}
  (hg:a.eval g=.func (.func gf) #[] lb) (eg:∀ args w,(callFunc gf args).run P w=.ok (.enter gf args) w) {xs:List (Array Value)} {Pre:Foot→World→Prop} (hseq:SeqOf P gf lb xs Pre)
  (hps:∀ x∈xs,x.size=ps.size) (I:Nat→Foot→World→Prop) (X:Code→Foot→World→Prop) (stI:∀ k,Stable (I k)) (stX:∀ c,Stable (X c)) (ltI:∀ k F W,I k F W→∀ b,F b→b < W.heap.size)
  (F0:Foot) (h0:I 0 F0 w) (hpre:∀ W F,Bl w W→w.heap.size < W.heap.size→(∀ b,F b↔F0 b∨b=w.heap.size∨b=w.heap.size + 1)→Pre F W)
  (hround:∀ (l k:Nat) (x:Array Value) (F:Foot) (W:World) (K:Go.Act→World→Prop),xs[k]?=some x→I k F W→¬ F l→l < W.heap.size →
   (∀ a' Wa,Bl W Wa→(∀ Wb,(∀ b,b≠l→Wb.heap[b]?=Wa.heap[b]?)→Wb.heap.size=Wa.heap.size→Wb.os=Wa.os→Wb.tape=Wa.tape→Wb.output=Wa.output →
     body.wpIn (Fence.wide.inRound l) 1 P (roundQ I X k F Wb) a' Wb)→K a' Wa) →
   assign.wpIn (Fence.wide.inRound l) 1 P (Exit.then K fun _ _ _=>False) { tmps:=(ps.zip x).foldl (fun t (p,v)=>t.setIfInBounds p v) a.tmps,defers:=[] } W)
  (hdone:∀ F' W',Step w.heap.size F0 w W' F'→I xs.length F' W'→W'.heap[w.heap.size]?=some (.deferred (some []))→¬ F' w.heap.size→Q .normal { a with defers:={ target:=.collected w.heap.size,args:=#[] } :: a.defers } W')
  (hstop:∀ c F' W',Step w.heap.size F0 w W' F'→X c F' W'→W'.heap[w.heap.size]?=some (.deferred (some []))→¬ F' w.heap.size→c.wpIn Fence.wide 3 P Q { a with defers:={ target:=.collected w.heap.size,args:=#[] } :: a.defers } W') :
  (Code.rangeFunc g ps assign body).wpIn Fence.wide 3 P Q a w:=by
 refine wpIn_rangeFunc ?_
 intro fn hfn
 obtain ⟨rec,hrec⟩:∃ rec:LoopState→Option Code→Loop,rec=fun st pe=>{ state:=st,pending:=pe,fn,tmps:=a.tmps,params:=ps,assign,body,defers:=w.heap.size }:=⟨_,rfl⟩
 obtain ⟨W1,hW1⟩:∃ W1,(w.alloc (.deferred (some []))).alloc (.loop (rec .ready none))=W1:=⟨_,rfl⟩
 have hL1:W1.heap[w.heap.size + 1]?=some (.loop (rec .ready none)):=by
  rw [← hW1];have:=World.alloc_heap_new (w.alloc (.deferred (some []))) (.loop (rec .ready none));rwa [zL] at this
 have hK1:W1.heap[w.heap.size]?=some (.deferred (some [])):=by
  rw [← hW1];exact (Below.heap_alloc _ _ _ (by simp)).trans (World.alloc_heap_new w _)
 have hb1:Bl w W1:=by rw [← hW1];exact ((Bl.refl w).al' _).al' _
 have hs1:W1.heap.size=w.heap.size + 2:=by rw [← hW1,zL,zL]
 have hF0:=ltI 0 F0 w h0
 have nl0:¬ F0 (w.heap.size + 1):=fun h=>by have:=hF0 _ h;omega
 have nd0:¬ F0 w.heap.size:=fun h=>by have:=hF0 _ h;omega
 refine ⟨w.heap.size + 1,[{ target:=.collected w.heap.size,args:=#[] }],W1,{ target:=.fn (.func gf) lb,args:=#[.func (.yield (w.heap.size + 1)) #[] #[]] },W1,gf,
  #[.func (.yield (w.heap.size + 1)) #[] #[]]++lb,W1,?_,?_,?_,?_,fun _=>by omega,?_⟩
 ·rw [← hW1,hrec];exact run_enterLoop_outer _ _ _ _ _
 ·simp only [resolve,hg]
  simp [go_sem]
 ·intro f' hf';exact trivial
 ·simp [invoke,go_sem,eg]
 ·let Fp:Foot→Foot:=fun F b=>F b∨b=w.heap.size∨b=w.heap.size + 1
  let J:Nat→Foot→World→Prop:=fun k G W=>∃ F,(∀ b,G b↔Fp F b)∧I k F W∧¬ F (w.heap.size + 1)∧¬ F w.heap.size∧W.heap[w.heap.size + 1]?=some (.loop (rec .ready none))∧W.heap[w.heap.size]?=some (.deferred (some []))∧(∀ b,F b→F0 b∨w.heap.size + 2≤b)
  let Y:Foot→World→Prop:=fun G W=>∃ F c,(∀ b,G b↔Fp F b)∧X c F W∧¬ F (w.heap.size + 1)∧¬ F w.heap.size∧W.heap[w.heap.size + 1]?=some (.loop (rec .done (some c)))∧W.heap[w.heap.size]?=some (.deferred (some []))∧(∀ b,F b→F0 b∨w.heap.size + 2≤b)∧(∀ b,F b→b < W.heap.size)
  have hJ0:J 0 (Fp F0) W1:=⟨F0,fun _=>Iff.rfl,stI 0 F0 w W1 h0 (Keep.of_bl hb1 hF0),nl0,nd0,hL1,hK1,fun b hb=>.inl hb⟩
  refine (hseq (w.heap.size + 1) J Y ?_ ?_ ?_ ?_ (Fp F0) W1 hJ0 (hpre W1 _ hb1 (by omega) (fun _=>Iff.rfl))).mono ?_
  ·rintro k G W W' ⟨F,hG,hi,h1,h2,h3,h4,h5⟩ hk
   exact ⟨F,hG,stI k F W W' hi ⟨hk.os,hk.tape,hk.output,hk.size,fun b hb=>hk.block b ((hG b).2 (.inl hb))⟩,h1,h2,(hk.block _ ((hG _).2 (.inr (.inr rfl)))).trans h3,(hk.block _ ((hG _).2 (.inr (.inl rfl)))).trans h4,h5⟩
  ·rintro G W W' ⟨F,c,hG,hi,h1,h2,h3,h4,h5,h6⟩ hk
   exact ⟨F,c,hG,stX c F W W' hi ⟨hk.os,hk.tape,hk.output,hk.size,fun b hb=>hk.block b ((hG b).2 (.inl hb))⟩,h1,h2,(hk.block _ ((hG _).2 (.inr (.inr rfl)))).trans h3,(hk.block _ ((hG _).2 (.inr (.inl rfl)))).trans h4,h5,fun b hb=>Nat.lt_of_lt_of_le (h6 b hb) hk.size⟩
  ·rintro k G W ⟨F,hG,hi,h1,h2,h3,h4,h5⟩ b hb
   rcases (hG b).1 hb with h | rfl | rfl
   ·exact ltI k F W hi b h
   ·exact (zN h4).1
   ·exact (zN h3).1
  ·rintro k x G W hx ⟨F,hG,hi,h1,h2,h3,h4,h5⟩
   have hl3:=(zN h3).1
   have hF:=ltI k F W hi
   have hy:=run_yield (P:=P) (args:=x) h3 (by rw [hrec];exact hps x (List.mem_of_getElem? hx))
   rw [hrec] at hy
   refine ⟨fn,_,assign,body,hy,roundIn_of_wpIn hfn (hround _ k x F W _ hx hi h1 hl3 ?_)⟩
   clear hy
   intro a' Wa hba hbody
   have h3a:=(hba.at hl3).trans h3
   have hl3a:=(zN h3a).1
   have h4a:=(hba.at (by omega)).trans h4
   refine ⟨_,run_beginRound h3a (by rw [hrec]),?_⟩
   refine wpIn_mono (hbody (Wa.putObj (w.heap.size + 1) (.loop { rec .ready none with state:=.busy })) (fun b hb=>World.putObj_heap_other hb) (putObj_size _ _ _) rfl rfl rfl) ?_
   have hl2:(Wa.putObj (w.heap.size + 1) (.loop { rec .ready none with state:=.busy })).heap[w.heap.size + 1]?=some (.loop { rec .ready none with state:=.busy }):=World.putObj_heap_same hl3a
   have hk2:(Wa.putObj (w.heap.size + 1) (.loop { rec .ready none with state:=.busy })).heap[w.heap.size]?=some (.deferred (some [])):=(World.putObj_heap_other (by omega)).trans h4a
   have hs2:=putObj_size Wa (w.heap.size + 1) (.loop { rec .ready none with state:=.busy })
   have hsz:=hba.sz
   have fin:∀ (jump:Option Code) (F':Foot) (W3:World),Step (Wa.putObj (w.heap.size + 1) (.loop { rec .ready none with state:=.busy })).heap.size F (Wa.putObj (w.heap.size + 1) (.loop { rec .ready none with state:=.busy })) W3 F' →
     (Instr.endRound (w.heap.size + 1) jump).run P W3=.ok (.bool jump.isNone) (W3.putObj (w.heap.size + 1) (.loop (rec (if jump.isNone then .ready else .done) jump))) ∧
     (W3.putObj (w.heap.size + 1) (.loop (rec (if jump.isNone then .ready else .done) jump))).heap[w.heap.size + 1]?=some (.loop (rec (if jump.isNone then .ready else .done) jump)) ∧
     (W3.putObj (w.heap.size + 1) (.loop (rec (if jump.isNone then .ready else .done) jump))).heap[w.heap.size]?=some (.deferred (some [])) ∧
     Step W.heap.size G W (W3.putObj (w.heap.size + 1) (.loop (rec (if jump.isNone then .ready else .done) jump))) (Fp F')∧¬ F' (w.heap.size + 1)∧¬ F' w.heap.size∧(∀ b,F' b→F0 b∨w.heap.size + 2≤b):=fun jump F' W3 hst=>by
    have hl3':=(hst.block (w.heap.size + 1) (by rw [hs2];exact hl3a) h1).trans hl2
    have hk3':=(hst.block w.heap.size (by rw [hs2];omega) h2).trans hk2
    have hr:=run_endRound (P:=P) jump hl3'
    have n1:¬ F' (w.heap.size + 1):=fun h=>(hst.foot _ h).elim h1 (fun h=>by rw [hs2] at h;omega)
    have n2:¬ F' w.heap.size:=fun h=>(hst.foot _ h).elim h2 (fun h=>by rw [hs2] at h;omega)
    have hW3s:=hst.size
    rw [hs2] at hW3s
    rw [hrec] at hr ⊢
    refine ⟨hr,World.putObj_heap_same (by omega),(World.putObj_heap_other (by omega)).trans hk3',⟨?_,?_,?_,?_,?_,?_,?_⟩,n1,n2,?_⟩
    ·exact hst.os.trans hba.os
    ·exact hst.tape.trans hba.tape
    ·exact hst.output.trans hba.output
    ·rw [putObj_size];omega
    ·intro b hb hnb
     have hne:b≠w.heap.size + 1:=fun e=>hnb ((hG b).2 (.inr (.inr e)))
     rw [World.putObj_heap_other hne,hst.block b (by rw [hs2];omega) (fun h=>hnb ((hG b).2 (.inl h))),World.putObj_heap_other hne]
     exact hba.at hb
    ·intro b hb
     rcases hb with h | h | h
     ·rcases hst.foot b h with h | h
      ·exact .inl ((hG b).2 (.inl h))
      ·rw [hs2] at h;exact .inr (by omega)
     ·exact .inl ((hG b).2 (.inr (.inl h)))
     ·exact .inl ((hG b).2 (.inr (.inr h)))
    ·intro b hb
     rw [putObj_size]
     rcases hb with h | h | h
     ·exact hst.lt b h
     ·omega
     ·omega
    ·intro b hb
     rcases hst.foot b hb with h | h
     ·exact h5 b h
     ·rw [hs2] at h;exact .inr (by omega)
   rintro e a3 W3 hp
   cases e with
   | normal =>
    obtain ⟨F',hst,hi3⟩:=hp
    obtain ⟨hr,q1,q2,q3,q4,q5,q6⟩:=fin none F' W3 hst
    exact ⟨_,_,hr,_,q3,.inl ⟨rfl,F',fun _=>Iff.rfl,stI _ F' W3 _ hi3 (Keep.put q4),q4,q5,q1,q2,q6⟩⟩
   | ret =>
    obtain ⟨F',hst,hi3⟩:=hp
    obtain ⟨hr,q1,q2,q3,q4,q5,q6⟩:=fin (some .ret) F' W3 hst
    exact ⟨_,_,hr,_,q3,.inr ⟨rfl,F',.ret,fun _=>Iff.rfl,stX _ F' W3 _ hi3 (Keep.put q4),q4,q5,q1,q2,q6,fun b hb=>by rw [putObj_size];exact hst.lt b hb⟩⟩
   | exit id =>
    obtain ⟨F',hst,hi3⟩:=hp
    obtain ⟨hr,q1,q2,q3,q4,q5,q6⟩:=fin (some (.exit id)) F' W3 hst
    exact ⟨_,_,hr,_,q3,.inr ⟨rfl,F',.exit id,fun _=>Iff.rfl,stX _ F' W3 _ hi3 (Keep.put q4),q4,q5,q1,q2,q6,fun b hb=>by rw [putObj_size];exact hst.lt b hb⟩⟩
   | goto t =>
    obtain ⟨F',hst,hi3⟩:=hp
    obtain ⟨hr,q1,q2,q3,q4,q5,q6⟩:=fin (some (.goto t)) F' W3 hst
    exact ⟨_,_,hr,_,q3,.inr ⟨rfl,F',.goto t,fun _=>Iff.rfl,stX _ F' W3 _ hi3 (Keep.put q4),q4,q5,q1,q2,q6,fun b hb=>by rw [putObj_size];exact hst.lt b hb⟩⟩
   | panic ch=>exact hp.elim
   | outgrown=>exact hp.elim
  ·rintro e W2 ⟨⟨v,rfl⟩,G,hst,h⟩
   have stepTo:∀ (F:Foot) (o:Obj),(∀ b,F b→F0 b∨w.heap.size + 2≤b)→(∀ b,F b→b < W2.heap.size)→Step w.heap.size F0 w (W2.putObj (w.heap.size + 1) o) F:=fun F o h5 h6=>by
    have hz:=hst.size
    refine ⟨hst.os.trans hb1.os,hst.tape.trans hb1.tape,hst.output.trans hb1.output,by rw [putObj_size];omega,fun b q1 q2=>?_,fun b hb=>(h5 b hb).elim .inl (fun h=>.inr (by omega)),fun b hb=>by rw [putObj_size];exact h6 b hb⟩
    rw [World.putObj_heap_other (by omega),hst.block b (by omega) (fun h=>by rcases h with h | h | h;exact q2 h;omega;omega)]
    exact hb1.at q1
   rcases h with ⟨F,hG,hi,h1,h2,h3,h4,h5⟩ | ⟨F,c,hG,hi,h1,h2,h3,h4,h5,h6⟩
   ·refine ⟨none,_,by have:=run_endLoop (P:=P) h3 (by rw [hrec];simp);rw [hrec] at this;exact this,?_⟩
    exact hdone F _ (stepTo F _ h5 (ltI _ F W2 hi)) (stI _ F W2 _ hi (Keep.put h1)) ((World.putObj_heap_other (by omega)).trans h4) h2
   ·refine ⟨some c,_,by have:=run_endLoop (P:=P) h3 (by rw [hrec];simp);rw [hrec] at this;exact this,?_⟩
    exact hstop c F _ (stepTo F _ h5 h6) (stX c F W2 _ hi (Keep.put h1)) ((World.putObj_heap_other (by omega)).trans h4) h2
end
end Go.Proofs.YtbbokgpklihkoaaGreatDoor.W
