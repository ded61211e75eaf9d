/- Iter Coll Keys Heap Heap2 Heap3 -/
import Derived.Test.YtbbokgpklihkoaaGreatDoorPart8
import Derived.OwnWalkIn
import Derived.TacticsInMore
import Derived.LoopNIn
import Derived.LoopIn
import Derived.Test.YtbbokgpklihkoaaGreatDoorPart7
import Derived.RangeFuncBox
import Derived.Shelf.Abstract
set_option linter.unusedVariables false
set_option linter.unusedSimpArgs false
namespace Go.Proofs.YtbbokgpklihkoaaGreatDoor.W
section
open Go.RowKit
attribute [local go_sem] Oper.semAt_some
abbrev pca (a b:V) (g:Bool):Array Value:=#[.int .i64 a.k,.int .i64 a.n,.string (bs a.s),.int .i64 b.k,.int .i64 b.n,.string (bs b.s),.bool g]
def pairsOf (d:Row):List (Array Value):=d.map fun p=>#[p.1.agg,p.2.agg]
def AllPre (box db mb:Nat) (sl:Value) (rows:List Prow) (d:Row) (F:Foot) (W:World):Prop:=W.cell? ⟨box,0,none⟩=some (.pointer (some ⟨db,0,none⟩))∧DictIs W db mb sl rows d
theorem live_len (l:List Prow) (p:Prow):live (l++[p])=live l++(if p.2.2=true then [] else [(p.1,p.2.1)]):=by
 induction l with
 | nil=>obtain ⟨k,x,g⟩:=p;cases g<;>rfl
 | cons q t ih =>
  obtain ⟨k,x,g⟩:=q
  cases g<;>simp [live,ih]
theorem live_prefix {rows:List Prow} {j:Nat} {p:Prow} (h:rows[j]?=some p) (hg:p.2.2=false):(live rows)[(live (rows.take j)).length]?=some (p.1,p.2.1):=by
 have e:rows=rows.take j++p :: rows.drop (j + 1):=by
  have hlt:=(List.getElem?_eq_some_iff.1 h).1
  have h2:=List.take_append_drop j rows
  rw [List.drop_eq_getElem_cons hlt,(List.getElem?_eq_some_iff.1 h).2] at h2
  exact h2.symm
 have ha:∀ a b:List Prow,live (a++b)=live a++live b:=by
  intro a b
  induction a with
  | nil=>rfl
  | cons q t ih =>
   obtain ⟨k,x,g⟩:=q
   cases g<;>simp [live,ih]
 obtain ⟨k,x,g⟩:=p
 have hg':g=false:=hg
 subst hg'
 have hl:live rows=live (rows.take j)++(k,x) :: live (rows.drop (j + 1)):=by
  conv=>lhs;rw [e]
  rw [ha];rfl
 rw [hl,List.getElem?_append_right (Nat.le_refl _)]
 simp
theorem row_form {w:World} {base:Nat} {e:TypeId} {size:Nat} {v:Value} {n:Nat} {xs:List Value} (h:w.ownsRow base e size v n xs):∃ a c,v=.slice a n c∧(0 < n→∃ g,a=some ⟨g,0,none⟩∧base≤g∧g < w.heap.size):=by
 rcases h.2 with ⟨rfl,rfl⟩ | ⟨g,cap,cur,rfl,h0,hg,-⟩
 ·exact ⟨none,0,rfl,fun h=>by omega⟩
 ·exact ⟨_,_,rfl,fun _=>⟨g,rfl,h0,(zN hg).1⟩⟩
set_option maxRecDepth 100000 in
set_option maxHeartbeats 8000000 in
theorem all_seq (box db mb rb cp:Nat) (rows:List Prow) (d:Row):SeqOf Tryz.prog 471 #[.pointer (some ⟨box,0,none⟩)] (pairsOf d) (AllPre box db mb (.slice (some ⟨rb,0,none⟩) rows.length cp) rows d):=by
 rintro l J Y sJ sY ltJ hY F W hJ ⟨hbox,hd⟩
 obtain ⟨f1,f2,-,-,f3,f4⟩:=hd.head
 have hfew:=hd.few.1
 have hrb:=(hd.own.lt rb rfl).2
 have hlive:=hd.live
 have CL:=zH (clone_pairs W rb 0 rows.length cp (rows.flatMap pcs) (by rw [flat_length]) (fun j u h=>by
   have hj:j < rows.length * 7:=by rw [← flat_length];exact (List.getElem?_eq_some_iff.1 h).1
   rw [Nat.zero_add,hd.own.cellAt j hj];exact h) (by
   intro u hu
   obtain ⟨p,-,hp⟩:=List.mem_flatMap.1 hu
   simp only [pcs,List.mem_cons,List.not_mem_nil,or_false] at hp
   rcases hp with rfl | rfl | rfl | rfl | rfl | rfl | rfl<;>rfl) hrb (by unfold maxLen;omega) (by omega))
 have HL:=zH hlive
 have HJ:=zH hJ
 have HSJ:=zH sJ
 have HLT:=zH ltJ
 have HY:=zH hY
 have HSY:=zH sY
 clear hd hlive hJ sJ ltJ hY sY
 refine callsIn_of_wp Tryz.func471 rfl trivial ?_ rfl
 simp only [Tryz.ntmps471,zS,Nat.reduceAdd,Nat.reduceSub]
 gi_wp2_with (refine ⟨trivial,?_⟩;gi_at_call 472;refine (callsIn_wide.2 CL.out).mono ?_;rintro e W1 ⟨x,rfl,ho,hb1⟩;obtain ⟨xa,xc,rfl,hxa⟩:=row_form ho)
 obtain ⟨n,hn⟩:∃ n,n=rows.length:=⟨_,rfl⟩
 have HA:=zH (fun h=>And.intro (hxa h).choose_spec.1 (And.intro (hxa h).choose_spec.2.1 (hxa h).choose_spec.2.2))
 rw [← hn] at hfew ho hxa ⊢
 have HN:=zH hn
 have HO:=zH ho
 have HXA:=zH hxa
 have HB1:=zH hb1
 clear ho hxa hb1 hn HA
 gi_loopw [4,11] (fun v4 v wr=>∃ (k:Nat) (F':Foot),k≤n∧v=.int .i64 k∧Step W.heap.size F W wr F'∧J (live (rows.take k)).length F' wr∧(0 < n→∃ g,xa=some ⟨g,0,none⟩∧Loc F' wr g∧wr.heap[g]?=W1.heap[g]?)) (fun _ v _=>n - (intOf v).toNat)
 case atStart =>
  exact ⟨0,F,Nat.zero_le _,rfl,Step.of_bl HB1.out (HLT.out 0 F W HJ.out),HSJ.out 0 F W W1 HJ.out (Keep.of_bl HB1.out (HLT.out 0 F W HJ.out)),fun h=>by
   obtain ⟨g,h1,h2,h3⟩:=HXA.out h
   exact ⟨g,h1,⟨h3,fun hf=>by have:=HLT.out 0 F W HJ.out g hf;omega⟩,rfl⟩⟩
 case round =>
  obtain ⟨k,F',hk,rfl,hst,hJ,hg⟩:=hrel
  have HST:=zH hst
  have HJk:=zH hJ
  by_cases hlt:k < n
  ·obtain ⟨g,rfl,hloc,hgb⟩:=hg (by omega)
   obtain ⟨p,hp⟩:∃ p,rows[k]?=some p:=⟨_,List.getElem?_eq_getElem (by rw [← HN.out];exact hlt)⟩
   have q:∀ t,t < 7→wr.cell? ⟨g,k * 7 + t,none⟩=(pcs p)[t]?:=fun t ht=>by
    rw [World.cell?_of_block (w:=W1) (a:=⟨g,k * 7 + t,none⟩) hgb,HO.out.cellAt _ (by omega),pcs_at ht hp]
   have q0:wr.cell? ⟨g,k * 7,none⟩=some (.int .i64 p.1.k):=q 0 (by decide)
   have q1:wr.cell? ⟨g,k * 7 + 1,none⟩=some (.int .i64 p.1.n):=q 1 (by decide)
   have q2:wr.cell? ⟨g,k * 7 + 2,none⟩=some (.string (bs p.1.s)):=q 2 (by decide)
   have q3:wr.cell? ⟨g,k * 7 + 3,none⟩=some (.int .i64 p.2.1.k):=q 3 (by decide)
   have q4:wr.cell? ⟨g,k * 7 + 4,none⟩=some (.int .i64 p.2.1.n):=q 4 (by decide)
   have q5:wr.cell? ⟨g,k * 7 + 5,none⟩=some (.string (bs p.2.1.s)):=q 5 (by decide)
   have q6:wr.cell? ⟨g,k * 7 + 6,none⟩=some (.bool p.2.2):=q 6 (by decide)
   have hgl:=hloc.1
   have hbl:∀ g,Bl wr (wr.alloc (.cells (pca p.1 p.2.1 g) 301)):=fun g=>Bl.al _ _
   have hJa:=fun g=>HSJ.out _ F' wr _ hJ (Keep.of_bl (hbl g) (HLT.out _ F' wr hJ))
   have hSa:=fun g=>hst.bl (hbl g) hst.size
   have HP:=zH hp
   have HLOC:=zH hloc
   have HGB:=zH hgb
   have HJA:=zH hJa
   have HSA:=zH hSa
   have hsnoc:live (rows.take (k + 1))=live (rows.take k)++(if p.2.2=true then [] else [(p.1,p.2.1)]):=by rw [take_succ_row hp,live_len]
   cases hgo:p.2.2 with
   | true =>
    rw [hgo] at q6 hsnoc
    have HS:=zH (show live (rows.take (k + 1))=live (rows.take k) by rw [hsnoc,if_pos rfl,List.append_nil])
    have HREL:=zH (show Step W.heap.size F W (wr.alloc (.cells (pca p.1 p.2.1 true) 301)) F'∧J (live (rows.take (k + 1))).length F' (wr.alloc (.cells (pca p.1 p.2.1 true) 301))∧(0 < n→∃ g',(some ⟨g,0,none⟩:Option Addr)=some ⟨g',0,none⟩∧Loc F' (wr.alloc (.cells (pca p.1 p.2.1 true) 301)) g'∧(wr.alloc (.cells (pca p.1 p.2.1 true) 301)).heap[g']?=W1.heap[g']?) from
     ⟨hSa true,by rw [HS.out];exact hJa true,fun _=>⟨g,rfl,hloc.alloc _,(Below.heap_alloc _ _ _ hloc.1).trans hgb⟩⟩)
    clear hst hJ hg q hloc hgb hbl hJa hSa hp hsnoc hgo HJA HSA HLOC HGB HST HJk
    gi_wp2
    refine ⟨fun _ h=>(by cases h),?_⟩
    gi_wp2
    go_roundw
    case rel=>first | exact ⟨k + 1,F',by omega,by go_num,HREL.out⟩ | ((repeat apply Exists.intro);exact ⟨⟨k + 1,F',by omega,by go_num,HREL.out⟩,rfl⟩)
    case measure=>simp [intOf];omega
   | false =>
    have hx:(pairsOf d)[(live (rows.take k)).length]?=some #[p.1.agg,p.2.1.agg]:=by
     have:=live_prefix hp hgo
     rw [HL.out] at this
     unfold pairsOf
     rw [List.getElem?_map,this];rfl
    obtain ⟨fn,tmps,assign,body,hy,hR⟩:=HY.out _ _ F' _ hx (hJa false)
    rw [hgo] at q6 hsnoc
    have HS:=zH (show (live (rows.take (k + 1))).length=(live (rows.take k)).length + 1 by rw [hsnoc];simp)
    have HG:=zH hgo
    clear hst hJ hg q hloc hgb hbl hJa hSa hp hsnoc hgo hx
    gi_wp2
    refine hR.mono ?_
    rintro e W3 ⟨F3,hst3,(⟨rfl,hJ3⟩ | ⟨rfl,hY3⟩)⟩
    ·have hbl:=Bl.al wr (.cells (pca p.1 p.2.1 false) 301)
     have hloc3:=(HLOC.out.alloc (.cells (pca p.1 p.2.1 false) 301))
     have HREL:=zH (show Step W.heap.size F W W3 F3∧J (live (rows.take (k + 1))).length F3 W3∧(0 < n→∃ g',(some ⟨g,0,none⟩:Option Addr)=some ⟨g',0,none⟩∧Loc F3 W3 g'∧W3.heap[g']?=W1.heap[g']?) from
      ⟨(HSA.out false).call (by rw [zL];exact Nat.le_succ_of_le HST.out.size) hst3,by rw [HS.out];exact hJ3,fun _=>⟨g,rfl,hloc3.step hst3,(hloc3.block hst3).trans ((Below.heap_alloc _ _ _ HLOC.out.1).trans HGB.out)⟩⟩)
     clear hst3 hJ3 hbl hloc3 HJA HSA HLOC HGB HST HJk hR hy
     gi_wp2
     go_roundw
     case rel=>first | exact ⟨k + 1,F3,by omega,by go_num,HREL.out⟩ | ((repeat apply Exists.intro);exact ⟨⟨k + 1,F3,by omega,by go_num,HREL.out⟩,rfl⟩)
     case measure=>simp [intOf];omega
    ·have HREL:=zH (And.intro ((HSA.out false).call (by rw [zL];exact Nat.le_succ_of_le HST.out.size) hst3) hY3)
     clear hst3 hY3 HJA HSA HLOC HGB HST HJk hR hy
     gi_wp2
     refine bodyPost_ret (results_none rfl _ _ _) rfl ?_
     exact ⟨⟨_,rfl⟩,F3,HREL.out.1,.inr HREL.out.2⟩
  ·obtain rfl:k=n:=by omega
   have HE:=zH (show J (pairsOf d).length F' wr by
    have e:(pairsOf d).length=(live (rows.take k)).length:=by rw [HN.out,List.take_length,HL.out];simp [pairsOf]
    rw [e];exact hJ)
   clear hst hJ hg HJk
   gi_wp2
   go_end0
   exact ⟨⟨_,rfl⟩,F',HST.out,.inl HE.out⟩
end
section
open Go.RowKit
theorem wpListIn_app {F:Fence} {n:Nat} {P:Program} {ops:Array Oper} {rest:List Oper} {o:Oper} {a:Go.Act} {w:World} {Q:Exit→Go.Act→World→Prop} (hgd:o.guard=none) (s x:Operand) (t:TypeId)
  (hop:o.op=Op.call { callee:=Callee.builtin Builtin.append,args:=#[s,x],argTypes:=#[t,t] })
  (v vx:Value) (hs:a.eval s=v) (hx:a.eval x=vx) (v':Value) (w':World) (hr:(Builtin.append_ #[t,t] o.type #[v,vx]).run P w=.ok v' w') (h:wpListIn F n P ops Q rest (a.put o.dst v') w') :
  wpListIn F n P ops Q (o :: rest) a w:=by
 refine wpListIn_plain hgd fun K hK'=>?_
 unfold Oper.wpIn
 refine ⟨?_,?_⟩
 ·simp [Oper.about,hop,resolve,Target.leads,Sem.run_pure]
 ·rw [Oper.semAt_plain F _ _ (by rw [hop];intro c hc';cases hc')]
  simp [execOp,hop,resolve,invoke,builtin,hs,hx,hr,Result.andThen]
  exact hK' _ _ h
def CFoot (ob:Nat) (v:Value):Foot:=fun b=>b=ob∨v.ownBlock=some b
structure Coll (ob base:Nat) (tS tE:TypeId) (sz n:Nat) (xs:List Value) (v:Value) (W:World):Prop where
 box:W.heap[ob]?=some (.cells #[v] tS (0,0))
 row:W.ownsRow base tE sz v n xs
theorem Coll.keep {ob base:Nat} {tS tE:TypeId} {sz n:Nat} {xs:List Value} {v:Value} {W W':World} (h:Coll ob base tS tE sz n xs v W) (hk:∀ b,CFoot ob v b→W'.heap[b]?=W.heap[b]?):Coll ob base tS tE sz n xs v W' :=
 ⟨(hk ob (.inl rfl)).trans h.box,h.row.1,h.row.2.elim .inl (fun ⟨g,cap,cur,e,h0,hg,r⟩=>.inr ⟨g,cap,cur,e,h0,(hk g (.inr (by rw [e];rfl))).trans hg,r⟩)⟩
theorem Coll.lt {ob base:Nat} {tS tE:TypeId} {sz n:Nat} {xs:List Value} {v:Value} {W:World} (h:Coll ob base tS tE sz n xs v W):∀ b,CFoot ob v b→b < W.heap.size:=by
 rintro b (rfl | hb)
 ·exact (zN h.box).1
 ·exact (h.row.lt b hb).2
theorem Coll.cells {ob base:Nat} {tS tE:TypeId} {sz n:Nat} {xs:List Value} {v:Value} {W:World} (h:Coll ob base tS tE sz n xs v W):W.cell? ⟨ob,0,none⟩=some v∧W.frozen? ⟨ob,0,none⟩=false :=
 ⟨by rw [cell_of h.box];rfl,by simp [World.frozen?,h.box]⟩
theorem Coll.form {ob base:Nat} {tS tE:TypeId} {sz n:Nat} {xs:List Value} {v:Value} {W:World} (h:Coll ob base tS tE sz n xs v W):∃ a c,v=.slice a n c:=by
 rcases h.row.2 with ⟨rfl,rfl⟩ | ⟨g,cap,cur,rfl,-⟩
 ·exact ⟨_,_,rfl⟩
 ·exact ⟨_,_,rfl⟩
theorem Coll.app {P:Program} {ob base:Nat} {tS tE:TypeId} {sz n:Nat} {xs:List Value} {v:Value} {W:World} (h:Coll ob base tS tE sz n xs v W) (t:TypeId) (i:TypeInfo) (z:Value) (bytes:Nat)
  (ht:P.underlying t=some (.slice tE)) (hi:P.info? tE=some i) (hz:i.zero=some z) (hsize:i.size=sz) (hby:i.bytes=bytes) (hzs:z.cells.size=sz) (hsz:0 < sz)
  (news:List Value) (hl:news.length=sz) (h1:∀ u∈news,u.oneCell'=true) (h63:n + 1≤maxLen) (hbytes:(n + 1) * bytes≤140737488355328) (hbase:base≤W.heap.size) (htt:tS≠tE) :
  ∃ g' cap' w4,(∀ ty,(Builtin.append_ #[t,t] ty #[v,.slice (some ⟨W.heap.size,0,none⟩) 1 1]).run P (W.alloc (.cells news.toArray tE))=.ok (.slice (some ⟨g',0,none⟩) (n + 1) cap') w4) ∧
   w4.cell? ⟨ob,0,none⟩=some v∧w4.frozen? ⟨ob,0,none⟩=false∧W.heap.size < w4.heap.size ∧
   Coll ob base tS tE sz (n + 1) (xs++news) (.slice (some ⟨g',0,none⟩) (n + 1) cap') (w4.setCell ⟨ob,0,none⟩ (.slice (some ⟨g',0,none⟩) (n + 1) cap')) ∧
   ∀ F:Foot,(∀ b,CFoot ob v b→F b)→(∀ b,F b→b < W.heap.size)→∃ F':Foot,Step W.heap.size F W (w4.setCell ⟨ob,0,none⟩ (.slice (some ⟨g',0,none⟩) (n + 1) cap')) F'∧(∀ b,F' b↔F b∨b=g'):=by
 have hob:=(zN h.box).1
 have hown:W.ownsRow 0 tE sz v n xs:=⟨h.row.1,h.row.2.elim .inl (fun ⟨g,cap,cur,e,_,r⟩=>.inr ⟨g,cap,cur,e,Nat.zero_le _,r⟩)⟩
 have hne:v.ownBlock≠some ob:=by
  intro e
  rcases h.row.2 with ⟨rfl,-⟩ | ⟨g,cap,cur,rfl,h0,hg,hnc,hcm,hcs,htk⟩
  ·cases e
  ·cases e
   rw [h.box] at hg
   injection hg with hg
   injection hg with hc ht' hf
   exact htt ht'
 obtain ⟨v',w4,hap,ho,hgrow,hblk⟩:=run_app (P:=P) (W.alloc (.cells news.toArray tE)) t t tE i z sz bytes ht hi hz hsize hby hzs hsz v n xs (hown.alloc _) ⟨W.heap.size,0,none⟩ 1 1 news (by omega) (by
  intro j u h;rw [Addr.add_lit,Nat.zero_add,cell_of (MapKept.heap_alloc W _).1];simpa using h) h1 h63 hbytes
 obtain ⟨g',cap',rfl⟩:=ownsRow_succ ho
 have hz:=hgrow.size
 rw [zL] at hz
 have h4:∀ b,b < W.heap.size→v.ownBlock≠some b→w4.heap[b]?=W.heap[b]?:=fun b h1 h2 =>
  (hgrow.block b (by rw [zL];omega) (fun e=>h2 e.symm)).trans (Below.heap_alloc W _ b h1)
 have hbx:w4.heap[ob]?=some (.cells #[v] tS (0,0)):=(h4 ob hob hne).trans h.box
 have hg':v.ownBlock=some g'∨W.heap.size + 1≤g':=by
  rcases hblk with e | ⟨g2,e,h2⟩
  ·exact .inl (e.symm.trans rfl)
  ·simp [Value.ownBlock] at e;rw [zL] at h2;exact .inr (by omega)
 have hgo:g'≠ob:=by
  rintro rfl
  exact hg'.elim hne (fun h=>by omega)
 have hbg:base≤g':=by
  rcases hg' with e | h
  ·exact (h.row.lt g' e).1
  ·omega
 have h5:∀ b,b≠ob→(w4.setCell ⟨ob,0,none⟩ (.slice (some ⟨g',0,none⟩) (n + 1) cap')).heap[b]?=w4.heap[b]?:=fun b h=>Below.heap_setCell _ _ _ _ h
 refine ⟨g',cap',w4,fun ty=>hap,by rw [cell_of hbx];rfl,by simp [World.frozen?,hbx],by omega,⟨?_,ho.1,?_⟩,fun F hF hlt=>⟨fun b=>F b∨b=g',⟨hgrow.os,hgrow.tape,hgrow.output,by rw [World.size_setCell];omega,fun b q1 q2=>?_,?_,?_⟩,fun b=>Iff.rfl⟩⟩
 ·rw [heap_setCell_same w4 ob 0 _ _ _ hbx];rfl
 ·rcases ho.2 with ⟨e,-⟩ | ⟨g,cap,cur,e,h0,hg,r⟩
  ·cases e
  ·cases e;exact .inr ⟨g',cap',cur,rfl,hbg,by rw [h5 _ hgo];exact hg,r⟩
 ·rw [h5 b (fun e=>q2 (hF b (.inl e))),h4 b q1 (fun e=>q2 (hF b (.inr e)))]
 ·rintro b (hb | rfl)
  ·exact .inl hb
  ·rcases hg' with e | h
   ·exact .inl (hF _ (.inr e))
   ·exact .inr (by omega)
 ·rintro b (hb | rfl)
  ·rw [World.size_setCell];have:=hlt b hb;omega
  ·rw [World.size_setCell];exact (ho.lt b rfl).2
end
section
open Go.RowKit Go.Shelf
attribute [local go_sem] Oper.semAt_some
set_option maxRecDepth 100000 in
theorem all_nil (box db mb:Nat) (d:Row):SeqOf Tryz.prog 471 #[.pointer (some ⟨box,0,none⟩)] (pairsOf d) (AllPre box db mb (.slice none 0 0) [] d):=by
 rintro l J Y sJ sY ltJ hY F W hJ ⟨hbox,hd⟩
 obtain ⟨f1,f2,-,-,f3,f4⟩:=hd.head
 have hl:d=[]:=hd.live.symm
 subst hl
 have HJ:=zH (show Step W.heap.size F W W F∧J (pairsOf []).length F W from ⟨Step.refl (ltJ 0 F W hJ),hJ⟩)
 clear hd hJ sJ ltJ hY sY
 refine callsIn_of_wp Tryz.func471 rfl trivial ?_ rfl
 simp only [Tryz.ntmps471,zS,Nat.reduceAdd,Nat.reduceSub]
 gi_wp2_with (refine ⟨trivial,?_⟩;gi_at_call 472;refine (callsIn_wide.2 (clone_pairs_nil _)).mono ?_;rintro e W1 ⟨rfl,rfl⟩)
 gi_loopw [4,11] (fun v4 v wr=>v=.int .i64 0∧wr=W) (fun _ v _=>0)
 case atStart=>exact ⟨rfl,rfl⟩
 case round =>
  obtain ⟨rfl,rfl⟩:=hrel
  gi_wp2
  go_end0
  exact ⟨⟨_,rfl⟩,F,HJ.out.1,.inl HJ.out.2⟩
theorem all_any (box db mb:Nat) (sl:Value) (rows:List Prow) (d:Row):SeqOf Tryz.prog 471 #[.pointer (some ⟨box,0,none⟩)] (pairsOf d) (AllPre box db mb sl rows d):=by
 rintro l J Y sJ sY ltJ hY F W hJ ⟨hbox,hd⟩
 rcases hd.own.2 with ⟨rfl,h0⟩ | ⟨g,cap,cur,rfl,-⟩
 ·have hr:rows=[]:=List.eq_nil_of_length_eq_zero h0
  subst hr
  exact all_nil box db mb d l J Y sJ sY ltJ hY F W hJ ⟨hbox,hd⟩
 ·exact all_seq box db mb g cap rows d l J Y sJ sY ltJ hY F W hJ ⟨hbox,hd⟩
theorem dict_all (w:World) (a:Addr):Calls Tryz.prog 431 #[.pointer (some a)] w fun e w'=>e=.returned (.func (.func 471) #[] #[.pointer (some ⟨w.heap.size,0,none⟩)])∧w.alloc (.cells #[.pointer (some a)] 104)=w':=by
 go_enter Tryz.func431,Tryz.ntmps431
 go_wp2
 go_ret
 exact ⟨rfl,rfl⟩
def NewVs (w:World) (l:List V) (e:Ending) (w':World):Prop:=Fresh w 23 3 l.length (l.flatMap V.cs) e w'
theorem keys_take {d:Row} {k:Nat} {p:V × V} (h:d[k]?=some p):((d.take (k + 1)).map (·.1)).flatMap V.cs=((d.take k).map (·.1)).flatMap V.cs++p.1.cs:=by
 rw [List.take_add_one,h];simp
theorem cs_one (v:V):∀ u∈v.cs,u.oneCell'=true:=by
 intro u hu
 simp only [V.cs,List.mem_cons,List.not_mem_nil,or_false] at hu
 rcases hu with rfl | rfl | rfl<;>rfl
theorem NewVs.put {w W':World} {l:List V} {x:Value} (h:NewVs w l (.returned x) W') {D:Nat} (hD:w.heap.size≤D) (hx:∀ b,x.ownBlock=some b→b≠D) (o:Obj):NewVs w l (.returned x) (W'.putObj D o):=by
 obtain ⟨y,hy,ho,hb⟩:=h
 cases hy
 refine ⟨x,rfl,⟨ho.1,ho.2.elim .inl (fun ⟨g,cap,cur,e,h0,hg,r⟩=>.inr ⟨g,cap,cur,e,h0,?_,r⟩)⟩,hb.os,hb.tape,hb.output,by rw [putObj_size];exact hb.size,fun k hk=>?_⟩
 ·rw [World.putObj_heap_other (hx g (by rw [e];rfl))];exact hg
 ·rw [World.putObj_heap_other (by omega)];exact hb.block k hk
set_option maxRecDepth 100000 in
set_option maxHeartbeats 8000000 in
theorem dict_keys (w:World) (db mb:Nat) (sl:Value) (rows:List Prow) (d:Row) (hd:DictIs w db mb sl rows d) :
  Calls Tryz.prog 362 #[.pointer (some ⟨db,0,none⟩)] w (NewVs w (d.map (·.1))):=by
 obtain ⟨i0,hi,hz0,hz1,hz2⟩:=info_parts Tryz.infoV
 have hfew:=hd.few.2
 have HD:=zH hd
 clear hd
 refine (callsIn_wide (n:=3)).1 ?_
 refine callsIn_of_wp_marks Tryz.func362 rfl trivial ?_ rfl
 simp only [Tryz.ntmps362,zS,Nat.reduceAdd,Nat.reduceSub]
 gi_wp2_with (refine ⟨trivial,?_⟩;gi_at_call 431;refine (callsIn_wide.2 (dict_all _ _)).mono ?_;rintro e w' ⟨rfl,rfl⟩)
 refine named (p:=fun W=>Code.wpIn _ _ _ _ _ _ W) (fun W0 hW0=>?_)
 have hb0:Bl w W0:=by rw [hW0];(repeat (first | exact qA _ | assumption | refine qB ?_ _ | refine qC ?_ | refine qD ?_ _ | refine qE ?_ _ (by simp<;>omega) _))
 have hs0:W0.heap.size=w.heap.size + 2:=by rw [hW0,zL,zL]
 have hbox:W0.heap[w.heap.size]?=some (.cells #[.slice none 0 0] 30 (0,0)):=by
  rw [hW0];exact (Below.heap_alloc _ _ _ (by simp)).trans (MapKept.heap_alloc w _).1
 have hptr:W0.heap[w.heap.size + 1]?=some (.cells #[.pointer (some ⟨db,0,none⟩)] 104 (0,0)):=by
  rw [hW0]
  have:=(MapKept.heap_alloc (w.alloc (.cells #[.slice none 0 0] 30)) (.cells #[.pointer (some ⟨db,0,none⟩)] 104)).1
  rw [zL] at this
  exact this
 clear hW0
 refine range_fn (gf:=471) (lb:=#[.pointer (some ⟨w.heap.size + 1,0,none⟩)]) rfl (enters_of Tryz.func471 (by kernel_rfl) rfl) (all_any (w.heap.size + 1) db mb sl rows d) ?_
  (fun k F W=>∃ v,Coll w.heap.size w.heap.size 30 23 3 k (((d.take k).map (·.1)).flatMap V.cs) v W∧(∀ b,CFoot w.heap.size v b→F b)∧(∀ b,F b→b < W.heap.size)∧(∀ b,F b→w.heap.size≤b))
  (fun _ _ _=>False) ?stI ?stX ?ltI (fun b=>b=w.heap.size) ?h0 ?hpre ?hround ?hdone ?hstop
 ·intro x hx
  obtain ⟨p,-,rfl⟩:=List.mem_map.1 hx
  rfl
 case stI =>
  rintro k F W W' ⟨v,hc,h1,h2,h3⟩ hk
  exact ⟨v,hc.keep (fun b hb=>hk.block b (h1 b hb)),h1,fun b hb=>Nat.lt_of_lt_of_le (h2 b hb) hk.size,h3⟩
 case stX=>intro c F W W' h _;exact h
 case ltI=>rintro k F W ⟨v,hc,h1,h2,h3⟩;exact h2
 case h0 =>
  refine ⟨.slice none 0 0,⟨hbox,by simp,.inl ⟨rfl,rfl⟩⟩,?_,?_,?_⟩
  ·rintro b (h | h)
   ·exact h
   ·cases h
  ·rintro b rfl;omega
  ·rintro b rfl;exact Nat.le_refl _
 case hpre =>
  intro W F hb _ _
  exact ⟨by rw [cell_of ((hb.at (by omega)).trans hptr)];rfl,HD.out.blm (hb0.trans hb)⟩
 case hround =>
  rintro l k x F W K hx ⟨v,hc,h1,h2,h3⟩ hnl hll hK
  obtain ⟨p,hp,rfl⟩:∃ p,d[k]?=some p∧x=#[p.1.agg,p.2.agg]:=by
   unfold pairsOf at hx
   rw [List.getElem?_map] at hx
   cases hp:d[k]? with
   | none=>rw [hp] at hx;cases hx
   | some p=>rw [hp] at hx;injection hx with hx;exact ⟨p,rfl,hx.symm⟩
  have hkd:=(List.getElem?_eq_some_iff.1 hp).1
  have HK:=zH hK
  have HC:=zH hc
  have HP:=zH hp
  clear hK hc hx hp
  gi_wp2
  refine HK.out _ _ (by (repeat (first | exact qA _ | assumption | refine qB ?_ _ | refine qC ?_ | refine qD ?_ _ | refine qE ?_ _ (by simp<;>omega) _))) ?_
  intro Wb hWb hsb hos htp hou
  have hWl:W.heap.size≠l:=by omega
  have hC2:Coll w.heap.size w.heap.size 30 23 3 k (((d.take k).map (·.1)).flatMap V.cs) v Wb:=HC.out.keep fun b hb=>by
   have hb2:=h1 b hb
   rw [hWb b (fun e=>hnl (by rw [← e];exact hb2))]
   exact Below.heap_alloc _ _ _ (h2 b hb2)
  have hnb:Wb.heap[W.heap.size]?=some (.cells p.1.ca 23 (0,0)):=by
   rw [hWb _ hWl];exact (MapKept.heap_alloc W _).1
  obtain ⟨c1,c2⟩:=hC2.cells
  obtain ⟨g',cap',w4,hap,d1,d2,hsz4,hC3,hstep⟩:=hC2.app 30 i0 _ 32 Tryz.underlying30 hi hz0 hz1 hz2 rfl (by decide) p.1.cs rfl (cs_one _) (by unfold maxLen;omega) (by omega) (by rw [hsb,zL];have:=h2 _ (h1 _ (.inl rfl));omega) (by decide)
  obtain ⟨F',hst,hF'⟩:=hstep F (fun b hb=>h1 b hb) (fun b hb=>by rw [hsb,zL];exact Nat.lt_succ_of_lt (h2 b hb))
  have y0:Wb.cell? ⟨W.heap.size,0,none⟩=some (.int .i64 p.1.k):=by rw [cell_of hnb];rfl
  have y1:Wb.cell? ⟨W.heap.size,1,none⟩=some (.int .i64 p.1.n):=by rw [cell_of hnb];rfl
  have y2:Wb.cell? ⟨W.heap.size,2,none⟩=some (.string (bs p.1.s)):=by rw [cell_of hnb];rfl
  have HREL:=zH (show ∃ F',Step Wb.heap.size F Wb (w4.setCell ⟨w.heap.size,0,none⟩ (.slice (some ⟨g',0,none⟩) (k + 1) cap')) F'∧∃ v,Coll w.heap.size w.heap.size 30 23 3 (k + 1) (((d.take (k + 1)).map (·.1)).flatMap V.cs) v (w4.setCell ⟨w.heap.size,0,none⟩ (.slice (some ⟨g',0,none⟩) (k + 1) cap'))∧(∀ b,CFoot w.heap.size v b→F' b)∧(∀ b,F' b→b < (w4.setCell ⟨w.heap.size,0,none⟩ (.slice (some ⟨g',0,none⟩) (k + 1) cap')).heap.size)∧(∀ b,F' b→w.heap.size≤b) from by
   refine ⟨F',hst,_,by rw [keys_take HP.out];exact hC3,?_,hst.lt,?_⟩
   ·rintro b (rfl | hb)
    ·exact (hF' _).2 (.inl (h1 _ (.inl rfl)))
    ·cases hb;exact (hF' _).2 (.inr rfl)
   ·intro b hb
    rcases hst.foot b hb with h | h
    ·exact h3 b h
    ·have:=h2 _ (h1 _ (.inl rfl));rw [hsb,zL] at h;omega)
  have ap:(Builtin.append_ #[30,30] 30 #[v,.slice (some ⟨Wb.heap.size,0,none⟩) 1 1]).run Tryz.prog (Wb.alloc (.cells p.1.ca 23))=.ok (.slice (some ⟨g',0,none⟩) (k + 1) cap') w4:=hap _
  have hll2:w.heap.size < Wb.heap.size:=by rw [hsb,zL];have:=h2 _ (h1 _ (.inl rfl));omega
  have hll3:W.heap.size < Wb.heap.size:=by rw [hsb,zL];omega
  clear HC HP hWb hC2 hnb hC3 hstep hst hF' hap hsb
  gi_wp2_with (gi_at_builtin;refine wpListIn_app rfl (.tmp 9) (.tmp 11) 30 rfl v (.slice (some ⟨Wb.heap.size,0,none⟩) 1 1) (by simp [Go.Act.eval]) (by simp [Go.Act.eval]) (.slice (some ⟨g',0,none⟩) (k + 1) cap') w4 ap ?_)
  exact HREL.out
 case hdone =>
  rintro F' W' hst ⟨v,hc,h1,h2,h3⟩ hD hnD
  obtain ⟨a,c,rfl⟩:=hc.form
  obtain ⟨c1,c2⟩:=hc.cells
  have hbw:Below w.heap.size w W':=by
   refine ⟨hst.os.trans hb0.os,hst.tape.trans hb0.tape,hst.output.trans hb0.output,Nat.le_trans hb0.sz hst.size,fun b hb=>?_⟩
   rw [hst.block b (by omega) (fun e=>by have e':b=w.heap.size:=e;omega)]
   exact hb0.at hb
  have HF:=zH (show ∀ o,NewVs w (d.map (·.1)) (.returned (.slice a (pairsOf d).length c)) (W'.putObj W0.heap.size o) from fun o=>by
   have e:(pairsOf d).length=d.length:=by simp [pairsOf]
   refine NewVs.put ⟨_,rfl,?_,hbw⟩ (by omega) (fun b hb e=>hnD (by rw [← e];exact h1 b (.inr hb))) o
   have h:=hc.row
   rw [e,List.take_length] at h
   rw [e,List.length_map]
   exact h)
  have HDD:=zH hD
  clear hst hc h1 h2 h3 hnD hbw hD
  gi_wp2
  refine ⟨by simp,.inl ⟨_,_,rfl,run_takeDeferred HDD.out,?_⟩⟩
  refine ⟨_,results_tmp (t:=2) rfl _ _ _,?_⟩
  exact HF.out _
 case hstop=>intro c F' W' _ h _ _;exact h.elim
end
section
open Go.RowKit
structure CO where
 n:Int
 o:Ob
 ob:Nat
 db:Nat
 mb:Nat
 it:Value
 sl:Value
 rows:List Prow
def CO.foot (c:CO):Foot:=fun b=>b=c.ob∨b=c.db∨b=c.mb∨c.it.ownBlock=some b∨c.sl.ownBlock=some b
abbrev big:Nat:=1048576
structure ObAt (w:World) (c:CO):Prop where
 blk:w.heap[c.ob]?=some (.cells #[.int .i64 c.o.kind,.string (bs c.o.name),.int .i64 c.o.num,c.it,.pointer (some ⟨c.db,0,none⟩)] 107 (0,0))
 items:w.ownsRow 0 23 3 c.it c.o.items.length (c.o.items.flatMap V.cs)
 dict:DictIs w c.db c.mb c.sl c.rows c.o.d
 few:c.o.items.length≤big
structure Lay where
 am:Nat
 rm:Nat
 lr:List (Int × Int)
 cos:List CO
def Apart (c d:CO):Prop:=∀ b,c.foot b→¬ d.foot b
structure HRL (w:World) (hp:Nat) (h:Hp) (F:Foot) (L:Lay):Prop where
 blk:w.heap[hp]?=some (.cells #[.map (some L.am),.map (some L.rm),.int .i64 h.last] 96 (0,0))
 all:∃ es c,w.heap[L.am]?=some (.map es c)∧Ents (fun n:Int=>Value.int .i64 n) (fun b:Nat=>Value.pointer (some ⟨b,0,none⟩)) es.toList (L.cos.map fun c=>(c.n,c.ob))
 refs:∃ es c,w.heap[L.rm]?=some (.map es c)∧Ents (fun n:Int=>Value.int .i64 n) (fun x:Int=>Value.int .i64 x) es.toList L.lr
 lr:∀ n,(get L.lr n).getD 0=h.refs n
 eq:h.all=L.cos.map fun c=>(c.n,c.o)
 obs:∀ c∈L.cos,ObAt w c
 nd:(h.all.map (·.1)).Nodup
 ne:L.am≠L.rm∧∀ c∈L.cos,c.mb≠L.am∧c.mb≠L.rm
 apart:L.cos.Pairwise Apart
 own:F hp∧F L.am∧F L.rm∧∀ c∈L.cos,∀ b,c.foot b→F b
 lt:∀ b,F b→b < w.heap.size
 born:∃ es c,w.heap[L.am]?=some (.map es c)∧Born es c
def HR (w:World) (hp:Nat) (h:Hp) (F:Foot):Prop:=∃ L,HRL w hp h F L
theorem ObAt.keep {w w':World} {c:CO} (h:ObAt w c) (hk:∀ b,c.foot b→w'.heap[b]?=w.heap[b]?):ObAt w' c :=
 ⟨(hk _ (.inl rfl)).trans h.blk,⟨h.items.1,h.items.2.elim .inl (fun ⟨g,cap,cur,e,h0,hg,r⟩=>.inr ⟨g,cap,cur,e,h0,(hk g (.inr (.inr (.inr (.inl (by rw [e];rfl)))))).trans hg,r⟩)⟩,
  h.dict.bl (fun b hb=>hk b (by rcases hb with rfl | rfl | hb;exact .inr (.inl rfl);exact .inr (.inr (.inl rfl));exact .inr (.inr (.inr (.inr hb))))),h.few⟩
theorem HRL.keep {w w':World} {hp:Nat} {h:Hp} {F:Foot} {L:Lay} (r:HRL w hp h F L) (hs:w.heap.size≤w'.heap.size) (hk:∀ b,F b→w'.heap[b]?=w.heap[b]?):HRL w' hp h F L:=by
 obtain ⟨es,c,hm,he⟩:=r.all
 obtain ⟨es2,c2,hm2,he2⟩:=r.refs
 exact ⟨(hk _ r.own.1).trans r.blk,⟨es,c,(hk _ r.own.2.1).trans hm,he⟩,⟨es2,c2,(hk _ r.own.2.2.1).trans hm2,he2⟩,r.lr,r.eq,fun c hc=>(r.obs c hc).keep (fun b hb=>hk b (r.own.2.2.2 c hc b hb)),r.nd,r.ne,r.apart,r.own,
  fun b hb=>Nat.lt_of_lt_of_le (r.lt b hb) hs,r.born.elim fun es ⟨c,h1,h2⟩=>⟨es,c,(hk _ r.own.2.1).trans h1,h2⟩⟩
theorem HRL.bl {w w':World} {hp:Nat} {h:Hp} {F:Foot} {L:Lay} (r:HRL w hp h F L) (hb:Bl w w'):HRL w' hp h F L:=r.keep hb.sz fun b hF=>hb.at (r.lt b hF)
theorem HR.keep {w w':World} {hp:Nat} {h:Hp} {F:Foot} (r:HR w hp h F) (hs:w.heap.size≤w'.heap.size) (hk:∀ b,F b→w'.heap[b]?=w.heap[b]?):HR w' hp h F:=r.elim fun L r=>⟨L,r.keep hs hk⟩
theorem HR.bl {w w':World} {hp:Nat} {h:Hp} {F:Foot} (r:HR w hp h F) (hb:Bl w w'):HR w' hp h F:=r.elim fun L r=>⟨L,r.bl hb⟩
theorem HR.lt {w:World} {hp:Nat} {h:Hp} {F:Foot} (r:HR w hp h F):∀ b,F b→b < w.heap.size:=r.elim fun L r=>r.lt
theorem HRL.head {w:World} {hp:Nat} {h:Hp} {F:Foot} {L:Lay} (r:HRL w hp h F L) :
  (w.cell? ⟨hp,0,none⟩=some (.map (some L.am))∧w.cell? ⟨hp,1,none⟩=some (.map (some L.rm))∧w.cell? ⟨hp,2,none⟩=some (.int .i64 h.last))∧w.frozen? ⟨hp,2,none⟩=false∧hp < w.heap.size∧L.am < w.heap.size∧L.rm < w.heap.size :=
 ⟨⟨by rw [cell_of r.blk];rfl,by rw [cell_of r.blk];rfl,by rw [cell_of r.blk];rfl⟩,by simp [World.frozen?,r.blk],r.lt _ r.own.1,r.lt _ r.own.2.1,r.lt _ r.own.2.2.1⟩
theorem get_map {β γ δ:Type} (l:List β) (f:β→Int) (g:β→γ) (n:Int):get (l.map fun c=>(f c,g c)) n=(l.find? fun c=>decide (f c=n)).map g:=by
 induction l with
 | nil=>rfl
 | cons c t ih =>
  by_cases h:f c=n
  ·simp [get,h]
  ·simp only [List.map_cons,get,if_neg h,ih,List.find?_cons,decide_eq_false h]
theorem HRL.find {w:World} {hp:Nat} {h:Hp} {F:Foot} {L:Lay} (r:HRL w hp h F L) (n:Int) :
  (get h.all n=none∧get (L.cos.map fun c=>(c.n,c.ob)) n=none)∨∃ c,c∈L.cos∧c.n=n∧get h.all n=some c.o∧get (L.cos.map fun c=>(c.n,c.ob)) n=some c.ob:=by
 rw [r.eq,get_map (δ:=Nat) L.cos (·.n) (·.o) n,get_map (δ:=Nat) L.cos (·.n) (·.ob) n]
 cases hf:L.cos.find? fun c=>decide (c.n=n) with
 | none=>exact .inl ⟨rfl,rfl⟩
 | some c=>exact .inr ⟨c,List.mem_of_find?_eq_some hf,by simpa using List.find?_some hf,rfl,rfl⟩
theorem zeroPtr (w:World):(zeroValue 103).run Tryz.prog w=.ok (.pointer none) w:=by kernel_rfl
theorem HRL.look {w:World} {hp:Nat} {h:Hp} {F:Foot} {L:Lay} (r:HRL w hp h F L) (n:Int) (W:World) (hW:W.heap[L.am]?=w.heap[L.am]?) :
  (Instr.lookup 93 (.map (some L.am)) (.int .i64 n) false).run Tryz.prog W=.ok (((get (L.cos.map fun c=>(c.n,c.ob)) n).map fun b:Nat=>Value.pointer (some ⟨b,0,none⟩)).getD (.pointer none)) W:=by
 obtain ⟨es,c,hm,he⟩:=r.all
 exact run_look (ek:=fun n:Int=>Value.int .i64 n) Tryz.underlying93 (key_i64 Tryz.underlying2) zeroPtr (hW.trans hm) he n false
theorem of_none (w:World) (hp:Nat) (h:Hp) (F:Foot) (L:Lay) (r:HRL w hp h F L) (v:V) (hv:h.of v=none) :
  Calls Tryz.prog 221 #[.pointer (some ⟨hp,0,none⟩),v.agg] w fun e w'=>e=.returned (.pointer none)∧Bl w w':=by
 obtain ⟨⟨f1,f2,f3⟩,-,f4,f5,f6⟩:=r.head
 by_cases hk:v.k=4
 ·have hg:get h.all v.n=none:=by unfold Hp.of at hv;rwa [if_pos hk] at hv
  have hg2:get (L.cos.map fun c=>(c.n,c.ob)) v.n=none:=by
   rcases r.find v.n with ⟨-,h2⟩ | ⟨c,-,-,h2,-⟩
   ·exact h2
   ·rw [hg] at h2;cases h2
  have lk:∀ n,(Instr.lookup 93 (.map (some L.am)) (.int .i64 v.n) false).run Tryz.prog ((w.alloc (.cells v.ca 23)).drewN n)=.ok (.pointer none) ((w.alloc (.cells v.ca 23)).drewN n):=by
   intro n
   rw [r.look v.n _ (show ((w.alloc _).drewN n).heap[L.am]?=_ from Below.heap_alloc _ _ _ f5),hg2]
   rfl
  have hk1:(v.k != 4)=false:=by simpa using hk
  clear r hv hg hg2 hk
  go_enter Tryz.func221,Tryz.ntmps221
  go_wp2
  go_quiet (fail)
  go_wp2
  go_ret
  exact ⟨rfl,by (repeat (first | exact qA _ | assumption | refine qB ?_ _ | refine qC ?_ | refine qD ?_ _ | refine qE ?_ _ (by simp<;>omega) _))⟩
 ·have hk1:(v.k != 4)=true:=by simpa using hk
  clear r hv hk
  go_enter Tryz.func221,Tryz.ntmps221
  go_wp2
  go_ret
  exact ⟨rfl,by (repeat (first | exact qA _ | assumption | refine qB ?_ _ | refine qC ?_ | refine qD ?_ _ | refine qE ?_ _ (by simp<;>omega) _))⟩
theorem of_some (w:World) (hp:Nat) (h:Hp) (F:Foot) (L:Lay) (r:HRL w hp h F L) (v:V) (c:CO) (hk:v.k=4) (hc:get (L.cos.map fun c=>(c.n,c.ob)) v.n=some c.ob) :
  Calls Tryz.prog 221 #[.pointer (some ⟨hp,0,none⟩),v.agg] w fun e w'=>e=.returned (.pointer (some ⟨c.ob,0,none⟩))∧Bl w w':=by
 obtain ⟨⟨f1,f2,f3⟩,-,f4,f5,f6⟩:=r.head
 have lk:∀ n,(Instr.lookup 93 (.map (some L.am)) (.int .i64 v.n) false).run Tryz.prog ((w.alloc (.cells v.ca 23)).drewN n)=.ok (.pointer (some ⟨c.ob,0,none⟩)) ((w.alloc (.cells v.ca 23)).drewN n):=by
  intro n
  rw [r.look v.n _ (show ((w.alloc _).drewN n).heap[L.am]?=_ from Below.heap_alloc _ _ _ f5),hc]
  rfl
 have hk1:(v.k != 4)=false:=by simpa using hk
 clear r hk hc
 go_enter Tryz.func221,Tryz.ntmps221
 go_wp2
 go_quiet (fail)
 go_wp2
 go_ret
 exact ⟨rfl,by (repeat (first | exact qA _ | assumption | refine qB ?_ _ | refine qC ?_ | refine qD ?_ _ | refine qE ?_ _ (by simp<;>omega) _))⟩
end
section
open Go.RowKit
theorem HR.case {w:World} {hp:Nat} {h:Hp} {F:Foot} (r:HR w hp h F) (v:V) :
  (h.of v=none∧∀ W,Bl w W→Calls Tryz.prog 221 #[.pointer (some ⟨hp,0,none⟩),v.agg] W fun e w'=>e=.returned (.pointer none)∧Bl W w') ∨
  ∃ L c,HRL w hp h F L∧c∈L.cos∧c.n=v.n∧v.k=4∧h.of v=some c.o∧∀ W,Bl w W→Calls Tryz.prog 221 #[.pointer (some ⟨hp,0,none⟩),v.agg] W fun e w'=>e=.returned (.pointer (some ⟨c.ob,0,none⟩))∧Bl W w':=by
 obtain ⟨L,r⟩:=r
 cases ho:h.of v with
 | none=>exact .inl ⟨rfl,fun W hb=>of_none W hp h F L (r.bl hb) v ho⟩
 | some o =>
  have hk:v.k=4:=by
   unfold Hp.of at ho
   by_cases hk:v.k=4
   ·exact hk
   ·rw [if_neg hk] at ho;cases ho
  have hg:get h.all v.n=some o:=by unfold Hp.of at ho;rwa [if_pos hk] at ho
  rcases r.find v.n with ⟨h1,-⟩ | ⟨c,hc,hn,h1,h2⟩
  ·rw [hg] at h1;cases h1
  ·rw [hg] at h1
   cases h1
   exact .inr ⟨L,c,r,hc,hn,hk,rfl,fun W hb=>of_some W hp h F L (r.bl hb) v c hk h2⟩
theorem ObAt.cells {w W:World} {c:CO} (h:ObAt w c) (hb:Bl w W):(W.cell? ⟨c.ob,0,none⟩=some (.int .i64 c.o.kind)∧W.cell? ⟨c.ob,1,none⟩=some (.string (bs c.o.name))∧W.cell? ⟨c.ob,2,none⟩=some (.int .i64 c.o.num) ∧
  W.cell? ⟨c.ob,3,none⟩=some c.it∧W.cell? ⟨c.ob,4,none⟩=some (.pointer (some ⟨c.db,0,none⟩)))∧c.ob < W.heap.size:=by
 have hlt:=(zN h.blk).1
 have e:=(hb.at hlt).trans h.blk
 exact ⟨⟨by rw [cell_of e];rfl,by rw [cell_of e];rfl,by rw [cell_of e];rfl,by rw [cell_of e];rfl,by rw [cell_of e];rfl⟩,Nat.lt_of_lt_of_le hlt hb.sz⟩
theorem kind_any (w:World) (hp:Nat) (h:Hp) (F:Foot) (r:HR w hp h F) (v:V) :
  Calls Tryz.prog 92 #[.pointer (some ⟨hp,0,none⟩),v.agg] w fun e w'=>e=.returned (.int .i64 (h.kind v))∧Bl w w':=by
 rcases r.case v with ⟨h0,co⟩ | ⟨L,c,r,hc,hn,hk,h1,co⟩
 ·have e1:h.kind v=0:=by unfold Hp.kind;rw [h0]
  rw [e1]
  clear e1 h0 r
  go_enter Tryz.func92,Tryz.ntmps92
  go_wp2_with fail
  refine (co _ (by (repeat (first | exact qA _ | assumption | refine qB ?_ _ | refine qC ?_ | refine qD ?_ _ | refine qE ?_ _ (by simp<;>omega) _)))).mono ?_
  rintro e W1 ⟨rfl,hb1⟩
  go_wp2
  go_ret
  exact ⟨rfl,(Bl.trans (by (repeat (first | exact qA _ | assumption | refine qB ?_ _ | refine qC ?_ | refine qD ?_ _ | refine qE ?_ _ (by simp<;>omega) _))) hb1)⟩
 ·have e1:h.kind v=c.o.kind:=by unfold Hp.kind;rw [h1]
  rw [e1]
  have HO:=zH (r.obs c hc)
  have HRR:=zH r
  have HC:=zH hc
  clear e1 h1 hn hk r hc
  go_enter Tryz.func92,Tryz.ntmps92
  go_wp2_with fail
  refine (co _ (by (repeat (first | exact qA _ | assumption | refine qB ?_ _ | refine qC ?_ | refine qD ?_ _ | refine qE ?_ _ (by simp<;>omega) _)))).mono ?_
  rintro e W1 ⟨rfl,hb1⟩
  obtain ⟨⟨c1,c2,c3,c4,c5⟩,c6⟩:=HO.out.cells (show Bl w W1 from Bl.trans (by (repeat (first | exact qA _ | assumption | refine qB ?_ _ | refine qC ?_ | refine qD ?_ _ | refine qE ?_ _ (by simp<;>omega) _))) hb1)
  go_wp2
  go_ret
  exact ⟨rfl,(Bl.trans (by (repeat (first | exact qA _ | assumption | refine qB ?_ _ | refine qC ?_ | refine qD ?_ _ | refine qE ?_ _ (by simp<;>omega) _))) hb1)⟩
theorem name_any (w:World) (hp:Nat) (h:Hp) (F:Foot) (r:HR w hp h F) (v:V) :
  Calls Tryz.prog 88 #[.pointer (some ⟨hp,0,none⟩),v.agg] w fun e w'=>e=.returned (.string (bs (h.name v)))∧Bl w w':=by
 rcases r.case v with ⟨h0,co⟩ | ⟨L,c,r,hc,hn,hk,h1,co⟩
 ·have e1:h.name v=[]:=by unfold Hp.name;rw [h0]
  rw [e1]
  clear e1 h0 r
  go_enter Tryz.func88,Tryz.ntmps88
  go_wp2_with fail
  refine (co _ (by (repeat (first | exact qA _ | assumption | refine qB ?_ _ | refine qC ?_ | refine qD ?_ _ | refine qE ?_ _ (by simp<;>omega) _)))).mono ?_
  rintro e W1 ⟨rfl,hb1⟩
  go_wp2
  go_ret
  exact ⟨rfl,(Bl.trans (by (repeat (first | exact qA _ | assumption | refine qB ?_ _ | refine qC ?_ | refine qD ?_ _ | refine qE ?_ _ (by simp<;>omega) _))) hb1)⟩
 ·have e1:h.name v=c.o.name:=by unfold Hp.name;rw [h1]
  rw [e1]
  have HO:=zH (r.obs c hc)
  have HRR:=zH r
  have HC:=zH hc
  clear e1 h1 hn hk r hc
  go_enter Tryz.func88,Tryz.ntmps88
  go_wp2_with fail
  refine (co _ (by (repeat (first | exact qA _ | assumption | refine qB ?_ _ | refine qC ?_ | refine qD ?_ _ | refine qE ?_ _ (by simp<;>omega) _)))).mono ?_
  rintro e W1 ⟨rfl,hb1⟩
  obtain ⟨⟨c1,c2,c3,c4,c5⟩,c6⟩:=HO.out.cells (show Bl w W1 from Bl.trans (by (repeat (first | exact qA _ | assumption | refine qB ?_ _ | refine qC ?_ | refine qD ?_ _ | refine qE ?_ _ (by simp<;>omega) _))) hb1)
  go_wp2
  go_ret
  exact ⟨rfl,(Bl.trans (by (repeat (first | exact qA _ | assumption | refine qB ?_ _ | refine qC ?_ | refine qD ?_ _ | refine qE ?_ _ (by simp<;>omega) _))) hb1)⟩
theorem len_any (w:World) (hp:Nat) (h:Hp) (F:Foot) (r:HR w hp h F) (v:V) :
  Calls Tryz.prog 279 #[.pointer (some ⟨hp,0,none⟩),v.agg] w fun e w'=>e=.returned (.int .i64 (h.len v))∧Bl w w':=by
 rcases r.case v with ⟨h0,co⟩ | ⟨L,c,r,hc,hn,hk,h1,co⟩
 ·have e1:h.len v=0:=by unfold Hp.len Hp.items;rw [h0];rfl
  rw [e1]
  clear e1 h0 r
  go_enter Tryz.func279,Tryz.ntmps279
  go_wp2_with fail
  refine (co _ (by (repeat (first | exact qA _ | assumption | refine qB ?_ _ | refine qC ?_ | refine qD ?_ _ | refine qE ?_ _ (by simp<;>omega) _)))).mono ?_
  rintro e W1 ⟨rfl,hb1⟩
  go_wp2
  go_ret
  exact ⟨rfl,(Bl.trans (by (repeat (first | exact qA _ | assumption | refine qB ?_ _ | refine qC ?_ | refine qD ?_ _ | refine qE ?_ _ (by simp<;>omega) _))) hb1)⟩
 ·have e1:h.len v=c.o.items.length:=by unfold Hp.len Hp.items;rw [h1]
  rw [e1]
  have HO:=zH (r.obs c hc)
  have HRR:=zH r
  have HC:=zH hc
  clear e1 h1 hn hk r hc
  go_enter Tryz.func279,Tryz.ntmps279
  go_wp2_with fail
  refine (co _ (by (repeat (first | exact qA _ | assumption | refine qB ?_ _ | refine qC ?_ | refine qD ?_ _ | refine qE ?_ _ (by simp<;>omega) _)))).mono ?_
  rintro e W1 ⟨rfl,hb1⟩
  obtain ⟨⟨c1,c2,c3,c4,c5⟩,c6⟩:=HO.out.cells (show Bl w W1 from Bl.trans (by (repeat (first | exact qA _ | assumption | refine qB ?_ _ | refine qC ?_ | refine qD ?_ _ | refine qE ?_ _ (by simp<;>omega) _))) hb1)
  obtain ⟨ia,ic,hit⟩:∃ a c',c.it=.slice a c.o.items.length c':=by
   obtain ⟨a,c',e,-⟩:=row_form HO.out.items
   exact ⟨a,c',e⟩
  rw [hit] at c4
  clear hit
  go_wp2
  go_ret
  exact ⟨rfl,(Bl.trans (by (repeat (first | exact qA _ | assumption | refine qB ?_ _ | refine qC ?_ | refine qD ?_ _ | refine qE ?_ _ (by simp<;>omega) _))) hb1)⟩
end
section
open Go.RowKit
theorem Fresh.base {w W w':World} {e:TypeId} {sz n:Nat} {xs:List Value} {en:Ending} (h:Fresh W e sz n xs en w') (hb:Bl w W):Fresh w e sz n xs en w':=by
 obtain ⟨x,h1,h2,h3⟩:=h
 exact ⟨x,h1,⟨h2.1,h2.2.elim .inl (fun ⟨g,cap,cur,e,h0,r⟩=>.inr ⟨g,cap,cur,e,Nat.le_trans hb.sz h0,r⟩)⟩,hb.trans h3⟩
theorem NewVs.nil {w w':World} (hb:Bl w w'):NewVs w [] (.returned (.slice none 0 0)) w':=⟨_,rfl,World.ownsRow_nil _ _ _ _,hb⟩
theorem NewVs.form {w w':World} {l:List V} {e:Ending} (h:NewVs w l e w'):∃ a n c,e=.returned (.slice a n c)∧NewVs w l (.returned (.slice a n c)) w'∧Bl w w':=by
 obtain ⟨x,rfl,ho,hb⟩:=h
 obtain ⟨a,c,rfl,-⟩:=row_form ho
 exact ⟨a,_,c,rfl,⟨_,rfl,ho,hb⟩,hb⟩
theorem keysH_any (w:World) (hp:Nat) (h:Hp) (F:Foot) (r:HR w hp h F) (v:V) :
  Calls Tryz.prog 233 #[.pointer (some ⟨hp,0,none⟩),v.agg] w (NewVs w (h.keys v)):=by
 rcases r.case v with ⟨h0,co⟩ | ⟨L,c,r,hc,hn,hk,h1,co⟩
 ·have e1:h.keys v=[]:=by unfold Hp.keys;rw [h0]
  rw [e1]
  clear e1 h0 r
  go_enter Tryz.func233,Tryz.ntmps233
  go_wp2_with fail
  refine (co _ (by (repeat (first | exact qA _ | assumption | refine qB ?_ _ | refine qC ?_ | refine qD ?_ _ | refine qE ?_ _ (by simp<;>omega) _)))).mono ?_
  rintro e W1 ⟨rfl,hb1⟩
  go_wp2
  go_ret
  exact NewVs.nil (Bl.trans (by (repeat (first | exact qA _ | assumption | refine qB ?_ _ | refine qC ?_ | refine qD ?_ _ | refine qE ?_ _ (by simp<;>omega) _))) hb1)
 ·have e1:h.keys v=c.o.d.map (·.1):=by unfold Hp.keys;rw [h1]
  rw [e1]
  have HO:=zH (r.obs c hc)
  clear e1 h1 hn hk r hc
  go_enter Tryz.func233,Tryz.ntmps233
  go_wp2_with fail
  refine (co _ (by (repeat (first | exact qA _ | assumption | refine qB ?_ _ | refine qC ?_ | refine qD ?_ _ | refine qE ?_ _ (by simp<;>omega) _)))).mono ?_
  rintro e W1 ⟨rfl,hb1⟩
  have hbw:Bl w W1:=Bl.trans (by (repeat (first | exact qA _ | assumption | refine qB ?_ _ | refine qC ?_ | refine qD ?_ _ | refine qE ?_ _ (by simp<;>omega) _))) hb1
  obtain ⟨⟨c1,c2,c3,c4,c5⟩,c6⟩:=HO.out.cells hbw
  have hd:=HO.out.dict.blm hbw
  go_wp2_with fail
  refine (dict_keys _ _ _ _ _ _ hd).mono ?_
  rintro e W2 hx
  obtain ⟨a,nn,cc,rfl,hx2,-⟩:=hx.form
  have HX:=zH (show NewVs w (c.o.d.map (·.1)) (.returned (.slice a nn cc)) W2 from Fresh.base hx2 hbw)
  clear hx hx2 hd hbw hb1
  go_wp2
  go_ret
  exact HX.out
theorem flat_len (l:List V):(l.flatMap V.cs).length=l.length * 3:=by
 induction l with
 | nil=>rfl
 | cons p t ih=>rw [List.flatMap_cons,List.length_append,ih,List.length_cons];simp;omega
theorem clone_any (w:World) (x:Value) (l:List V) (h:Vs w x l) (hn:l.length≤big):Calls Tryz.prog 292 #[x] w (NewVs w l):=by
 rcases h with ⟨rfl,rfl⟩ | ⟨b,o,c,rfl,hb,hc,hm,hcell⟩
 ·exact (clone_vals_nil w).mono fun e w' ⟨h1,h2⟩=>by subst h1;subst h2;exact NewVs.nil (Bl.refl _)
 ·exact clone_vals w b o l.length c (l.flatMap V.cs) (flat_len l) hcell (by
   intro u hu
   obtain ⟨p,-,hp⟩:=List.mem_flatMap.1 hu
   exact cs_one p u hp) hb (by unfold maxLen;unfold big at hn;omega) (by unfold big at hn;omega)
theorem Vs.of_own {w:World} {base:Nat} {x:Value} {l:List V} (h:w.ownsRow base 23 3 x l.length (l.flatMap V.cs)):Vs w x l:=by
 rcases h.2 with ⟨rfl,h0⟩ | ⟨g,cap,cur,rfl,h0,hg,hnc,hcm,hcs,htk⟩
 ·exact .inl ⟨rfl,List.eq_nil_of_length_eq_zero h0⟩
 ·refine .inr ⟨g,0,cap,rfl,(zN hg).1,hnc,hcm,fun j u hj=>?_⟩
  rw [Nat.zero_add,h.cellAt j (by rw [← flat_len];exact (List.getElem?_eq_some_iff.1 hj).1)]
  exact hj
theorem Vs.bl {w w':World} {x:Value} {l:List V} (h:Vs w x l) (hb:Bl w w'):Vs w' x l:=by
 rcases h with h | ⟨b,o,c,e,hlt,h1,h2,hc⟩
 ·exact .inl h
 ·exact .inr ⟨b,o,c,e,Nat.lt_of_lt_of_le hlt hb.sz,h1,h2,fun j u hj=>(World.cell?_of_block (w:=w) (a:=⟨b,o + j,none⟩) (hb.at hlt)).trans (hc j u hj)⟩
theorem NewVs.vs {w w':World} {l:List V} {x:Value} (h:NewVs w l (.returned x) w'):Vs w' x l:=by
 obtain ⟨y,hy,ho,-⟩:=h
 cases hy
 exact Vs.of_own ho
theorem items_any (w:World) (hp:Nat) (h:Hp) (F:Foot) (r:HR w hp h F) (v:V) :
  Calls Tryz.prog 142 #[.pointer (some ⟨hp,0,none⟩),v.agg] w (NewVs w (h.items v)):=by
 rcases r.case v with ⟨h0,co⟩ | ⟨L,c,r,hc,hn,hk,h1,co⟩
 ·have e1:h.items v=[]:=by unfold Hp.items;rw [h0]
  rw [e1]
  clear e1 h0 r
  go_enter Tryz.func142,Tryz.ntmps142
  go_wp2_with fail
  refine (co _ (by (repeat (first | exact qA _ | assumption | refine qB ?_ _ | refine qC ?_ | refine qD ?_ _ | refine qE ?_ _ (by simp<;>omega) _)))).mono ?_
  rintro e W1 ⟨rfl,hb1⟩
  go_wp2
  go_ret
  exact NewVs.nil (Bl.trans (by (repeat (first | exact qA _ | assumption | refine qB ?_ _ | refine qC ?_ | refine qD ?_ _ | refine qE ?_ _ (by simp<;>omega) _))) hb1)
 ·have e1:h.items v=c.o.items:=by unfold Hp.items;rw [h1]
  rw [e1]
  have HO:=zH (r.obs c hc)
  clear e1 h1 hn hk r hc
  go_enter Tryz.func142,Tryz.ntmps142
  go_wp2_with fail
  refine (co _ (by (repeat (first | exact qA _ | assumption | refine qB ?_ _ | refine qC ?_ | refine qD ?_ _ | refine qE ?_ _ (by simp<;>omega) _)))).mono ?_
  rintro e W1 ⟨rfl,hb1⟩
  have hbw:Bl w W1:=Bl.trans (by (repeat (first | exact qA _ | assumption | refine qB ?_ _ | refine qC ?_ | refine qD ?_ _ | refine qE ?_ _ (by simp<;>omega) _))) hb1
  obtain ⟨⟨c1,c2,c3,c4,c5⟩,c6⟩:=HO.out.cells hbw
  have hvs:=(Vs.of_own HO.out.items).bl hbw
  have hfew:=HO.out.few
  go_wp2_with fail
  refine (clone_any _ _ _ hvs hfew).mono ?_
  rintro e W2 hx
  obtain ⟨a,nn,cc,rfl,hx2,-⟩:=hx.form
  have HX:=zH (show NewVs w c.o.items (.returned (.slice a nn cc)) W2 from Fresh.base hx2 hbw)
  clear hx hx2 hvs hbw hb1
  go_wp2
  go_ret
  exact HX.out
theorem getH_any (w:World) (hp:Nat) (h:Hp) (F:Foot) (r:HR w hp h F) (v k:V) :
  Calls Tryz.prog 89 #[.pointer (some ⟨hp,0,none⟩),v.agg,k.agg] w fun e w'=>e=.returned (.tuple #[(h.get v k).1.agg,.bool (h.get v k).2])∧Bl w w':=by
 rcases r.case v with ⟨h0,co⟩ | ⟨L,c,r,hc,hn,hk,h1,co⟩
 ·have e1:h.get v k=(V.nil,false):=by unfold Hp.get;rw [h0]
  rw [e1]
  clear e1 h0 r
  go_enter Tryz.func89,Tryz.ntmps89
  go_wp2_with fail
  refine (co _ (by (repeat (first | exact qA _ | assumption | refine qB ?_ _ | refine qC ?_ | refine qD ?_ _ | refine qE ?_ _ (by simp<;>omega) _)))).mono ?_
  rintro e W1 ⟨rfl,hb1⟩
  obtain ⟨hc1,hf1⟩:=bcell hb1
  have hz:=hb1.sz
  simp only [zL] at hz
  go_wp2
  refine bodyPost_ret (v:=.tuple #[V.nil.agg,.bool false]) ?_ rfl ⟨rfl,?_⟩
  ·simp [results,Tryz.results89,go_sem,hc1]
  ·have hbw:Bl w W1:=Bl.trans (by (repeat (first | exact qA _ | assumption | refine qB ?_ _ | refine qC ?_ | refine qD ?_ _ | refine qE ?_ _ (by simp<;>omega) _))) hb1
   (repeat (first | exact qA _ | assumption | refine qB ?_ _ | refine qC ?_ | refine qD ?_ _ | refine qE ?_ _ (by simp<;>omega) _))
 ·have e1:h.get v k=((W.get c.o.d k).getD V.nil,(W.get c.o.d k).isSome):=by unfold Hp.get;rw [h1]
  rw [e1]
  have HO:=zH (r.obs c hc)
  have cd:∀ W',Bl w W'→Calls Tryz.prog 222 #[.pointer (some ⟨c.db,0,none⟩),k.agg] W' fun e w'=>e=.returned (.tuple #[((W.get c.o.d k).getD V.nil).agg,.bool (W.get c.o.d k).isSome])∧Bl W' w':=fun W' hb=>dget_any W' _ _ _ _ _ (HO.out.dict.blm hb) k
  generalize (W.get c.o.d k).getD V.nil=x at cd ⊢
  generalize (W.get c.o.d k).isSome=g at cd ⊢
  clear e1 h1 hn hk r hc
  go_enter Tryz.func89,Tryz.ntmps89
  go_wp2_with fail
  refine (co _ (by (repeat (first | exact qA _ | assumption | refine qB ?_ _ | refine qC ?_ | refine qD ?_ _ | refine qE ?_ _ (by simp<;>omega) _)))).mono ?_
  rintro e W1 ⟨rfl,hb1⟩
  obtain ⟨hc1,hf1⟩:=bcell hb1
  have hz:=hb1.sz
  simp only [zL] at hz
  have hbw:Bl w W1:=Bl.trans (by (repeat (first | exact qA _ | assumption | refine qB ?_ _ | refine qC ?_ | refine qD ?_ _ | refine qE ?_ _ (by simp<;>omega) _))) hb1
  obtain ⟨⟨c1,c2,c3,c4,c5⟩,c6⟩:=HO.out.cells hbw
  have hlt3:w.heap.size + 1 + 1 < W1.heap.size:=by omega
  have k0:W1.cell? ⟨w.heap.size + 1,0,none⟩=some (.int .i64 k.k):=(hc1 (w.heap.size + 1) 0 (by simp)).trans (by go_simp)
  have k1:W1.cell? ⟨w.heap.size + 1,1,none⟩=some (.int .i64 k.n):=(hc1 (w.heap.size + 1) 1 (by simp)).trans (by go_simp)
  have k2:W1.cell? ⟨w.heap.size + 1,2,none⟩=some (.string (bs k.s)):=(hc1 (w.heap.size + 1) 2 (by simp)).trans (by go_simp)
  have x0:W1.cell? ⟨w.heap.size + 1 + 1,0,none⟩=some (.int .i64 0):=(hc1 (w.heap.size + 1 + 1) 0 (by simp)).trans (by go_simp)
  have x1:W1.cell? ⟨w.heap.size + 1 + 1,1,none⟩=some (.int .i64 0):=(hc1 (w.heap.size + 1 + 1) 1 (by simp)).trans (by go_simp)
  have x2:W1.cell? ⟨w.heap.size + 1 + 1,2,none⟩=some (.string ⟨#[]⟩):=(hc1 (w.heap.size + 1 + 1) 2 (by simp)).trans (by go_simp)
  have xf:∀ o,W1.frozen? ⟨w.heap.size + 1 + 1,o,none⟩=false:=fun o=>(hf1 (w.heap.size + 1 + 1) o (by simp)).trans (by go_simp)
  clear hc1 hf1
  have HB1:=zH hb1
  clear hb1 co
  go_wp2
  go_region_with (go_at_call 222;refine (cd _ (by (repeat (first | exact qA _ | assumption | refine qB ?_ _ | refine qC ?_ | refine qD ?_ _ | refine qE ?_ _ (by simp<;>omega) _)))).mono ?_;rintro e W2 ⟨rfl,hb2⟩;obtain ⟨hc2,hf2⟩:=bcell hb2;have s0:W2.cell? ⟨w.heap.size + 1 + 1,0,none⟩=some (.int .i64 0):=(hc2 _ 0 hlt3).trans x0;have s1:W2.cell? ⟨w.heap.size + 1 + 1,1,none⟩=some (.int .i64 0):=(hc2 _ 1 hlt3).trans x1;have s2:W2.cell? ⟨w.heap.size + 1 + 1,2,none⟩=some (.string ⟨#[]⟩):=(hc2 _ 2 hlt3).trans x2;have sf:∀ o,W2.frozen? ⟨w.heap.size + 1 + 1,o,none⟩=false:=(fun o=>(hf2 _ o hlt3).trans (xf o));have HB2:=zH hb2;clear hc2 hf2 hb2)
  all_goals
   go_wp2
   refine bodyPost_ret (v:=.tuple #[x.agg,.bool g]) (by simp [results,Tryz.results89,go_sem,s0,s1,s2]) rfl ⟨rfl,?_⟩
   have hw2:Bl w W2:=Bl.trans (by (repeat (first | exact qA _ | assumption | refine qB ?_ _ | refine qC ?_ | refine qD ?_ _ | refine qE ?_ _ (by simp<;>omega) _))) HB2.out
   (repeat (first | exact qA _ | assumption | refine qB ?_ _ | refine qC ?_ | refine qD ?_ _ | refine qE ?_ _ (by simp<;>omega) _))
end
end Go.Proofs.YtbbokgpklihkoaaGreatDoor.W
