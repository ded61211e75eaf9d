/- Sw8 Sw9 SwA SwB SwC SwR Rm -/
import Derived.Test.YtbbokgpklihkoaaGreatDoorPart20
import Derived.Laws.MakeOwn
import Derived.Test.YtbbokgpklihkoaaGreatDoorPart17
import Derived.Test.YtbbokgpklihkoaaGreatDoorPart10
import Derived.Test.YtbbokgpklihkoaaGreatDoorPart14
import Derived.Test.YtbbokgpklihkoaaGreatDoorPart13
set_option linter.unusedVariables false
set_option linter.unusedSimpArgs false
namespace Go.Proofs.YtbbokgpklihkoaaGreatDoor.W
section
open Go Go.RowKit
def rb (p:Sp):Nat:=(p.1.getD ⟨0,0,none⟩).block
def ro (p:Sp):Nat:=(p.1.getD ⟨0,0,none⟩).off
abbrev nCs (n:Int):List Value:=[.int .i64 n]
abbrev eptr (p:Sp) (i sz:Nat):Value:=.pointer (some ⟨rb p,ro p + i * sz,none⟩)
section
variable {F:Fence} {n:Nat} {P:Program} {ops:Array Oper} {Q:Exit→Go.Act→World→Prop} {md:Region.Mode} {B:World→Prop} {o:Oper} {a:Go.Act} {v:Value}
variable {R R':Res} {w0:World} {F0:Foot} {O L:List Item} {X:List Fact} {k i:Nat} {T T':List Nat} {listed:Array Bool} {rest:List Oper} {W W':World} {G:Foot}
theorem Vs.addr {w:World} {p:Sp} {l:List V} (hv:Vs w (sl p l) l) {i:Nat} (hi:i < l.length):p.1=some ⟨rb p,ro p,none⟩∧∀ j u,(l.flatMap V.cs)[j]?=some u→w.cell? ⟨rb p,ro p + j,none⟩=some u:=by
 obtain ⟨pa,pc⟩:=p
 rcases hv with ⟨e,hn⟩ | ⟨b,o,c,e,hb,q1,q2,q3⟩
 ·subst hn;exact absurd hi (by simp)
 ·injection e with h1 h2 h3
  simp only at h1
  subst h1
  exact ⟨rfl,q3⟩
theorem load_cell {ty:TypeId} {d:TypeDesc} (hu:P.underlying ty=some d) (hd:(match d with | .struct _ | .array _ _=>true | _=>false)=false) {w:World} {ad:Addr} {u:Value} (hc:w.cell? ad=some u):(Instr.loadAt ty (.pointer (some ad))).run P w=.ok u w:=by
 simp [Instr.loadAt,Instr.sureAddr,loadVar,run_isAgg_plain hu hd,hc]
theorem load_cells {ty:TypeId} {d:TypeDesc} (hu:P.underlying ty=some d) (hd:(match d with | .struct _ | .array _ _=>true | _=>false)=true) {w:World} {b off:Nat} {cs:List Value} (hi:(P.info? ty).map (·.size)=some cs.length) (hc:∀ j u,cs[j]?=some u→w.cell? ⟨b,off + j,none⟩=some u) :
  (Instr.loadAt ty (.pointer (some ⟨b,off,none⟩))).run P w=.ok (.agg cs.toArray) w:=by
 have h1:(loadCells ⟨b,off,none⟩ cs.length).run P w=.ok cs.toArray w :=
  run_loadCells_list (P:=P) w ⟨b,off,none⟩ cs (fun j v hv=>by
   have hadd:(⟨b,off,none⟩:Addr).add j=⟨b,off + j,none⟩:=by unfold Addr.add;split<;>simp_all
   rw [hadd];exact hc j v hv)
 cases hq:P.info? ty with
 | none=>simp [hq] at hi
 | some i =>
  have hs:i.size=cs.length:=by simpa [hq] using hi
  have hagg:(isAgg ty).run P w=.ok true w:=by
   unfold isAgg
   rw [Sem.run_bind,run_underlying hu w]
   cases d<;>simp_all
  simp [Instr.loadAt,Instr.sureAddr,loadVar,Sem.run_bind,hagg,sizeOf,typeInfo,hq,hs,h1]
theorem Vs.elem {w:World} {p:Sp} {l:List V} (hv:Vs w (sl p l) l) {i:Nat} (hi:i < l.length):w.cell? ⟨rb p,ro p + i * 3,none⟩=some (.int .i64 (l.getD i V.nil).k)∧w.cell? ⟨rb p,ro p + i * 3 + 1,none⟩=some (.int .i64 (l.getD i V.nil).n)∧w.cell? ⟨rb p,ro p + i * 3 + 2,none⟩=some (.string (bs (l.getD i V.nil).s)):=by
 obtain ⟨-,h⟩:=hv.addr hi
 obtain ⟨v,hvi⟩:∃ v,l[i]?=some v:=⟨l[i],List.getElem?_eq_getElem hi⟩
 have hg:l.getD i V.nil=v:=by rw [List.getD_eq_getElem?_getD,hvi];rfl
 obtain ⟨e0,e1,e2⟩:=flat_get hvi
 rw [Nat.mul_comm 3 i] at e0 e1 e2
 rw [hg]
 exact ⟨h _ _ e0,h _ _ e1,h _ _ e2⟩
theorem Vs.loadV {ty:TypeId} {d:TypeDesc} (hu:P.underlying ty=some d) (hd:(match d with | .struct _ | .array _ _=>true | _=>false)=true) (hz:(P.info? ty).map (·.size)=some 3) {w:World} {p:Sp} {l:List V} (hv:Vs w (sl p l) l) {i:Nat} (hi:i < l.length) :
  (Instr.loadAt ty (eptr p i 3)).run P w=.ok (V.agg (l.getD i V.nil)) w:=by
 obtain ⟨h0,h1,h2⟩:=hv.elem hi
 exact load_cells (cs:=V.cs (l.getD i V.nil)) hu hd hz fun j u hj=>by
  match j,hj with
  | 0,hj=>cases hj;exact h0
  | 1,hj=>cases hj;exact h1
  | 2,hj=>cases hj;exact h2
  | j + 3,hj=>simp [V.cs] at hj
theorem YB.index (ty e:TypeId) (x ix:Operand) (sz:Nat) (hop:o.op=.indexAddr ty x ix) (hw:Region.wanted o (yielded ops a.tmps)=true) {p:Sp} {m i:Nat} (hx:a.eval x=.slice p.1 m p.2) (hi:a.eval ix=.int .i64 (i:Int)) (him:i < m) (ht:P.underlying ty=some (.slice e)) (hz:(P.info? e).map (·.size)=some sz)
  (h:∀ w,B w→p.1=some ⟨rb p,ro p,none⟩):YB F n P ops B o (eptr p i sz) a :=
 YB.run (by rw [hop];nofun) (by rw [hop];nofun) hw fun w hB=>by
  unfold execOp;rw [hop]
  simp only [hx,hi,h w hB]
  cases hq:P.info? e with
  | none=>simp [hq] at hz
  | some inf =>
   have hs:inf.size=sz:=by simpa [hq] using hz
   have h2:(0:Int)≤(i:Int)∧(i:Int) < (m:Int):=by omega
   simp [Instr.indexAt,asIntOf,run_underlying ht,sizeOf,typeInfo,hq,hs,Addr.add,him]
theorem srcBox {α:Type} {enc:α→List Value} {l2:List α} {w:World} {b:Nat} {arr:Array Value} {t:TypeId} {fr:Nat × Nat} (hb:w.heap[b]?=some (.cells arr t fr)) (ha:arr.toList=l2.flatMap enc):∀ q u,(l2.flatMap enc)[q]?=some u→w.cell? ((⟨b,0,none⟩:Addr).add q)=some u:=fun q u h=>by
 have hadd:(⟨b,0,none⟩:Addr).add q=⟨b,q,none⟩:=by unfold Addr.add;split<;>simp_all
 rw [hadd,cell_of hb,← Array.getElem?_toList,ha];exact h
theorem wpS.append {α:Type} {enc:α→List Value} {t e:TypeId} {z:Value} {sz bytes:Nat} (hF:FWide F) (hR:ROk w0 R) (s x:Operand) (hi:ops[i]?=some o) (hr:Region.ready md ops listed=[i]) (hg:Good B T (SW R w0 F0 O L X)) (hT:(T.filter fun t=>!waits md ops i t)=T') (hw:Region.wanted o (yielded ops a.tmps)=true)
  (hop:o.op=.call { callee:=.builtin .append,args:=#[s,x],argTypes:=#[t,t] }) (ht:P.underlying t=some (.slice e)) (hinf:(P.info? e).map (fun i=>(i.zero,i.size,i.bytes))=some (some z,sz,bytes)) (hzs:z.cells.size=sz) (hsz:0 < sz) (hby:bytes≤1000)
  (henc:∀ x,(enc x).length=sz) (h1:∀ x,∀ u∈enc x,u.oneCell'=true) {xv:Value} {l:List α} (j:Nat) (hj:X[j]?=some (rowF enc e sz xv l)) {ad:Addr} {m c:Nat} (l2:List α) (hm:l2.length=m) (hs:a.eval s=xv) (hx:a.eval x=.slice (some ad) m c)
  (hsrc:∀ w,SW R w0 F0 O L X w→∀ q u,(l2.flatMap enc)[q]?=some u→w.cell? (ad.add q)=some u) (hfew:l.length + m≤8388608)
  (h:∀ p:Sp,wpS F n P md ops Q B k T' (listed.setIfInBounds i true) (a.put o.dst (slN p (l++l2).length)) (SW R w0 F0 O L (X.set j (rowF enc e sz (slN p (l++l2).length) (l++l2))))):wpS F n P md ops Q B (k + 1) T listed a (SW R w0 F0 O L X) :=
 wpS.one hi hr hg hT hw fun w hS=>by
  obtain ⟨i0,h0,hz0,hz1,hz2⟩:=info_parts hinf
  obtain ⟨p,w',hrun,hS'⟩:=SW.append (P:=P) (ty:=o.type) (c:=c) hR ht h0 hz0 hz1 hz2 hzs hsz henc h1 j hj ad m l2 hm hS (hsrc w hS) (by simp [maxLen];omega) (Nat.le_trans (Nat.mul_le_mul hfew hby) (by decide))
  exact wpIn_append hF s x t hop hs hx hrun ⟨_,hS',h p⟩
theorem wpL.append {α:Type} {enc:α→List Value} {t e:TypeId} {z:Value} {sz bytes:Nat} (hF:FWide F) (hR:ROk w0 R) (s x:Operand) (hw:Region.wanted o (yielded ops a.tmps)=true)
  (hop:o.op=.call { callee:=.builtin .append,args:=#[s,x],argTypes:=#[t,t] }) (ht:P.underlying t=some (.slice e)) (hinf:(P.info? e).map (fun i=>(i.zero,i.size,i.bytes))=some (some z,sz,bytes)) (hzs:z.cells.size=sz) (hsz:0 < sz) (hby:bytes≤1000)
  (henc:∀ x,(enc x).length=sz) (h1:∀ x,∀ u∈enc x,u.oneCell'=true) {xv:Value} {l:List α} (j:Nat) (hj:X[j]?=some (rowF enc e sz xv l)) {ad:Addr} {m c:Nat} (l2:List α) (hm:l2.length=m) (hs:a.eval s=xv) (hx:a.eval x=.slice (some ad) m c)
  (hsrc:∀ w,SW R w0 F0 O L X w→∀ q u,(l2.flatMap enc)[q]?=some u→w.cell? (ad.add q)=some u) (hfew:l.length + m≤8388608)
  (h:∀ p:Sp,∀ w,SW R w0 F0 O L (X.set j (rowF enc e sz (slN p (l++l2).length) (l++l2))) w→wpListIn F n P ops Q rest (a.put o.dst (slN p (l++l2).length)) w):∀ w,SW R w0 F0 O L X w→wpListIn F n P ops Q (o :: rest) a w :=
 wpL.one hw fun w hS=>by
  obtain ⟨i0,h0,hz0,hz1,hz2⟩:=info_parts hinf
  obtain ⟨p,w',hrun,hS'⟩:=SW.append (P:=P) (ty:=o.type) (c:=c) hR ht h0 hz0 hz1 hz2 hzs hsz henc h1 j hj ad m l2 hm hS (hsrc w hS) (by simp [maxLen];omega) (Nat.le_trans (Nat.mul_le_mul hfew hby) (by decide))
  exact wpIn_append hF s x t hop hs hx hrun ⟨_,hS',h p⟩
theorem SW.make {α:Type} (enc:α→List Value) (e:TypeId) (sz:Nat) (hR:ROk w0 R) (h:SW R w0 F0 O L X W) {arr:Array Value} {m:Nat} (ha:arr.size=m * sz) (hm:m≤maxLen):SW R w0 F0 O L (rowF enc e sz (.slice (some ⟨W.heap.size,0,none⟩) 0 m) [] :: X) (W.alloc (.cells arr e)):=by
 obtain ⟨⟨G,hG⟩,hn⟩:=h
 have hb:=hG.bl hR (Bl.al W (.cells arr e))
 obtain ⟨h1,h2⟩:=hb.learn (Wa:=W) hn (rowF enc e sz (.slice (some ⟨W.heap.size,0,none⟩) 0 m) []) ⟨by simp,.inr ⟨_,m,arr,rfl,Nat.zero_le _,World.alloc_heap_new W _,Nat.zero_le _,hm,ha,by simp⟩⟩ hG.st.size (fun b hbb=>by
  simp [rowF,obBl,Value.ownBlock] at hbb;subst hbb
  exact ⟨Nat.le_refl _,by simp,fun hF=>Nat.lt_irrefl _ (hG.st.lt _ hF)⟩) hG.ownLt fun y hy _=>hG.factLt y hy
 exact ⟨⟨G,h1⟩,h2⟩
theorem wpL.make {α:Type} (enc:α→List Value) {t e:TypeId} {z:Value} {sz bytes:Nat} (hR:ROk w0 R) (x:Operand) (l0:Operand) (hw:Region.wanted o (yielded ops a.tmps)=true) (hop:o.op=.makeSlice t l0 x) (ht:P.underlying t=some (.slice e))
  (hinf:(P.info? e).map (fun i=>(i.zero,i.size,i.bytes))=some (some z,sz,bytes)) (hzs:z.cells.size=sz) (hby:bytes≤1000) {m:Nat} (hl:a.eval l0=.int .i64 0) (hx:a.eval x=.int .i64 (m:Int)) (hm:m≤8388608)
  (h:∀ b:Nat,∀ w,SW R w0 F0 O L (rowF enc e sz (.slice (some ⟨b,0,none⟩) 0 m) [] :: X) w→wpListIn F n P ops Q rest (a.put o.dst (.slice (some ⟨b,0,none⟩) 0 m)) w):∀ w,SW R w0 F0 O L X w→wpListIn F n P ops Q (o :: rest) a w :=
 wpL.one hw fun w hS=>by
  obtain ⟨i0,h0,hz0,hz1,hz2⟩:=info_parts hinf
  subst hz1;subst hz2
  have hrun:(execOp a.eval o).run P w=.ok (.value (.slice (some ⟨w.heap.size,0,none⟩) 0 m)) (w.alloc (.cells (madeCells z.cells (m * i0.size)) e)):=by
   unfold execOp;rw [hop]
   have:=run_make (P:=P) (w:=w) t e i0 z ht h0 hz0 .i64 .i64 0 (m:Int) (by omega) (by omega) (by have:=Nat.mul_le_mul hby hm;omega) (by omega)
   simp only [hl,hx,Sem.run_bind,this,Result.andThen_ok,Sem.run_pure]
   simp
  exact wpIn_put (by rw [hop];nofun) (by rw [hop];nofun) hrun ⟨_,hS.make enc e i0.size hR (by rw [← hzs];simp [madeCells]) (by simp [maxLen];omega),h w.heap.size⟩
end
end
section
open Go Go.RowKit
def NewR {α:Type} (enc:α→List Value) (e:TypeId) (sz:Nat) (w:World) (l:List α) (en:Ending) (w':World):Prop:=∃ p:Sp,en=.returned (slN p l.length)∧w'.ownsRow w.heap.size e sz (slN p l.length) l.length (l.flatMap enc)∧Bl w w'
section
variable {F:Fence} {n:Nat} {P:Program} {ops:Array Oper} {Q:Exit→Go.Act→World→Prop} {md:Region.Mode} {B:World→Prop} {o:Oper} {a:Go.Act} {v:Value}
variable {R R':Res} {w0:World} {F0:Foot} {O L:List Item} {X:List Fact} {W W':World} {G:Foot}
theorem SW.dropL (h:SW R w0 F0 O L X W) (n:Nat):SW R w0 F0 O (L.drop n) X W:=by
 obtain ⟨⟨G,hG⟩,hn⟩:=h
 exact ⟨⟨G,hG.res,hG.st,hG.out,fun p hp=>hG.own p (List.mem_of_mem_drop hp),hG.fact⟩,hn.1.drop,fun x hx b hb q hq=>hn.2.1 x hx b hb q (List.mem_of_mem_drop hq),hn.2.2⟩
theorem SW.dropX (h:SW R w0 F0 O L X W) (n:Nat):SW R w0 F0 O L (X.drop n) W:=by
 obtain ⟨⟨G,hG⟩,hn⟩:=h
 exact ⟨⟨G,hG.res,hG.st,hG.out,hG.own,fun x hx=>hG.fact x (List.mem_of_mem_drop hx)⟩,hn.1,fun x hx=>hn.2.1 x (List.mem_of_mem_drop hx),hn.2.2.drop⟩
theorem SWF.own_ {α:Type} {enc:α→List Value} {e:TypeId} {sz:Nat} {x:Value} {l:List α} (h:SWF R w0 F0 O L X W G) (k:Nat) (hk:X[k]?=some (rowF enc e sz x l)):W.ownsRow w0.heap.size e sz x l.length (l.flatMap enc):=by
 have hf:=h.fact _ (List.mem_of_getElem? hk)
 obtain ⟨h1,h2⟩:=hf.1
 refine ⟨h1,h2.elim .inl fun ⟨g,cap,cur,e1,h0,r⟩=>.inr ⟨g,cap,cur,e1,?_,r⟩⟩
 exact (hf.2 g (by simp [rowF,obBl,e1,Value.ownBlock])).2.2 rfl
theorem SW.handR {α:Type} {enc:α→List Value} {e:TypeId} {sz:Nat} {p:Sp} {l:List α} (h:SW R w0 noF O L X W) (k:Nat) (hk:X[k]?=some (rowF enc e sz (slN p l.length) l)):NewR enc e sz w0 l (.returned (slN p l.length)) W :=
 ⟨p,rfl,h.sb.elim fun G hG=>hG.own_ k hk,h.finBl⟩
theorem newRowR {α:Type} {enc:α→List Value} {e:TypeId} {sz:Nat} {f:FuncId} {args:Array Value} {w:World} {l:List α} (hR:ROk w0 R) (hS:SW R w0 F0 O L X w) (c:Calls P f args w (NewR enc e sz w l)) :
  Calls P f args w fun en w'=>∃ x:Sp,en=.returned (slN x l.length)∧SW R w0 F0 O L (rowF enc e sz (slN x l.length) l :: X) w':=by
 obtain ⟨⟨G,hG⟩,hn⟩:=hS
 refine c.mono fun en w' ⟨p,he,ho,hb⟩=>⟨p,he,?_⟩
 obtain ⟨-,-,hlt⟩:=own_form ho
 have ho0:w'.ownsRow 0 e sz (slN p l.length) l.length (l.flatMap enc):=⟨ho.1,ho.2.elim .inl fun ⟨g,cap,cur,e1,h0,r⟩=>.inr ⟨g,cap,cur,e1,Nat.zero_le _,r⟩⟩
 obtain ⟨h3,h4⟩:=(hG.bl hR hb).learn hn (rowF enc e sz (slN p l.length) l) ho0 hG.st.size (fun b hbb=>by
  refine ⟨?_,hlt b hbb,fun hF=>?_⟩
  all_goals
   rcases ho.2 with ⟨e1,-⟩ | ⟨g,cap,cur,e1,h0,-⟩
   ·simp [rowF,obBl,e1,Value.ownBlock] at hbb
   ·simp [rowF,obBl,e1,Value.ownBlock] at hbb
    subst hbb
    first | exact h0 | (have:=hG.st.lt _ hF;omega)) hG.ownLt fun y hy _=>hG.factLt y hy
 exact ⟨⟨G,h3⟩,h4⟩
theorem YB.bin_addN (t t2:TypeId) (xo yo:Operand) (hop:o.op=.binOp .add t xo yo t2) (hw:Region.wanted o (yielded ops a.tmps)=true) {i:Nat} (hx:a.eval xo=.int .i64 (i:Int)) (hy:a.eval yo=.int .i64 1) (hi:i < 9223372036854775807):YB F n P ops B o (.int .i64 ((i + 1:Nat):Int)) a:=by
 have e:wrap64 ((i:Int) + 1)=((i + 1:Nat):Int):=by unfold wrap64;omega
 rw [← e]
 exact YB.bin_add t t2 xo yo hop hw hx hy
theorem YB.lenRow (hF:FWide F) (x:Operand) {ty e:TypeId} (hu:P.underlying ty=some (.slice e)) (hop:o.op=.call { callee:=.builtin .len,args:=#[x],argTypes:=#[ty] }) (hw:Region.wanted o (yielded ops a.tmps)=true) {ad:Option Addr} {m c:Nat} (hx:a.eval x=.slice ad m c):YB F n P ops B o (.int .i64 (m:Int)) a:=by
 refine .inl ⟨hw,fun w hB=>⟨fun f _=>hF.fn f,?_⟩⟩
 have hr:(o.semAt F.round a.eval).run P w=.ok (.value (.int .i64 (m:Int))) w:=by
  rw [Oper.semAt_eq _ _ _ (by rw [hop];nofun)]
  unfold execOp
  rw [hop]
  simp [resolve,invoke,builtin,hx,Builtin.len_,Builtin.lenOf,goInt,run_underlying hu]
 rw [hr]
 exact ⟨rfl,Bl.refl w⟩
end
end
section
open Go Go.RowKit
abbrev pCs (q:Sp × List Int):List Value:=[slN q.1 q.2.length]
abbrev ownN (w:World) (q:Sp × List Int):Prop:=w.ownsRow 0 2 1 (slN q.1 q.2.length) q.2.length (q.2.flatMap nCs)
def insF (ps:List (Sp × List Int)):Fact:=⟨ps.flatMap (fun q=>obBl (slN q.1 q.2.length)),true,false,fun w=>∀ q∈ps,ownN w q,fun w w' h hs hk q hq=>(rowF nCs 2 1 (slN q.1 q.2.length) q.2).ok w w' (h q hq) hs fun b hb=>hk b (List.mem_flatMap.2 ⟨q,hq,show b∈obBl (slN q.1 q.2.length) from hb⟩)⟩
section
variable {R:Res} {w0:World} {F0:Foot} {O L:List Item} {X:List Fact} {W:World} {G:Foot}
theorem SW.nilIns (h:SW R w0 F0 O L X W):SW R w0 F0 O L (insF [] :: X) W:=by
 obtain ⟨⟨G,hG⟩,hn⟩:=h
 obtain ⟨h1,h2⟩:=hG.learn (Wa:=W) hn (insF []) (fun q hq=>by cases hq) hG.st.size (fun b hb=>by simp [insF] at hb) hG.ownLt fun y hy _=>hG.factLt y hy
 exact ⟨⟨G,h1⟩,h2⟩
theorem SW.joinIns {p:Sp} {l:List Int} {ps:List (Sp × List Int)} (h:SW R w0 F0 O L (rowF nCs 2 1 (slN p l.length) l :: X) W) (j:Nat) (hj:X[j]?=some (insF ps)):SW R w0 F0 O L (X.set j (insF (ps++[(p,l)]))) W:=by
 obtain ⟨⟨G,hG⟩,hn⟩:=h
 have hjl:j < X.length:=(List.getElem?_eq_some_iff.1 hj).1
 have he:X[j]=insF ps:=(List.getElem?_eq_some_iff.1 hj).2
 have hxm:=List.mem_of_getElem? hj
 have f1:=hG.fact _ List.mem_cons_self
 have f2:=hG.fact _ (List.mem_cons_of_mem _ hxm)
 have hbl:∀ b∈(insF (ps++[(p,l)])).bl,b∈(insF ps).bl∨b∈(rowF nCs 2 1 (slN p l.length) l).bl:=fun b hb=>by
  simp only [insF,List.flatMap_append,List.mem_append] at hb
  rcases hb with hb | hb
  ·exact .inl hb
  ·exact .inr (show b∈obBl (slN p l.length) by simpa using hb)
 have hmem:∀ z∈X.set j (insF (ps++[(p,l)])),z=insF (ps++[(p,l)])∨z∈X:=fun z hz=>by
  obtain ⟨i,hi,rfl⟩:=List.getElem_of_mem hz
  rw [List.length_set] at hi
  rw [List.getElem_set]
  by_cases hij:j=i
  ·rw [if_pos hij];exact .inl rfl
  ·rw [if_neg hij];exact .inr (List.getElem_mem hi)
 refine ⟨⟨G,hG.res,hG.st,hG.out,hG.own,fun z hz=>?_⟩,hn.1,fun z hz b hb q hq=>?_,?_⟩
 ·rcases hmem z hz with rfl | hz
  ·refine ⟨fun q hq=>?_,fun b hb=>?_⟩
   ·rcases List.mem_append.1 hq with hq | hq
    ·exact f2.1 q hq
    ·simp at hq;subst hq;exact f1.1
   ·rcases hbl b hb with hb | hb
    ·exact ⟨(f2.2 b hb).1,(f2.2 b hb).2.1,fun _=>(f2.2 b hb).2.2 rfl⟩
    ·exact ⟨(f1.2 b hb).1,(f1.2 b hb).2.1,fun _=>(f1.2 b hb).2.2 rfl⟩
  ·exact hG.fact z (List.mem_cons_of_mem _ hz)
 ·rcases hmem z hz with rfl | hz
  ·rcases hbl b hb with hb | hb
   ·exact hn.2.1 _ (List.mem_cons_of_mem _ hxm) b hb q hq
   ·exact hn.2.1 _ List.mem_cons_self b hb q hq
  ·exact hn.2.1 z (List.mem_cons_of_mem _ hz) b hb q hq
 ·have h1:=List.pairwise_cons.1 hn.2.2
  have hp:=List.pairwise_iff_getElem.1 h1.2
  refine List.pairwise_iff_getElem.2 fun i k hi hkk hik hm b hb=>?_
  rw [List.length_set] at hi hkk
  rw [List.getElem_set] at hm hb
  rw [List.getElem_set] at hm ⊢
  by_cases e1:j=i
  ·subst e1
   rw [if_pos rfl] at hb hm
   rw [if_neg (by omega)] at hm ⊢
   have hm2:X[k].mine=true:=by rcases hm with hm | hm;cases hm;exact hm
   rcases hbl b hb with hb | hb
   ·exact hp j k hi hkk hik (.inr hm2) b (by rw [he];exact hb)
   ·exact h1.1 _ (List.getElem_mem hkk) (.inr hm2) b hb
  ·rw [if_neg e1] at hb hm
   by_cases e2:j=k
   ·subst e2
    rw [if_pos rfl] at hm ⊢
    have hm2:X[i].mine=true:=by rcases hm with hm | hm;exact hm;cases hm
    intro hb2
    rcases hbl b hb2 with hb2 | hb2
    ·exact hp i j hi hkk hik (.inl hm2) b hb (by rw [he];exact hb2)
    ·exact h1.1 _ (List.getElem_mem hi) (.inr hm2) b hb2 hb
   ·rw [if_neg e2] at hm ⊢
    exact hp i k hi hkk hik hm b hb
theorem flat_nCs (l:List Int):l.flatMap nCs=l.map (fun n=>Value.int .i64 n):=by
 induction l with
 | nil=>rfl
 | cons a t ih=>rw [List.flatMap_cons,ih];rfl
end
end
section
open Go Go.RowKit
def Rd {α:Type} (enc:α→List Value) (w:World) (x:Value) (l:List α):Prop :=
 (x=.slice none 0 0∧l=[])∨∃ b o c,x=.slice (some ⟨b,o,none⟩) l.length c∧b < w.heap.size∧l.length≤c∧c≤maxLen∧∀ j u,(l.flatMap enc)[j]?=some u→w.cell? ⟨b,o + j,none⟩=some u
theorem Rd.vs {w:World} {x:Value} {l:List V} (h:Rd V.cs w x l):Vs w x l:=h
theorem Rd.keep {α:Type} {enc:α→List Value} {w w':World} {x:Value} {l:List α} (h:Rd enc w x l) (hs:w.heap.size≤w'.heap.size) (hk:∀ b∈slBl x,w'.heap[b]?=w.heap[b]?):Rd enc w' x l:=by
 rcases h with h | ⟨b,o,c,rfl,hb,q1,q2,q3⟩
 ·exact .inl h
 ·exact .inr ⟨b,o,c,rfl,Nat.lt_of_lt_of_le hb hs,q1,q2,fun j u hj=>(World.cell?_of_block (w:=w) (a:=⟨b,o + j,none⟩) (hk b (by simp [slBl]))).trans (q3 j u hj)⟩
def rdF {α:Type} (enc:α→List Value) (x:Value) (l:List α) (new:Bool):Fact:=⟨slBl x,new,false,fun w=>Rd enc w x l,fun w w' h hs hk=>h.keep hs hk⟩
theorem Rd.lt {α:Type} {enc:α→List Value} {w:World} {x:Value} {l:List α} (h:Rd enc w x l):∀ b∈slBl x,b < w.heap.size:=fun b hb=>by
 rcases h with ⟨rfl,-⟩ | ⟨b',o',c',rfl,h',-⟩
 ·cases hb
 ·simp [slBl] at hb;subst hb;exact h'
theorem Rd.addr {α:Type} {enc:α→List Value} {w:World} {p:Sp} {l:List α} (hv:Rd enc w (slN p l.length) l) {i:Nat} (hi:i < l.length):p.1=some ⟨rb p,ro p,none⟩∧∀ j u,(l.flatMap enc)[j]?=some u→w.cell? ⟨rb p,ro p + j,none⟩=some u:=by
 obtain ⟨pa,pc⟩:=p
 rcases hv with ⟨e,hn⟩ | ⟨b,o,c,e,hb,q1,q2,q3⟩
 ·subst hn;exact absurd hi (by simp)
 ·injection e with h1 h2 h3
  simp only at h1
  subst h1
  exact ⟨rfl,q3⟩
theorem flat1_get {α:Type} {f:α→Value} {l:List α} {i:Nat} {v:α} (h:l[i]?=some v):(l.flatMap fun x=>[f x])[i]?=some (f v):=by
 induction l generalizing i with
 | nil=>cases h
 | cons a t ih =>
  cases i with
  | zero=>cases h;rfl
  | succ i=>rw [List.flatMap_cons];simpa using ih (by simpa using h)
theorem Rd.elemN {w:World} {p:Sp} {l:List Int} (hv:Rd nCs w (slN p l.length) l) {i:Nat} (hi:i < l.length):w.cell? ⟨rb p,ro p + i * 1,none⟩=some (.int .i64 (l.getD i 0)):=by
 have e:l[i]?=some (l.getD i 0):=by rw [List.getD_eq_getElem?_getD,List.getElem?_eq_getElem hi];rfl
 rw [Nat.mul_one]
 exact (hv.addr hi).2 _ _ (flat1_get (f:=fun n=>Value.int .i64 n) e)
theorem own_rd {α:Type} {enc:α→List Value} {w:World} {e:TypeId} {sz base:Nat} {x:Value} {l:List α} (h:w.ownsRow base e sz x l.length (l.flatMap enc)):Rd enc w x l:=by
 rcases h.2 with ⟨rfl,hl⟩ | ⟨g,cap,cur,rfl,h0,hg,h1,h2,h3,h4⟩
 ·exact .inl ⟨rfl,List.eq_nil_of_length_eq_zero hl⟩
 ·refine .inr ⟨g,0,cap,rfl,block_lt hg,h1,h2,fun j u hj=>?_⟩
  rw [cell_of hg,Nat.zero_add,← Array.getElem?_toList]
  have hjl:=(List.getElem?_eq_some_iff.1 hj).1
  have hfl:=h.1
  have h5:=congrArg (fun t=>t[j]?) h4
  simp only [List.getElem?_take] at h5
  rw [if_pos (by omega)] at h5
  rw [h5];exact hj
theorem Rd.ix {w:World} {F:Foot} {x:Value} {l:List Int} (h:Rd nCs w x l) (hF:∀ b∈slBl x,¬ F b):Ix F w x l:=by
 refine ⟨?_,fun b o n c e=>?_⟩
 ·rcases h with h | ⟨b,o,c,rfl,h0,h1,h2,h3⟩
  ·exact .inl h
  ·refine .inr ⟨b,o,c,rfl,h0,h1,h2,fun j n hj=>h3 j _ (flat1_get (f:=fun n=>Value.int .i64 n) hj)⟩
 ·subst e;exact hF b (by simp [slBl])
theorem Rd.of_ix {w:World} {F:Foot} {x:Value} {l:List Int} (h:Ix F w x l):Rd nCs w x l:=by
 rcases h.is with h | ⟨b,o,c,rfl,h0,h1,h2,h3⟩
 ·exact .inl h
 ·refine .inr ⟨b,o,c,rfl,h0,h1,h2,fun j u hj=>?_⟩
  rw [flat_nCs,List.getElem?_map] at hj
  cases hl:l[j]? with
  | none=>rw [hl] at hj;cases hj
  | some n=>rw [hl] at hj;cases hj;exact h3 j n hl
theorem drop_len_add {α:Type} (x y:List α) (n:Nat):(x++y).drop (x.length + n)=y.drop n:=by
 induction x with
 | nil=>simp
 | cons a t ih=>rw [List.cons_append,List.length_cons,show t.length + 1 + n=(t.length + n) + 1 by omega,List.drop_succ_cons,ih]
theorem take_len_add {α:Type} (x y:List α) (n:Nat):(x++y).take (x.length + n)=x++y.take n:=by
 induction x with
 | nil=>simp
 | cons a t ih=>rw [List.cons_append,List.length_cons,show t.length + 1 + n=(t.length + n) + 1 by omega,List.take_succ_cons,ih,List.cons_append]
theorem flat_drop {α:Type} {enc:α→List Value} {sz:Nat} (hz:∀ x,(enc x).length=sz) (l:List α) (lo:Nat):(l.drop lo).flatMap enc=(l.flatMap enc).drop (lo * sz):=by
 induction l generalizing lo with
 | nil=>simp
 | cons a t ih =>
  cases lo with
  | zero=>simp
  | succ lo =>
   have e:(lo + 1) * sz=(enc a).length + lo * sz:=by rw [hz,Nat.succ_mul,Nat.add_comm]
   rw [List.drop_succ_cons,ih,List.flatMap_cons,e,drop_len_add]
theorem flat_take {α:Type} {enc:α→List Value} {sz:Nat} (hz:∀ x,(enc x).length=sz) (l:List α) (hi:Nat):(l.take hi).flatMap enc=(l.flatMap enc).take (hi * sz):=by
 induction l generalizing hi with
 | nil=>simp
 | cons a t ih =>
  cases hi with
  | zero=>simp
  | succ hi =>
   have e:(hi + 1) * sz=(enc a).length + hi * sz:=by rw [hz,Nat.succ_mul,Nat.add_comm]
   rw [List.take_succ_cons,List.flatMap_cons,ih,List.flatMap_cons,e,take_len_add]
def cutP (p:Sp) (lo m sz:Nat):Sp:=(if m=lo then p.1 else p.1.map (·.add (lo * sz)),m - lo)
theorem Rd.cut {α:Type} {enc:α→List Value} {sz:Nat} (hz:∀ x,(enc x).length=sz) {w:World} {p:Sp} {l:List α} (h:Rd enc w (slN p l.length) l) (lo hi m:Nat) (h1:lo≤hi) (h2:hi≤l.length) (h3:hi≤m) (h4:m≤p.2) :
  Rd enc w (slN (cutP p lo m sz) (hi - lo)) ((l.take hi).drop lo):=by
 have hlen:((l.take hi).drop lo).length=hi - lo:=by rw [List.length_drop,List.length_take];omega
 obtain ⟨pa,pc⟩:=p
 simp only at h4
 rcases h with ⟨e,hn⟩ | ⟨b,o,c,e,hb,q1,q2,q3⟩
 ·subst hn
  injection e with e1 e2 e3
  simp only at e1 e3
  subst e1
  have:hi=0:=by simpa using h2
  subst this
  have:lo=0:=by omega
  subst this
  refine .inl ⟨?_,by simp⟩
  have hm:m=0:=by omega
  subst hm
  simp [cutP]
 ·injection e with e1 e2 e3
  simp only at e1 e3
  subst e1 e3
  by_cases hml:m=lo
  ·have:lo=hi:=by omega
   subst this
   refine .inr ⟨b,o,pc - pc + (m - lo),?_,hb,?_,?_,fun j u hj=>?_⟩
   ·simp [cutP,hml,hlen]
   ·rw [hlen];omega
   ·omega
   ·have:(List.take lo l).drop lo=[]:=List.drop_eq_nil_of_le (by rw [List.length_take];omega)
    rw [this] at hj;cases hj
  ·refine .inr ⟨b,o + lo * sz,m - lo,?_,hb,by rw [hlen];omega,by omega,fun j u hj=>?_⟩
   ·simp [cutP,hml,hlen,Addr.add]
   ·rw [flat_drop hz,flat_take hz,List.getElem?_drop,List.getElem?_take] at hj
    split at hj
    ·have:=q3 _ _ hj
     rw [show o + lo * sz + j=o + (lo * sz + j) by omega];exact this
    ·cases hj
section
variable {R:Res} {w0:World} {F0:Foot} {O L:List Item} {X:List Fact} {W:World} {G:Foot}
theorem SW.also (h:SW R w0 F0 O L X W) (k:Nat) {y x:Fact} (hk:X[k]?=some y) (hm:y.mine=false∧x.mine=false) (hp:y.p W→x.p W) (hb:∀ b∈x.bl,b∈y.bl) (hn:x.new=true→y.new=true):SW R w0 F0 O L (x :: X) W:=by
 obtain ⟨⟨G,hG⟩,hnd⟩:=h
 have hy:=List.mem_of_getElem? hk
 refine ⟨⟨G,hG.res,hG.st,hG.out,hG.own,fun z hz=>?_⟩,hnd.1,fun z hz b hbz q hq=>?_,List.pairwise_cons.2 ⟨fun z hz hmz b hbx hbz=>?_,hnd.2.2⟩⟩
 ·rcases List.mem_cons.1 hz with rfl | hz
  ·exact ⟨hp (hG.fact y hy).1,fun b hbx=>⟨((hG.fact y hy).2 b (hb b hbx)).1,((hG.fact y hy).2 b (hb b hbx)).2.1,fun h1=>((hG.fact y hy).2 b (hb b hbx)).2.2 (hn h1)⟩⟩
  ·exact hG.fact z hz
 ·rcases List.mem_cons.1 hz with rfl | hz
  ·exact hnd.2.1 y hy b (hb b hbz) q hq
  ·exact hnd.2.1 z hz b hbz q hq
 ·have hmz2:z.mine=true:=hmz.elim (fun h=>by rw [hm.2] at h;cases h) id
  have hp:=List.pairwise_iff_getElem.1 hnd.2.2
  obtain ⟨j,hj,rfl⟩:=List.getElem_of_mem hz
  have hkl:k < X.length:=(List.getElem?_eq_some_iff.1 hk).1
  have he:X[k]=y:=(List.getElem?_eq_some_iff.1 hk).2
  rcases Nat.lt_trichotomy j k with h1 | h1 | h1
  ·exact hp j k hj hkl h1 (.inl hmz2) b hbz (by rw [he];exact hb b hbx)
  ·subst h1;rw [he,hm.1] at hmz2;cases hmz2
  ·exact hp k j hkl hj h1 (.inr hmz2) b (by rw [he];exact hb b hbx) hbz
end
end
section
open Go Go.RowKit
theorem rx_of {w:World} {q:Sp} {ps:List (Sp × List Int)} (h:Rd pCs w (slN q ps.length) ps) (hi:∀ r∈ps,ownN w r):Rx noF w (slN q ps.length) (ps.map (·.2)):=by
  refine ⟨?_,fun _ _ _ _ _ h=>h⟩
  rcases h with ⟨e,hn⟩ | ⟨b,o,c,e,h0,h1,h2,h3⟩
  · subst hn;exact .inl ⟨e,rfl⟩
  · refine .inr ⟨b,o,c,ps.map fun r=>slN r.1 r.2.length,by rw [e,List.length_map],h0,by rw [List.length_map];exact h1,h2,by simp,fun j y hj=>?_,fun j y r hj hr=>?_⟩
    · rw [List.getElem?_map] at hj
      cases hp:ps[j]? with
      | none=>rw [hp] at hj;cases hj
      | some r=>rw [hp] at hj;cases hj;exact h3 j _ (flat1_get (f:=fun q:Sp × List Int=>slN q.1 q.2.length) hp)
    · rw [List.getElem?_map] at hj hr
      cases hp:ps[j]? with
      | none=>rw [hp] at hj;cases hj
      | some r' =>
        rw [hp] at hj hr;cases hj;cases hr
        exact (own_rd (hi r' (List.mem_of_getElem? hp))).ix fun _ _ h=>h
section
variable {R:Res} {w0:World} {F0:Foot} {O L:List Item} {X:List Fact}
theorem linOrder_some (hR:ROk w0 R) (m:Int) (k1 k2 k3:Nat) {p q:Sp} {bs:List Int} {ps:List (Sp × List Int)} {l:List Int} (h1:X[k1]?=some (rowF nCs 2 1 (slN p bs.length) bs)) (h2:X[k2]?=some (rowF pCs 114 1 (slN q ps.length) ps)) (h3:X[k3]?=some (insF ps))
    (hl:ps.length < 1048576) (ht:total (ps.map (·.2)) + bs.length≤1048576) (ho:orderF m bs (ps.map (·.2))=some l) :
    ∀ w,SW R w0 F0 O L X w→Calls Tryz.prog 232 #[.int .i64 m,slN p bs.length,slN q ps.length] w fun e w'=>∃ x:Sp,e=.returned (.tuple #[slN x l.length,.bool true])∧SW R w0 F0 O L (rdF nCs (slN x l.length) l true :: X) w':=by
  intro w hS
  have hS0:=hS
  obtain ⟨⟨G,hG⟩,hn⟩:=hS
  have f1:=(hG.fact _ (List.mem_of_getElem? h1)).1
  have f2:=(hG.fact _ (List.mem_of_getElem? h2)).1
  have f3:=(hG.fact _ (List.mem_of_getElem? h3)).1
  refine (order_any w m _ _ noF bs (ps.map (·.2)) ((own_rd f1).ix fun _ _ h=>h) (rx_of (own_rd f2) f3) (by simpa using hl) ht).mono fun e w' ⟨hb,hm⟩=>?_
  rw [ho] at hm
  obtain ⟨y,rfl,hy⟩:=hm
  obtain ⟨a,c,rfl,-,-,-⟩:=hy.form
  refine ⟨(a,c),rfl,?_⟩
  have hrd:=Rd.of_ix hy
  obtain ⟨h4,h5⟩:=(hG.bl hR hb).learn hn (rdF nCs (.slice a l.length c) l true) hrd hG.st.size (fun b hbb=>by
    have hlt:=hrd.lt b hbb
    cases a with
    | none=>cases hbb
    | some ad =>
      simp [rdF,slBl] at hbb
      subst hbb
      have ho:=hy.out
      rcases hrd with ⟨hv,-⟩ | ⟨b',o',c',e',hlt2,-⟩
      · cases hv
      · injection e' with e1 e2 e3
        injection e1 with e1
        subst e1
        have hge:¬ b' < w.heap.size:=ho b' o' _ _ rfl
        exact ⟨by simpa using hge,hlt,fun hF=>hge (hG.st.lt _ hF)⟩) hG.ownLt fun y hy _=>hG.factLt y hy
  exact ⟨⟨G,h4⟩,h5⟩
theorem linOrder_none (m:Int) (k1 k2 k3:Nat) {p q:Sp} {bs:List Int} {ps:List (Sp × List Int)} (h1:X[k1]?=some (rowF nCs 2 1 (slN p bs.length) bs)) (h2:X[k2]?=some (rowF pCs 114 1 (slN q ps.length) ps)) (h3:X[k3]?=some (insF ps))
    (hl:ps.length < 1048576) (ht:total (ps.map (·.2)) + bs.length≤1048576) (ho:orderF m bs (ps.map (·.2))=none) :
    ∀ w,SB R w0 F0 O L X w→Calls Tryz.prog 232 #[.int .i64 m,slN p bs.length,slN q ps.length] w fun e w'=>e=.returned (.tuple #[.slice none 0 0,.bool false])∧Bl w w':=by
  rintro w ⟨G,hG⟩
  have f1:=(hG.fact _ (List.mem_of_getElem? h1)).1
  have f2:=(hG.fact _ (List.mem_of_getElem? h2)).1
  have f3:=(hG.fact _ (List.mem_of_getElem? h3)).1
  refine (order_any w m _ _ noF bs (ps.map (·.2)) ((own_rd f1).ix fun _ _ h=>h) (rx_of (own_rd f2) f3) (by simpa using hl) ht).mono fun e w' ⟨hb,hm⟩=>?_
  rw [ho] at hm
  exact ⟨hm,hb⟩
theorem SW.cut {α:Type} {enc:α→List Value} {sz:Nat} {nw:Bool} (hz:∀ x,(enc x).length=sz) {W:World} {p:Sp} {l:List α} (h:SW R w0 F0 O L X W) (k:Nat) (hk:X[k]?=some (rdF enc (slN p l.length) l nw)) (lo hi m:Nat) (h1:lo≤hi) (h2:hi≤l.length) (h3:hi≤m) (h4:m≤p.2) :
    SW R w0 F0 O L (rdF enc (slN (cutP p lo m sz) (hi - lo)) ((l.take hi).drop lo) nw :: X) W:=by
  refine h.also k hk ⟨rfl,rfl⟩ (fun hr=>Rd.cut hz hr lo hi m h1 h2 h3 h4) (fun b hb=>?_) id
  obtain ⟨pa,pc⟩:=p
  cases pa with
  | none =>
    exfalso
    simp only [rdF,slN,cutP,Option.map_none,ite_self,slBl] at hb
    cases hb
  | some ad =>
    simp only [rdF,slN,cutP,slBl,Option.map_some] at hb ⊢
    by_cases hm:m=lo
    · rw [if_pos hm] at hb;exact hb
    · rw [if_neg hm] at hb
      simp only [List.mem_singleton] at hb ⊢
      rw [hb];unfold Addr.add;split<;>rfl
theorem capOf {α:Type} {enc:α→List Value} {nw:Bool} {W:World} {p:Sp} {l:List α} (h:SW R w0 F0 O L X W) (k:Nat) (hk:X[k]?=some (rdF enc (slN p l.length) l nw)):l.length≤p.2:=by
  have hr:Rd enc W (slN p l.length) l:=h.sb.fact k hk
  rcases hr with ⟨e,hn⟩ | ⟨b,o,c,e,h0,h1,-⟩
  · subst hn;exact Nat.zero_le _
  · injection e with e1 e2 e3;rw [e3];exact h1
end
section
variable {P:Program} {t e:TypeId} {sz:Nat} (ht:P.underlying t=some (.slice e)) (hz:(P.info? e).map (·.size)=some sz) (p:Sp) (n:Nat)
include ht hz
theorem cut_from (w:World) (lo:Nat) (h1:lo≤n):(Instr.slice t (slN p n) (some (.int .i64 (lo:Int))) none none).run P w=.ok (slN (cutP p lo p.2 sz) (n - lo)) w:=by
  have hs:∀ w,(sizeOf e).run P w=.ok sz w:=fun w=>by
    cases hq:P.info? e with
    | none=>simp [hq] at hz
    | some i =>
      have:i.size=sz:=by simpa [hq] using hz
      simp [sizeOf,typeInfo,hq,this]
  have e0:∀ w,(underlying t).run P w=.ok (.slice e) w:=fun w=>by simp [underlying,go_sem,ht]
  have b1:∀ (w:World) code,(Instr.sliceBound (.int .i64 lo) n code).run P w=.ok lo w:=fun w code=>run_sliceBound (P:=P) w .i64 lo n code (by omega) (by omega)
  unfold Instr.slice Instr.sliceBounds
  simp [e0,b1,hs,cutP]
end
theorem cut_fromL {α:Type} {P:Program} {t e:TypeId} {sz:Nat} (ht:P.underlying t=some (.slice e)) (hz:(P.info? e).map (·.size)=some sz) (p:Sp) (l:List α) (w:World) (lo:Nat) (h1:lo≤l.length):(Instr.slice t (slN p l.length) (some (.int .i64 (lo:Int))) none none).run P w=.ok (slN (cutP p lo p.2 sz) (l.drop lo).length) w:=by
  rw [cut_from ht hz p l.length w lo h1,List.length_drop]
theorem SW.cutFrom {α:Type} {enc:α→List Value} {sz:Nat} {nw:Bool} {R:Res} {w0:World} {F0:Foot} {O L:List Item} {X:List Fact} (hz:∀ x,(enc x).length=sz) {W:World} {p:Sp} {l:List α} (h:SW R w0 F0 O L X W) (k:Nat) (hk:X[k]?=some (rdF enc (slN p l.length) l nw)) (lo:Nat) (h1:lo≤l.length) :
    SW R w0 F0 O L (rdF enc (slN (cutP p lo p.2 sz) (l.drop lo).length) (l.drop lo) nw :: X) W:=by
  have:=h.cut hz k hk lo l.length p.2 h1 (Nat.le_refl _) (capOf h k hk) (Nat.le_refl _)
  rw [List.take_length,← List.length_drop] at this
  exact this
theorem SW.cutFromL {α:Type} {enc:α→List Value} {sz:Nat} {nw:Bool} {R:Res} {w0:World} {F0:Foot} {O L:List Item} {X:List Fact} {P:World→Prop} (hz:∀ x,(enc x).length=sz) {p:Sp} {l:List α} (k:Nat) (hk:X[k]?=some (rdF enc (slN p l.length) l nw)) (lo:Nat) (h1:lo≤l.length)
    (h:∀ w,SW R w0 F0 O L (rdF enc (slN (cutP p lo p.2 sz) (l.drop lo).length) (l.drop lo) nw :: X) w→P w):∀ w,SW R w0 F0 O L X w→P w:=fun w hw=>h w (hw.cutFrom hz k hk lo h1)
theorem SW.joinInsL {R:Res} {w0:World} {F0:Foot} {O L:List Item} {X:List Fact} {P:World→Prop} {p:Sp} {l:List Int} {ps:List (Sp × List Int)} (j:Nat) (hj:X[j]?=some (insF ps)) (h:∀ w,SW R w0 F0 O L (X.set j (insF (ps++[(p,l)]))) w→P w) :
    ∀ w,SW R w0 F0 O L (rowF nCs 2 1 (slN p l.length) l :: X) w→P w:=fun w hw=>h w (hw.joinIns j hj)
theorem YB.cutFrom {α:Type} {F:Fence} {n:Nat} {P:Program} {ops:Array Oper} {B:World→Prop} {o:Oper} {a:Go.Act} {t e:TypeId} {sz:Nat} (x lo':Operand) (ht:P.underlying t=some (.slice e)) (hz:(P.info? e).map (·.size)=some sz) (hop:o.op=.slice t x (some lo') none none) (hw:Region.wanted o (yielded ops a.tmps)=true)
    {p:Sp} {l:List α} {lo:Nat} (hx:a.eval x=slN p l.length) (hlo:a.eval lo'=.int .i64 (lo:Int)) (h1:lo≤l.length):YB F n P ops B o (slN (cutP p lo p.2 sz) (l.drop lo).length) a :=
  YB.run (by rw [hop];nofun) (by rw [hop];nofun) hw fun w _=>by
    unfold execOp;rw [hop]
    simp only [hx,Option.map_some,Option.map_none,hlo,Instr.sliceAt]
    have:=cut_fromL ht hz p l w lo h1
    simp only [Sem.run_bind,run_underlying ht,Result.andThen_ok,this,Sem.run_pure]
theorem SW.lenLe {α:Type} {enc:α→List Value} {nw:Bool} {R:Res} {w0:World} {F0:Foot} {O L:List Item} {X:List Fact} {W:World} {x:Value} {l:List α} (h:SW R w0 F0 O L X W) (k:Nat) (hk:X[k]?=some (rdF enc x l nw)):l.length≤9223372036854775807:=by
  have hr:Rd enc W x l:=h.sb.fact k hk
  rcases hr with ⟨e,hn⟩ | ⟨b,o,c,e,h0,h1,h2,-⟩
  · subst hn;simp
  · have:c≤9223372036854775807:=Nat.le_trans h2 (by unfold maxLen;decide)
    omega
theorem SWF.vxOwn {R:Res} {w0:World} {F0:Foot} {O L:List Item} {X:List Fact} {W:World} {F:Foot} (h:SWF R w0 F0 O L X W F) (k:Nat) {p:Sp} {l:List V} (hk:X[k]?=some (rowF V.cs 23 3 (slN p l.length) l)):Vx F W (slN p l.length) l:=by
  have hf:=h.fact _ (List.mem_of_getElem? hk)
  exact ⟨(own_rd hf.1).vs,fun b o n c e hF=>(hf.2 b (by simp only [rowF,obBl];rw [show slN p l.length=.slice (some ⟨b,o,none⟩) n c from e];simp [Value.ownBlock])).1 hF⟩
end
section
open Go Go.RowKit
section
variable {R R':Res} {w0:World} {F0:Foot} {O L:List Item} {X:List Fact} {W W':World} {F:Foot}
def Kp (w0:World) (L:List Item) (X:List Fact) (F:Foot):Foot:=fun b=>F b∨b < w0.heap.size∨(∃ p∈L,p.1=b)∨∃ x∈X,b∈x.bl
theorem SWF.keep (hR:ROk w0 R) (h:SWF R w0 F0 O L X W F) (hk:Keep (Kp w0 L X F) W W'):SWF R w0 F0 O L X W' F :=
 ⟨hR.keep _ _ _ h.res hk.size fun b hb=>hk.block b (hb.elim .inl fun h=>.inr (.inl h)),
  ⟨hk.os.trans h.st.os,hk.tape.trans h.st.tape,hk.output.trans h.st.output,Nat.le_trans h.st.size hk.size,fun b hb hF=>(hk.block b (.inr (.inl hb))).trans (h.st.block b hb hF),h.st.foot,fun b hb=>Nat.lt_of_lt_of_le (h.st.lt b hb) hk.size⟩,
  fun p hp=>⟨(hk.block _ (.inr (.inl (h.out p hp).2.2))).trans (h.out p hp).1,(h.out p hp).2⟩,
  fun p hp=>⟨(hk.block _ (.inr (.inr (.inl ⟨p,hp,rfl⟩)))).trans (h.own p hp).1,(h.own p hp).2⟩,
  fun x hx=>⟨x.ok _ _ (h.fact x hx).1 hk.size fun b hb=>hk.block b (.inr (.inr (.inr ⟨x,hx,hb⟩))),fun b hb=>⟨((h.fact x hx).2 b hb).1,Nat.lt_of_lt_of_le ((h.fact x hx).2 b hb).2.1 hk.size,((h.fact x hx).2 b hb).2.2⟩⟩⟩
theorem SWF.kpLt (h:SWF R w0 F0 O L X W F):∀ b,Kp w0 L X F b→b < W.heap.size:=by
 rintro b (hb | hb | ⟨p,hp,rfl⟩ | ⟨x,hx,hb⟩)
 ·exact h.st.lt b hb
 ·exact Nat.lt_of_lt_of_le hb h.st.size
 ·exact h.ownLt p hp
 ·exact h.factLt x hx b hb
theorem SW.rebase (h:SWF R w0 F0 O L [] W F) (hR:ROk W R):SW R W F (O++L) [] [] W :=
 SW.start hR h.res (fun p hp=>(List.mem_append.1 hp).elim (fun hp=>⟨(h.out p hp).1,(h.out p hp).2.1⟩) fun hp=>⟨(h.own p hp).1,(h.own p hp).2.1⟩) (fun x hx=>by cases hx)
def roundS (R':Res) (Wb:World) (F:Foot):Exit→Go.Act→World→Prop
 | .normal,_,W'=>RStep R' Wb F W'
 | _,_,_=>False
end
theorem range_sw {P:Program} {g:Operand} {ps:Array Tmp} {assign body:Code} {Q:Exit→Go.Act→World→Prop} {a:Go.Act} {w:World} {gf:Nat} {lb:Array Value}
  (hg:a.eval g=.func (.func gf) #[] lb) (eg:∀ args w,(callFunc gf args).run P w=.ok (.enter gf args) w) {xs:List (Array Value)} {Rel:World→Prop} (hseq:SeqOfR P gf lb xs Rel)
  (hps:∀ x∈xs,x.size=ps.size) (R:Nat→Res) {w0:World} {F0:Foot} {O L:List Item} {X:List Fact} (hR:∀ k,ROk w0 (R k))
  (hRel:∀ k F W,SWF (R k) w0 F0 O L X W F→Rel W) (hS:SW (R 0) w0 F0 O L X w)
  (hround:∀ (l k:Nat) (x:Array Value) (F:Foot) (W:World) (K:Go.Act→World→Prop),xs[k]?=some x→SWF (R k) w0 F0 O L X W F→l < W.heap.size →
   (∀ a' Wa,Bl W Wa→(∀ Wb,(∀ b,b≠l→Wb.heap[b]?=Wa.heap[b]?)→Wb.heap.size=Wa.heap.size→SWF (R k) w0 F0 O L X Wb F→body.wpIn (Fence.wide.inRound l) 1 P (roundS (R (k + 1)) Wb F) a' Wb)→K a' Wa) →
   assign.wpIn (Fence.wide.inRound l) 1 P (Exit.then K fun _ _ _=>False) { tmps:=(ps.zip x).foldl (fun t (p,v)=>t.setIfInBounds p v) a.tmps,defers:=[] } W)
  (hdone:∀ D W',SW (R xs.length) w0 F0 O ((D,.deferred (some [])) :: L) X W'→Q .normal { a with defers:={ target:=.collected D,args:=#[] } :: a.defers } W') :
  (Code.rangeFunc g ps assign body).wpIn Fence.wide 3 P Q a w:=by
 obtain ⟨⟨F1,hS⟩,hN⟩:=hS
 refine range_fnR hg eg hseq hps (fun k F W=>∃ F1,SWF (R k) w0 F0 O L X W F1∧∀ b,F b↔Kp w0 L X F1 b) (fun _ _ _=>False) ?_ ?_ ?_ ?_ (Kp w0 L X F1) ⟨F1,hS,fun _=>Iff.rfl⟩ ?_ ?_ ?_
 ·rintro k F W W' ⟨F1,h1,h2⟩ hk
  exact ⟨F1,h1.keep (hR k) ⟨hk.os,hk.tape,hk.output,hk.size,fun b hb=>hk.block b ((h2 b).2 hb)⟩,h2⟩
 ·rintro c F W W' h hk;exact h
 ·rintro k F W ⟨F1,h1,h2⟩ b hb;exact h1.kpLt b ((h2 b).1 hb)
 ·rintro k F W ⟨F1,h1,h2⟩;exact hRel k F1 W h1
 ·rintro l k x F W K hx ⟨F1,h1,h2⟩ hnl hll hK
  refine hround l k x F1 W K hx h1 hll ?_
  intro a' Wa hba hbody
  refine hK a' Wa hba ?_
  intro Wb q1 q2 q3 q4 q5
  have hnK:¬ Kp w0 L X F1 l:=fun h=>hnl ((h2 l).2 h)
  have hkeep:Keep (Kp w0 L X F1) W Wb:=⟨q3.trans hba.os,q4.trans hba.tape,q5.trans hba.output,by rw [q2];exact hba.sz,fun b hb=>(q1 b (fun e=>hnK (e ▸ hb))).trans (hba.at (h1.kpLt b hb))⟩
  have h1b:=h1.keep (hR k) hkeep
  refine wpIn_mono (hbody Wb q1 q2 h1b) ?_
  rintro e a3 W3 hp
  cases e with
  | normal =>
   obtain ⟨F3,hr3,hs3⟩:=hp
   obtain ⟨⟨F4,h4⟩,-⟩:=SW.call h1b hN ⟨F3,hr3,hs3⟩
   have hsw:SWF (R (k + 1)) w0 F0 O L X W3 F3:=by
    have hnF:∀ b,b < Wb.heap.size→¬ F1 b→¬ F3 b:=fun b h1 h2 h3=>(hs3.foot b h3).elim h2 (by omega)
    have hout:∀ {b:Nat} {o:Obj},Wb.heap[b]?=some o→¬ F1 b→W3.heap[b]?=some o:=fun h1 h2=>(hs3.block _ (block_lt h1) h2).trans h1
    exact ⟨hr3,h1b.st.call h1b.st.size hs3,fun p hp=>⟨hout (h1b.out p hp).1 (h1b.out p hp).2.1,hnF _ (block_lt (h1b.out p hp).1) (h1b.out p hp).2.1,(h1b.out p hp).2.2⟩,
     fun p hp=>⟨hout (h1b.own p hp).1 (h1b.own p hp).2.1,hnF _ (block_lt (h1b.own p hp).1) (h1b.own p hp).2.1,(h1b.own p hp).2.2⟩,
     fun x hx=>⟨x.ok _ _ (h1b.fact x hx).1 hs3.size fun b hb=>hs3.block b ((h1b.fact x hx).2 b hb).2.1 ((h1b.fact x hx).2 b hb).1,fun b hb=>⟨hnF b ((h1b.fact x hx).2 b hb).2.1 ((h1b.fact x hx).2 b hb).1,Nat.lt_of_lt_of_le ((h1b.fact x hx).2 b hb).2.1 hs3.size,((h1b.fact x hx).2 b hb).2.2⟩⟩⟩
   refine ⟨Kp w0 L X F3,⟨hs3.os,hs3.tape,hs3.output,hs3.size,fun b hb hn=>hs3.block b hb (fun h=>hn ((h2 b).2 (.inl h))),?_,fun b hb=>hsw.kpLt b hb⟩,F3,hsw,fun _=>Iff.rfl⟩
   rintro b (hb | hb)
   ·exact (hs3.foot b hb).elim (fun h=>.inl ((h2 b).2 (.inl h))) .inr
   ·exact .inl ((h2 b).2 (.inr hb))
  | ret=>exact hp.elim
  | exit id=>exact hp.elim
  | goto t=>exact hp.elim
  | panic c=>exact hp.elim
  | outgrown=>exact hp.elim
 ·rintro F' W' hst ⟨F2,h2,h3⟩ hD hnD
  refine hdone w.heap.size W' ⟨⟨F2,h2.res,h2.st,h2.out,?_,h2.fact⟩,?_⟩
  ·intro p hp
   rcases List.mem_cons.1 hp with rfl | hp
   ·exact ⟨hD,fun h=>hnD ((h3 _).2 (.inl h)),hS.st.size⟩
   ·exact h2.own p hp
  ·refine ⟨List.pairwise_cons.2 ⟨fun q hq=>?_,hN.1⟩,fun x hx b hb q hq=>?_,hN.2.2⟩
   ·exact (Nat.ne_of_lt (hS.ownLt q hq)).symm
   ·rcases List.mem_cons.1 hq with rfl | hq
    ·exact (Nat.ne_of_lt (hS.factLt x hx b hb)).symm
    ·exact hN.2.1 x hx b hb q hq
 ·rintro c F' W' hst h;exact h.elim
end
section
open Go Go.RowKit
abbrev Cls:=List (List UInt8 × V)
@[reducible] def ekS (s:List UInt8):Value:=.string (bs s)
theorem key_bs {P:Program} {K:TypeId} (hu:P.underlying K=some .string):Key P K ekS:=by
 have e0:∀ w,(underlying K).run P w=.ok .string w:=fun w=>by simp [underlying,go_sem,hu]
 refine key_now hu ?_ ?_ ?_
 ·intro b a w;unfold Instr.checkKey;simp [go_sem,e0]
 ·intro a b;simp only [Instr.sameNow,beq_bs]
 ·intro a;simp [Instr.sameBits,beq_bs]
structure RMF (hp:Nat) (h:Hp) (mb:Nat) (cl:Cls) (W:World) (F Fh:Foot):Prop where
 r:HR W hp h Fh
 foot:∀ b,F b↔Fh b∨b=mb
 out:¬ Fh mb
 map:∃ es c,W.heap[mb]?=some (.map es c)∧Ents ekS V.agg es.toList cl
def RM (hp:Nat) (h:Hp) (mb:Nat) (cl:Cls):Res:=fun W F=>∃ Fh,RMF hp h mb cl W F Fh
section
variable {hp mb:Nat} {h h':Hp} {cl:Cls} {W:World} {F Fh G:Foot}
theorem RMF.sub (m:RMF hp h mb cl W F Fh):∀ b,Fh b→F b:=fun b hb=>(m.foot b).2 (.inl hb)
theorem RMF.own (m:RMF hp h mb cl W F Fh):F mb:=(m.foot mb).2 (.inr rfl)
theorem RMF.mlt (m:RMF hp h mb cl W F Fh):mb < W.heap.size:=m.map.elim fun es ⟨c,h,_⟩=>block_lt h
theorem RM.ok (w0:World) (hp:Nat) (h:Hp) (mb:Nat) (cl:Cls):ROk w0 (RM hp h mb cl) :=
 ⟨fun W W' F ⟨Fh,m⟩ hs hk=>⟨Fh,m.r.keep hs fun b hb=>hk b (.inl (m.sub b hb)),m.foot,m.out,m.map.elim fun es ⟨c,h1,h2⟩=>⟨es,c,(hk mb (.inl m.own)).trans h1,h2⟩⟩,
  fun W F ⟨Fh,m⟩ b hb=>((m.foot b).1 hb).elim (m.r.lt b) fun e=>e ▸ m.mlt⟩
theorem Vx.sub {w:World} {x:Value} {l:List V} (hs:∀ b,Fh b→F b) (h:Vx F w x l):Vx Fh w x l:=⟨h.vs,fun b o n c e hf=>h.out b o n c e (hs b hf)⟩
theorem Ix.sub {w:World} {x:Value} {l:List Int} (hs:∀ b,Fh b→F b) (h:Ix F w x l):Ix Fh w x l:=⟨h.is,fun b o n c e hf=>h.out b o n c e (hs b hf)⟩
theorem RM.wr {P:Program} {f:FuncId} {args:Array Value} {w:World} {x:Value} (hm:RM hp h mb cl w G) (c:∀ Fh,RMF hp h mb cl w G Fh→Calls P f args w fun e w'=>e=.returned x∧HStep w hp Fh h' w') :
  Calls P f args w fun e w'=>e=.returned x∧RStep (RM hp h' mb cl) w G w':=by
 obtain ⟨Fh,m⟩:=hm
 refine (c Fh m).mono ?_
 rintro e w' ⟨rfl,F',hr,hs⟩
 have hn:¬ F' mb:=fun hf=>(hs.foot mb hf).elim m.out (by have:=m.mlt;omega)
 refine ⟨rfl,fun b=>F' b∨b=mb,⟨F',hr,fun _=>Iff.rfl,hn,m.map.elim fun es ⟨c,h1,h2⟩=>⟨es,c,(hs.block mb m.mlt m.out).trans h1,h2⟩⟩,hs.os,hs.tape,hs.output,hs.size,fun b hb hG=>hs.block b hb fun hf=>hG (m.sub b hf),?_,?_⟩
 ·rintro b (hb | rfl)
  ·exact (hs.foot b hb).elim (fun h=>.inl (m.sub b h)) .inr
  ·exact .inl m.own
 ·rintro b (hb | rfl)
  ·exact hs.lt b hb
  ·exact Nat.lt_of_lt_of_le m.mlt hs.size
theorem zeroV (w:World):(zeroValue 23).run Tryz.prog w=.ok (V.agg V.nil) w:=by kernel_rfl
theorem RM.look (hm:RM hp h mb cl W F) (key:List UInt8):(Instr.lookup 97 (.map (some mb)) (.string (bs key)) false).run Tryz.prog W=.ok (V.agg ((get cl key).getD V.nil)) W:=by
 obtain ⟨Fh,m⟩:=hm
 obtain ⟨es,c,hb,he⟩:=m.map
 rw [run_look (ek:=ekS) (ev:=V.agg) Tryz.underlying97 (key_bs Tryz.underlying9) zeroV hb he key false]
 cases get cl key<;>rfl
theorem RM.put (hm:RM hp h mb cl W F) {key:List UInt8} {v:V}:∃ w',(Instr.mapUpdate 97 (.map (some mb)) (.string (bs key)) (V.agg v)).run Tryz.prog W=.ok () w'∧RStep (RM hp h mb (put cl key v)) W F w':=by
 obtain ⟨Fh,m⟩:=hm
 obtain ⟨es,c,hb,he⟩:=m.map
 obtain ⟨es',c',h1,h2⟩:=run_put (ek:=ekS) (ev:=V.agg) (P:=Tryz.prog) Tryz.underlying97 (key_bs Tryz.underlying9) he key v c
 refine ⟨_,h1 W mb hb,F,⟨Fh,m.r.keep (by rw [setMap_size];exact Nat.le_refl _) (fun b hbF=>setMap_other (fun e=>m.out (by rw [← e];exact hbF)) _ _),m.foot,m.out,es',c',setMap_at m.mlt _ _,h2⟩,rfl,rfl,rfl,by rw [setMap_size];exact Nat.le_refl _,fun b _ hF=>setMap_other (fun e=>hF (by rw [e];exact m.own)) _ _,fun b hb=>.inl hb,fun b hb=>?_⟩
 rw [setMap_size]
 exact ((m.foot b).1 hb).elim (m.r.lt b) fun e=>e ▸ m.mlt
end
section
variable {F:Fence} {n:Nat} {P:Program} {ops:Array Oper} {Q:Exit→Go.Act→World→Prop} {md:Region.Mode} {B:World→Prop} {o:Oper} {a:Go.Act} {v:Value}
variable {R R':Res} {w0:World} {F0:Foot} {O L:List Item} {X:List Fact}
theorem YB.look (t:TypeId) (mo ko:Operand) (ok:Bool) (hop:o.op=.lookup t mo ko ok) (hw:Region.wanted o (yielded ops a.tmps)=true) {m k:Value} (hx:a.eval mo=m) (hy:a.eval ko=k) (h:∀ w,B w→(Instr.lookup t m k ok).run P w=.ok v w):YB F n P ops B o v a :=
 YB.run (by rw [hop];nofun) (by rw [hop];nofun) hw fun w hB=>by
  unfold execOp;rw [hop];subst hx hy
  simp only [Sem.run_bind,h w hB,Result.andThen_ok];rfl
theorem run_mapUpdate_skip {ty:TypeId} {x y z:Operand} (hop:o.op=.mapUpdate ty x y z) {m k u:Value} (hx:a.eval x=m) (hy:a.eval y=k) (hz:a.eval z=u) {w w':World} (h:(Instr.mapUpdate ty m k u).run P w=.ok () w'):(execOp a.eval o).run P w=.ok .skip w':=by
 unfold execOp;rw [hop];subst hx hy hz
 simp only [Sem.run_bind,h,Result.andThen_ok];rfl
theorem wpS.mapPut {i k:Nat} {T T':List Nat} {listed:Array Bool} {ty:TypeId} (x y z:Operand) (hi:ops[i]?=some o) (hr:Region.ready md ops listed=[i]) (hg:Good B T (SW R w0 F0 O L X)) (hT:(T.filter fun t=>!waits md ops i t)=T') (hw:Region.wanted o (yielded ops a.tmps)=true) (mb:Nat)
  {key val:Value} (hop:o.op=.mapUpdate ty x y z) (hx:a.eval x=.map (some mb)) (hy:a.eval y=key) (hz:a.eval z=val)
  (hput:∀ w G,SWF R w0 F0 O L X w G→∃ w',(Instr.mapUpdate ty (.map (some mb)) key val).run P w=.ok () w'∧RStep R' w G w')
  (h:wpS F n P md ops Q B k T' (listed.setIfInBounds i true) (a.put o.dst undef) (SW R' w0 F0 O L X)):wpS F n P md ops Q B (k + 1) T listed a (SW R w0 F0 O L X) :=
 wpS.one hi hr hg hT hw fun w hS=>by
  obtain ⟨⟨G,hG⟩,hn⟩:=hS
  obtain ⟨w',e1,e2⟩:=hput w G hG
  exact wpIn_skipOp (by rw [hop];nofun) (by rw [hop];nofun) (run_mapUpdate_skip hop hx hy hz e1) ⟨_,SW.call hG hn e2,h⟩
theorem leaves_take {fn:Func} {tmps:Array Value} {Qr:Ending→World→Prop} {ds:List Deferred} {W:World} {D:Nat} (hR:ROk w0 R) (hS:SW R w0 F0 O L X W) (k:Nat) (hk:L[k]?=some (D,.deferred (some [])))
  (h:∀ W',SW R w0 F0 O (L.set k (D,.deferred none)) X W'→LeavesInM F n P fn tmps Qr ds .returning W'):LeavesInM F n P fn tmps Qr ({ target:=.collected D,args:=#[] } :: ds) .returning W :=
 ⟨nofun,.inl ⟨D,_,rfl,run_takeDeferred (hS.sb.box k hk),h _ (hS.write hR k hk (putObj_size _ _ _) (fun c hc=>World.putObj_heap_other hc) (World.putObj_heap_same (block_lt (hS.sb.box k hk))) ⟨rfl,rfl,rfl⟩)⟩⟩
theorem SW.adopt {hp mb:Nat} {h:Hp} {W:World} (hS:SW (RH hp h) w0 F0 O L X W) (j:Nat) (hj:L[j]?=some (mb,.map #[] 0)) (hX:∀ x∈X,mb ∉ x.bl):SW (RM hp h mb []) w0 F0 O (L.eraseIdx j) X W:=by
 obtain ⟨⟨F1,hF⟩,hN⟩:=hS
 have hm:=hF.own _ (List.mem_of_getElem? hj)
 have hjl:j < L.length:=(List.getElem?_eq_some_iff.1 hj).1
 have hne:∀ q∈L.eraseIdx j,q.1≠mb:=by
  intro q hq
  obtain ⟨i,hi,rfl⟩:=List.getElem_of_mem hq
  rw [List.length_eraseIdx,if_pos hjl] at hi
  rw [List.getElem_eraseIdx]
  have hp:=List.pairwise_iff_getElem.1 hN.1
  have he:L[j]=(mb,.map #[] 0):=(List.getElem?_eq_some_iff.1 hj).2
  split
  ·next hij =>
   have:=hp i j (by omega) hjl hij
   rw [he] at this;exact this
  ·next hij =>
   have:=hp j (i + 1) hjl (by omega) (by omega)
   rw [he] at this;exact this.symm
 refine ⟨⟨fun b=>F1 b∨b=mb,⟨F1,hF.res,fun _=>Iff.rfl,hm.2.1,#[],0,hm.1,Ents.nil⟩,?_,?_,?_,?_⟩,hN.1.sublist (List.eraseIdx_sublist _ _),fun x hx b hb q hq=>hN.2.1 x hx b hb q (List.mem_of_mem_eraseIdx hq),hN.2.2⟩
 ·refine ⟨hF.st.os,hF.st.tape,hF.st.output,hF.st.size,hF.st.block,?_,?_⟩
  ·rintro b (hb | rfl)
   ·exact hF.st.foot b hb
   ·exact .inr hm.2.2
  ·rintro b (hb | rfl)
   ·exact hF.st.lt b hb
   ·exact block_lt hm.1
 ·exact fun p hp=>⟨(hF.out p hp).1,fun h=>h.elim (hF.out p hp).2.1 (fun e=>by have:=(hF.out p hp).2.2;have:=hm.2.2;simp only at this;omega),(hF.out p hp).2.2⟩
 ·exact fun p hp=>⟨(hF.own p (List.mem_of_mem_eraseIdx hp)).1,fun h=>h.elim (hF.own p (List.mem_of_mem_eraseIdx hp)).2.1 (hne p hp),(hF.own p (List.mem_of_mem_eraseIdx hp)).2.2⟩
 ·exact fun x hx=>⟨(hF.fact x hx).1,fun b hb=>⟨fun h=>h.elim ((hF.fact x hx).2 b hb).1 (fun e=>hX x hx (e ▸ hb)),((hF.fact x hx).2 b hb).2⟩⟩
theorem SW.letGo {hp mb:Nat} {h:Hp} {cl:Cls} {W:World} (hS:SW (RM hp h mb cl) w0 F0 O L X W):SW (RH hp h) w0 F0 O L X W:=by
 obtain ⟨⟨F1,hF⟩,hN⟩:=hS
 obtain ⟨Fh,m⟩:=hF.res
 have hs:=m.sub
 exact ⟨⟨Fh,m.r,⟨hF.st.os,hF.st.tape,hF.st.output,hF.st.size,hF.st.block,fun b hb=>hF.st.foot b (hs b hb),fun b hb=>hF.st.lt b (hs b hb)⟩,
  fun p hp=>⟨(hF.out p hp).1,fun h=>(hF.out p hp).2.1 (hs _ h),(hF.out p hp).2.2⟩,fun p hp=>⟨(hF.own p hp).1,fun h=>(hF.own p hp).2.1 (hs _ h),(hF.own p hp).2.2⟩,
  fun x hx=>⟨(hF.fact x hx).1,fun b hb=>⟨fun h=>((hF.fact x hx).2 b hb).1 (hs _ h),((hF.fact x hx).2 b hb).2⟩⟩⟩,hN⟩
end
theorem Ix.box {F:Foot} {W:World} {g m:Nat} {l:List Int} {arr:Array Value} {t:TypeId} {fr:Nat × Nat} (hg:W.heap[g]?=some (.cells arr t fr)) (ha:arr.toList=l.map fun n=>Value.int .i64 n) (hF:¬ F g) (hm:l.length=m) (hmax:m≤maxLen):Ix F W (.slice (some ⟨g,0,none⟩) m m) l:=by
 subst hm
 refine ⟨.inr ⟨g,0,l.length,rfl,block_lt hg,Nat.le_refl _,hmax,fun j u hj=>?_⟩,fun b o n c e=>by cases e;exact hF⟩
 rw [cell_of hg,Nat.zero_add,← Array.getElem?_toList,ha,List.getElem?_map,hj]
 rfl
end
end Go.Proofs.YtbbokgpklihkoaaGreatDoor.W
