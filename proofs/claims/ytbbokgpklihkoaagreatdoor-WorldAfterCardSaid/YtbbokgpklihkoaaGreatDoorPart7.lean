/- App Dict6 Pack Pack2 Pack3 -/
import Derived.Test.YtbbokgpklihkoaaGreatDoorPart0
import Derived.ArgAppend
import Derived.Maps.AppendAt
import Derived.Test.YtbbokgpklihkoaaGreatDoorPart6
import Derived.IntWalk
import Derived.Deep.RegionLaw
import Derived.RangeFuncBox
import Derived.LoopTactic
import Derived.Deep.LoopGhost
set_option linter.unusedVariables false
set_option linter.unusedSimpArgs false
namespace Go.Proofs.YtbbokgpklihkoaaGreatDoor.W
section
open Go.RowKit
theorem run_app {P:Program} (w:World) (t ty e:TypeId) (i:TypeInfo) (z:Value) (size bytes:Nat) (ht:P.underlying t=some (.slice e)) (hi:P.info? e=some i) (hz:i.zero=some z)
  (hsize:i.size=size) (hby:i.bytes=bytes) (hzs:z.cells.size=size) (hsz:0 < size)
  (v:Value) (n:Nat) (xs:List Value) (hown:w.ownsRow 0 e size v n xs)
  (a:Addr) (m c:Nat) (news:List Value) (hl:news.length=m * size) (hnews:∀ j u,news[j]?=some u→w.cell? (a.add j)=some u) (h1:∀ u∈news,u.oneCell'=true)
  (h63:n + m≤maxLen) (hbytes:(n + m) * bytes≤140737488355328) :
  ∃ v' w',(Builtin.append_ #[t,t] ty #[v,.slice (some a) m c]).run P w=.ok v' w'∧w'.ownsRow 0 e size v' (n + m) (xs++news)∧w.grownBy w' v.ownBlock ∧
   (v'.ownBlock=v.ownBlock∨∃ g,v'.ownBlock=some g∧w.heap.size≤g):=by
 rcases hown.2 with ⟨rfl,rfl⟩ | ⟨g,cap,cur,rfl,hbg,hg,hnc,hcm,hcs,htake⟩
 ·have hx:xs=[]:=List.eq_nil_of_length_eq_zero (by simpa using hown.1)
  subst hx
  obtain ⟨v',w',hr,ho,hgr,hn⟩:=run_append_own (P:=P) w w.heap.size t ty e i z size bytes ht hi hz hsize hby hzs hsz (.slice none 0 0) 0 [] (World.ownsRow_nil w _ _ _) a m c news hl hnews h1 h63 hbytes (Nat.le_refl _)
  refine ⟨v',w',hr,⟨ho.1,ho.2.elim .inl (fun ⟨g,cap,cur,e1,_,r⟩=>.inr ⟨g,cap,cur,e1,Nat.zero_le _,r⟩)⟩,hgr,?_⟩
  rcases ho.2 with ⟨e1,-⟩ | ⟨g,cap,cur,e1,hb,-⟩
  ·exact .inl (by rw [e1])
  ·exact .inr ⟨g,by rw [e1];rfl,hb⟩
 ·obtain ⟨v',w',hr,ho,hgr,hn⟩:=run_append_own (P:=P) w 0 t ty e i z size bytes ht hi hz hsize hby hzs hsz _ n xs hown a m c news hl hnews h1 h63 hbytes (Nat.zero_le _)
  refine ⟨v',w',hr,ho,hgr,?_⟩
  subst hsize
  by_cases hroom:n + m≤cap
  ·have hfit:n * i.size + news.length≤cur.size:=by rw [hl,hcs,← Nat.add_mul];exact Nat.mul_le_mul_right _ hroom
   have hr2:=run_append_room (P:=P) w t ty e i ht hi g n cap cur hg a m c news hl hnews h1 hroom hfit
   rw [hr] at hr2
   injection hr2 with e1 e2
   exact .inl (by rw [e1];rfl)
  ·have holds:∀ j u,xs[j]?=some u→w.cell? ((⟨g,0,none⟩:Addr).add j)=some u:=hown.cells (g:=g) rfl
   obtain ⟨v2,w2,hr2,ho2,-⟩:=run_append_arg_grows (P:=P) w t ty e i z i.size bytes ht hi hz rfl hby hzs hsz ⟨g,0,none⟩ n cap xs hown.1 holds a m c news hl hnews (by omega) h63 hbytes
   rw [hr] at hr2
   injection hr2 with e1 e2
   subst e1
   rcases ho2.2 with ⟨e1,h0⟩ | ⟨g',cap',cur',e1,hb,-⟩
   ·omega
   ·exact .inr ⟨g',by rw [e1];rfl,hb⟩
theorem step_app {P:Program} {ops:Array Oper} {o:Oper} {a:Go.Act} {w:World} {K:Go.Act→World→Prop} {Q:Exit→Go.Act→World→Prop} {E:Prop}
  (hg:o.guard=none) (s x:Operand) (t:TypeId) (hop:o.op=Op.call { callee:=Callee.builtin Builtin.append,args:=#[s,x],argTypes:=#[t,t] })
  (v vx:Value) (hs:a.eval s=v) (hx:a.eval x=vx) (v':Value) (w':World) (hr:(Builtin.append_ #[t,t] o.type #[v,vx]).run P w=.ok v' w') (hK:K (a.put o.dst v') w') :
  if Region.wanted o (yielded ops a.tmps)=true then Oper.wp P o a w K Q else E:=by
 have hw:Region.wanted o (yielded ops a.tmps)=true:=by simp [Region.wanted,hg]
 rw [if_pos hw]
 unfold Oper.wp
 simp [execOp,hop,resolve,invoke,builtin,hs,hx,hr,Result.andThen]
 exact hK
theorem wpList_app {P:Program} {ops:Array Oper} {rest:List Oper} {o:Oper} {a:Go.Act} {w:World} {Q:Exit→Go.Act→World→Prop} (hgd:o.guard=none) (s x:Operand) (t:TypeId)
  (hop:o.op=Op.call { callee:=Callee.builtin Builtin.append,args:=#[s,x],argTypes:=#[t,t] })
  (v vx:Value) (hs:a.eval s=v) (hx:a.eval x=vx) (v':Value) (w':World) (hr:(Builtin.append_ #[t,t] o.type #[v,vx]).run P w=.ok v' w') (h:wpList P ops Q rest (a.put o.dst v') w') :
  wpList P ops Q (o :: rest) a w :=
 wpList_plain hgd fun _ hK=>by
  unfold Oper.wp
  simp [execOp,hop,resolve,invoke,builtin,hs,hx,hr,Result.andThen]
  exact hK _ _ h
end
section
open Go.RowKit
theorem Tryz.infoPair:(Tryz.prog.info? 301).map (fun i=>(i.zero,i.size,i.bytes))=some (some (.agg #[.int .i64 0,.int .i64 0,.string ⟨#[]⟩,.int .i64 0,.int .i64 0,.string ⟨#[]⟩,.bool false]),7,72):=by kernel_rfl
theorem news_cells (W:World) (l:List Value) (t:TypeId):∀ j u,l[j]?=some u→(W.alloc (.cells l.toArray t)).cell? ((⟨W.heap.size,0,none⟩:Addr).add j)=some u:=by
 intro j u h
 rw [Addr.add_lit,Nat.zero_add,cell_of (MapKept.heap_alloc W _).1]
 simpa using h
theorem key_is (v:V) (b:Bool) (h:keyB v=b) (w:World):Calls Tryz.prog 280 #[v.agg] w fun e w'=>e=.returned (.bool b)∧Bl w w':=by
 subst h;exact key_any v w
theorem DictIs.blm {w w1:World} {db mb:Nat} {sl:Value} {rows:List Prow} {d:Row} (hd:DictIs w db mb sl rows d) (h:Bl w w1):DictIs w1 db mb sl rows d:=hd.bl fun b hb=>h.at (hd.lt b hb)
theorem DictIs.lenM {w:World} {db mb:Nat} {sl:Value} {rows:List Prow} {d:Row} (hd:DictIs w db mb sl rows d) (rt:TypeId) (W:World) (hW:W.heap[mb]?=w.heap[mb]?) :
  (Builtin.len_ #[222] rt #[.map (some mb)]).run Tryz.prog W=.ok (.int .i64 d.length) W:=by
 obtain ⟨es,c,at_,hm,he,-,hl,-⟩:=hd.map
 have h1:=he.length
 rw [Array.length_toList] at h1
 rw [run_lenMap Tryz.underlying222 (hW.trans hm),h1,hl]
theorem dput_bad (w:World) (db mb:Nat) (sl:Value) (rows:List Prow) (d:Row) (hd:DictIs w db mb sl rows d) (k x:V) (h:get d k=none) (hk:keyB k=false) :
  Calls Tryz.prog 234 #[.pointer (some ⟨db,0,none⟩),k.agg,x.agg] w fun e w'=>e=.returned (.bool false)∧Bl w w':=by
 obtain ⟨f1,f2,-,-,f3,f4⟩:=hd.head
 have hpn:pos rows k=none:=by
  have:=pos_get hd.live k
  rw [h] at this
  simpa using this
 have lk:∀ n,(Instr.lookup 222 (.map (some mb)) k.agg true).run Tryz.prog (((w.alloc (.cells k.ca 23)).alloc (.cells x.ca 23)).drewN n)=.ok (.tuple #[.int .i64 0,.bool false]) (((w.alloc (.cells k.ca 23)).alloc (.cells x.ca 23)).drewN n):=by
  intro n
  rw [hd.look k _ (show (((w.alloc _).alloc _).drewN n).heap[mb]?=_ from (Below.heap_alloc _ _ _ (by rw [zL];omega)).trans (Below.heap_alloc _ _ _ f4)),hpn]
  rfl
 have kc:=fun w=>key_is k false hk w
 clear hd hpn h hk
 go_enter Tryz.func234,Tryz.ntmps234
 go_wp2
 go_quiet (fail)
 have hb0:Bl w (((w.alloc (.cells k.ca 23)).alloc (.cells x.ca 23)).drewN nq):=by (repeat (first | exact qA _ | assumption | refine qB ?_ _ | refine qC ?_ | refine qD ?_ _ | refine qE ?_ _ (by simp<;>omega) _))
 go_wp2_with (go_at_call 280;((with_reducible refine (kc _).mono ?_);rintro e W1 ⟨rfl,hb1⟩))
 go_ret
 exact ⟨rfl,hb0.trans hb1⟩
set_option maxRecDepth 100000 in
theorem dput_full (w:World) (db mb:Nat) (sl:Value) (rows:List Prow) (d:Row) (hd:DictIs w db mb sl rows d) (k x:V) (h:get d k=none) (hk:keyB k=true) (hl:4096≤d.length) :
  Calls Tryz.prog 234 #[.pointer (some ⟨db,0,none⟩),k.agg,x.agg] w fun e w'=>e=.returned (.bool false)∧Bl w w':=by
 obtain ⟨f1,f2,-,-,f3,f4⟩:=hd.head
 have hpn:pos rows k=none:=by
  have:=pos_get hd.live k
  rw [h] at this
  simpa using this
 have lk:∀ n,(Instr.lookup 222 (.map (some mb)) k.agg true).run Tryz.prog (((w.alloc (.cells k.ca 23)).alloc (.cells x.ca 23)).drewN n)=.ok (.tuple #[.int .i64 0,.bool false]) (((w.alloc (.cells k.ca 23)).alloc (.cells x.ca 23)).drewN n):=by
  intro n
  rw [hd.look k _ (show (((w.alloc _).alloc _).drewN n).heap[mb]?=_ from (Below.heap_alloc _ _ _ (by rw [zL];omega)).trans (Below.heap_alloc _ _ _ f4)),hpn]
  rfl
 have kc:=fun w=>key_is k true hk w
 have HD:=zH hd
 clear hd hpn h hk
 go_enter Tryz.func234,Tryz.ntmps234
 go_wp2
 go_quiet (fail)
 have hb0:Bl w (((w.alloc (.cells k.ca 23)).alloc (.cells x.ca 23)).drewN nq):=by (repeat (first | exact qA _ | assumption | refine qB ?_ _ | refine qC ?_ | refine qD ?_ _ | refine qE ?_ _ (by simp<;>omega) _))
 go_wp2_with fail
 refine (kc _).mono ?_
 rintro e W1 ⟨rfl,hb1⟩
 have hb2:=hb0.trans hb1
 have hd2:=HD.out.blm hb2
 obtain ⟨g1,g2,-,-,g3,g4⟩:=hd2.head
 have ln:=fun rt=>hd2.lenM rt W1 rfl
 have HB:=zH hb2
 have t1:decide ((4096:Int)≤(d.length:Int))=true:=decide_eq_true (by omega)
 clear hb0 hb1 hb2 hd2 kc lk hl
 go_wp2
 go_ret
 exact ⟨rfl,HB.out⟩
theorem DStep.new {w W2 W3 w4:World} {db mb:Nat} {n0:Option Addr} {c0:Nat} {rows:List Prow} {d:Row} {k x:V} (hd:DictIs w db mb (.slice n0 rows.length c0) rows d) (hb:Bl w W2) (hpn:pos rows k=none)
  (hl:d.length < 4096) (hs:rows.length≤2 * d.length + 8) {es':Array MapEntry} {c':Nat} {at_:List (V × Nat)} (hW3:W3=setMap W2.drew mb es' c')
  (he':Ents V.agg (fun i:Nat=>Value.int .i64 i) es'.toList (put at_ k rows.length)) (hn:(at_.map (·.1)).Nodup) (hln:at_.length=d.length) (hp:∀ k,get at_ k=pos rows k)
  {g' cap':Nat} (hown:w4.ownsRow 0 301 7 (.slice (some ⟨g',0,none⟩) (rows.length + 1) cap') (rows.length + 1) (rows.flatMap pcs++pcs (k,x,false)))
  {o:Obj} (hgrow:(W3.drew.alloc o).grownBy w4 (Value.slice n0 rows.length c0).ownBlock)
  (hblk:(Value.slice (some ⟨g',0,none⟩) (rows.length + 1) cap').ownBlock=(Value.slice n0 rows.length c0).ownBlock∨∃ g,(Value.slice (some ⟨g',0,none⟩) (rows.length + 1) cap').ownBlock=some g∧(W3.drew.alloc o).heap.size≤g) :
  DStep w db mb (.slice n0 rows.length c0) (put d k x) (w4.setCell ⟨db,1,none⟩ (.slice (some ⟨g',0,none⟩) (rows.length + 1) cap')):=by
 have hd2:=hd.blm hb
 obtain ⟨n1,n2,n3⟩:=hd2.ne
 have hlt:=hd.lt
 have hdb:db < w.heap.size:=hlt db (.inl rfl)
 have hmb:mb < w.heap.size:=hlt mb (.inr (.inl rfl))
 have hs3:W3.heap.size=W2.heap.size:=by rw [hW3];exact setMap_size _ _ _ _
 have hsz:=hb.sz
 have hoth:∀ b,b≠mb→W3.heap[b]?=W2.heap[b]?:=fun b hb=>by rw [hW3];exact setMap_other hb _ _
 have hm3:W3.heap[mb]?=some (.map es' c'):=by rw [hW3];exact setMap_at (w:=W2.drew) (show mb < W2.heap.size by omega) _ _
 have h4:∀ b,b < W3.heap.size→(Value.slice n0 rows.length c0).ownBlock≠some b→w4.heap[b]?=W3.heap[b]?:=fun b h1 h2 =>
  (hgrow.block b (by rw [zL];show b < W3.heap.size + 1;omega) (fun e=>h2 e.symm)).trans (Below.heap_alloc W3.drew _ _ h1)
 have h5:∀ b,b≠db→(w4.setCell ⟨db,1,none⟩ (.slice (some ⟨g',0,none⟩) (rows.length + 1) cap')).heap[b]?=w4.heap[b]?:=fun b h=>Below.heap_setCell _ _ _ _ h
 have hb4:w4.heap[db]?=some (.cells #[.map (some mb),.slice n0 rows.length c0] 225 (0,0)):=(h4 db (by omega) n2).trans ((hoth db n1).trans hd2.blk)
 have hgd:g'≠db:=by
  rintro rfl
  rcases hblk with e | ⟨g,e,hg⟩
  ·exact n2 e.symm
  ·cases e;rw [zL] at hg;have:W3.heap.size + 1≤g':=hg;omega
 obtain ⟨s1,s2⟩:=new_row (x:=x) hpn
 have hget:(get d k).isSome=false:=by rw [← pos_get hd.live,hpn];rfl
 have hsz4:W3.heap.size + 1≤w4.heap.size:=by have:=hgrow.size;rw [zL] at this;exact this
 refine ⟨.slice (some ⟨g',0,none⟩) (rows.length + 1) cap',rows++[(k,x,false)],⟨?_,⟨es',c',put at_ k rows.length,?_,he',nodup_put hn _ _,?_,?_⟩,?_,?_,nodup_put hd.nd _ _,?_⟩,?_⟩
 ·rw [heap_setCell_same w4 db 1 _ _ _ hb4];rfl
 ·rw [h5 _ n1.symm,h4 _ (by omega) n3];exact hm3
 ·rw [length_put,length_put,hp,hpn,hget];simp [hln]
 ·intro k';rw [get_put,s2,hp]
 ·rw [List.length_append,List.length_singleton,List.flatMap_append,List.flatMap_cons,List.flatMap_nil,List.append_nil]
  refine ⟨hown.1,?_⟩
  rcases hown.2 with ⟨e,-⟩ | ⟨g,cap,cur,e,h0,hg,h6⟩
  ·cases e
  ·exact .inr ⟨g,cap,cur,e,h0,by rw [h5 _ (by cases e;exact hgd)];exact hg,h6⟩
 ·rw [s1,hd.live]
 ·rw [List.length_append,length_put,hget];simp;omega
 ·have hwt:W3.os=W2.os∧W3.tape=W2.tape∧W3.output=W2.output:=by rw [hW3];exact ⟨rfl,rfl,rfl⟩
  refine ⟨hgrow.os.trans (hwt.1.trans hb.os),hgrow.tape.trans (hwt.2.1.trans hb.tape),hgrow.output.trans (hwt.2.2.trans hb.output),by rw [World.size_setCell];omega,fun b h1 h2=>?_,?_,?_⟩
  ·rw [h5 _ (fun e=>h2 (.inl e)),h4 _ (by omega) (fun e=>h2 (.inr (.inr e))),hoth _ (fun e=>h2 (.inr (.inl e)))]
   exact hb.at h1
  ·rintro b (rfl | rfl | h)
   ·exact .inl (.inl rfl)
   ·exact .inl (.inr (.inl rfl))
   ·rcases hblk with e | ⟨g,e,hg⟩
    ·exact .inl (.inr (.inr (e.symm.trans h)))
    ·rw [h] at e;cases e;rw [zL] at hg;have:W3.heap.size + 1≤b:=hg;exact .inr (by omega)
  ·rintro b (rfl | rfl | h)
   ·rw [World.size_setCell];omega
   ·rw [World.size_setCell];omega
   ·rw [World.size_setCell];exact (hown.lt b h).2
set_option maxRecDepth 100000 in
set_option maxHeartbeats 4000000 in
theorem dput_new (w:World) (db mb:Nat) (sl:Value) (rows:List Prow) (d:Row) (hd:DictIs w db mb sl rows d) (k x:V) (h:get d k=none) (hk:keyB k=true) (hl:d.length < 4096) (hs:rows.length≤2 * d.length + 8) :
  Calls Tryz.prog 234 #[.pointer (some ⟨db,0,none⟩),k.agg,x.agg] w fun e w'=>e=.returned (.bool true)∧DStep w db mb sl (put d k x) w':=by
 obtain ⟨f1,f2,-,-,f3,f4⟩:=hd.head
 have hpn:pos rows k=none:=by
  have:=pos_get hd.live k
  rw [h] at this
  simpa using this
 have lk:∀ n,(Instr.lookup 222 (.map (some mb)) k.agg true).run Tryz.prog (((w.alloc (.cells k.ca 23)).alloc (.cells x.ca 23)).drewN n)=.ok (.tuple #[.int .i64 0,.bool false]) (((w.alloc (.cells k.ca 23)).alloc (.cells x.ca 23)).drewN n):=by
  intro n
  rw [hd.look k _ (show (((w.alloc _).alloc _).drewN n).heap[mb]?=_ from (Below.heap_alloc _ _ _ (by rw [zL];omega)).trans (Below.heap_alloc _ _ _ f4)),hpn]
  rfl
 have kc:=fun w=>key_is k true hk w
 obtain ⟨n0,c0,hsl⟩:∃ a c,sl=.slice a rows.length c:=by
  rcases hd.own.2 with ⟨e,h0⟩ | ⟨g,cap,cur,e,-⟩
  ·exact ⟨none,0,by rw [e,h0]⟩
  ·exact ⟨_,_,e⟩
 have HSL:=zH hsl
 subst hsl
 have HD:=zH hd
 have HPN:=zH hpn
 have HH:=zH h
 clear hd hpn h hk
 go_enter Tryz.func234,Tryz.ntmps234
 go_wp2
 go_quiet (fail)
 go_wp2_with fail
 refine named (p:=fun W=>Calls _ _ _ W _) (fun W hW=>?_)
 have hb0:Bl w W:=by rw [hW];(repeat (first | exact qA _ | assumption | refine qB ?_ _ | refine qC ?_ | refine qD ?_ _ | refine qE ?_ _ (by simp<;>omega) _))
 have kb:W.heap[w.heap.size]?=some (.cells k.ca 23):=by
  rw [hW]
  exact (Below.heap_alloc _ _ _ (by rw [zL];omega)).trans (MapKept.heap_alloc w _).1
 have xb:W.heap[w.heap.size + 1]?=some (.cells x.ca 23):=by
  rw [hW]
  have:=(MapKept.heap_alloc (w.alloc (.cells k.ca 23)) (.cells x.ca 23)).1
  rw [zL] at this
  exact this
 have hlt:=(zN xb).1
 clear hW lk f1 f2
 refine (kc _).mono ?_
 rintro e W1 ⟨rfl,hb1⟩
 have hb2:=hb0.trans hb1
 have kb1:=(hb1.at (zN kb).1).trans kb
 have xb1:=(hb1.at (zN xb).1).trans xb
 have hd2:=HD.out.blm hb2
 obtain ⟨g1,g2,-,-,g3,g4⟩:=hd2.head
 have ln:=fun rt n=>hd2.lenM rt (W1.drewN n) rfl
 have k0:W1.cell? ⟨w.heap.size,0,none⟩=some (.int .i64 k.k):=by rw [cell_of kb1];rfl
 have k1:W1.cell? ⟨w.heap.size,1,none⟩=some (.int .i64 k.n):=by rw [cell_of kb1];rfl
 have k2:W1.cell? ⟨w.heap.size,2,none⟩=some (.string (bs k.s)):=by rw [cell_of kb1];rfl
 have x0:W1.cell? ⟨w.heap.size + 1,0,none⟩=some (.int .i64 x.k):=by rw [cell_of xb1];rfl
 have x1:W1.cell? ⟨w.heap.size + 1,1,none⟩=some (.int .i64 x.n):=by rw [cell_of xb1];rfl
 have x2:W1.cell? ⟨w.heap.size + 1,2,none⟩=some (.string (bs x.s)):=by rw [cell_of xb1];rfl
 have HB:=zH hb2
 have HX2:=zH (show w.heap.size + 1 < W1.heap.size from Nat.lt_of_lt_of_le hlt hb1.sz)
 have HLS:=zH (And.intro hl hs)
 have t1:decide ((4096:Int)≤(d.length:Int))=false:=decide_eq_false (by omega)
 have t2:decide ((2 * (d.length:Int) + 8) < (rows.length:Int))=false:=decide_eq_false (by omega)
 have r1:IntKind.i64.wrap (2 * (d.length:Int))=2 * (d.length:Int):=IntWalk.i64_in _ (by omega)
 have r2:IntKind.i64.wrap (2 * (d.length:Int) + 8)=2 * (d.length:Int) + 8:=IntWalk.i64_in _ (by omega)
 have ln0:=fun rt=>hd2.lenM rt W1 rfl
 clear hb0 hb1 hb2 hd2 kb xb kb1 xb1 hlt kc hs hl
 go_wp2
 clear t1 ln0
 go_quiet (fail)
 go_wp2
 refine named (p:=fun W=>Code.wp _ _ _ _ W) (fun W2 hW2=>?_)
 have hb2:Bl w W2:=by rw [hW2];exact HB.out.trans (Bl.drn _ _)
 have y0:W2.cell? ⟨w.heap.size,0,none⟩=some (.int .i64 k.k):=by rw [hW2];exact k0
 have y1:W2.cell? ⟨w.heap.size,1,none⟩=some (.int .i64 k.n):=by rw [hW2];exact k1
 have y2:W2.cell? ⟨w.heap.size,2,none⟩=some (.string (bs k.s)):=by rw [hW2];exact k2
 have z0:W2.cell? ⟨w.heap.size + 1,0,none⟩=some (.int .i64 x.k):=by rw [hW2];exact x0
 have z1:W2.cell? ⟨w.heap.size + 1,1,none⟩=some (.int .i64 x.n):=by rw [hW2];exact x1
 have z2:W2.cell? ⟨w.heap.size + 1,2,none⟩=some (.string (bs x.s)):=by rw [hW2];exact x2
 have hlt2:w.heap.size + 1 < W2.heap.size:=by rw [hW2];exact HX2.out
 clear k0 k1 k2 x0 x1 x2 g1 g2 g3 g4 hW2 HB ln t2 r1 r2
 have hd2:=HD.out.blm hb2
 obtain ⟨g1,g2,-,-,g3,g4⟩:=hd2.head
 obtain ⟨es,c,at_,hm,he,hn,hln,hp⟩:=hd2.map
 obtain ⟨es',c',hput,he'⟩:=run_put Tryz.underlying222 key_V he k rows.length c
 have mu:(Instr.mapUpdate 222 (.map (some mb)) k.agg (.int .i64 rows.length)).run Tryz.prog W2.drew=.ok () (setMap W2.drew mb es' c'):=hput W2.drew mb hm
 have HB:=zH hb2
 have HE:=zH (And.intro he' (And.intro hn (And.intro hln hp)))
 have HL2:=zH hlt2
 have HY:=zH (And.intro y0 (And.intro y1 y2))
 have HZ:=zH (And.intro z0 (And.intro z1 z2))
 clear hb2 hd2 hm he hn hln hp hput he' hlt2
 go_region
 all_goals go_wp2
 refine named (p:=fun W=>Code.wp _ _ _ _ W) (fun W3 hW3=>?_)
 obtain ⟨y0',y1',y2'⟩:=HY.out
 obtain ⟨z0',z1',z2'⟩:=HZ.out
 have hd2:=HD.out.blm HB.out
 obtain ⟨n1,n2,n3⟩:=hd2.ne
 have hoth:∀ b,b≠mb→W3.heap[b]?=W2.heap[b]?:=fun b hb=>by rw [hW3];exact setMap_other hb _ _
 have hm3:W3.heap[mb]?=some (.map es' c'):=by rw [hW3];exact setMap_at g4 _ _
 have hs3:W3.heap.size=W2.heap.size:=by rw [hW3];exact setMap_size _ _ _ _
 have e1:w.heap.size≠mb:=by omega
 have e2:w.heap.size + 1≠mb:=by omega
 have p0:W3.cell? ⟨w.heap.size,0,none⟩=some (.int .i64 k.k):=(World.cell?_of_block (w:=W2) (a:=⟨w.heap.size,0,none⟩) (hoth _ e1)).trans y0'
 have p1:W3.cell? ⟨w.heap.size,1,none⟩=some (.int .i64 k.n):=(World.cell?_of_block (w:=W2) (a:=⟨w.heap.size,1,none⟩) (hoth _ e1)).trans y1'
 have p2:W3.cell? ⟨w.heap.size,2,none⟩=some (.string (bs k.s)):=(World.cell?_of_block (w:=W2) (a:=⟨w.heap.size,2,none⟩) (hoth _ e1)).trans y2'
 have p3:W3.cell? ⟨w.heap.size + 1,0,none⟩=some (.int .i64 x.k):=(World.cell?_of_block (w:=W2) (a:=⟨w.heap.size + 1,0,none⟩) (hoth _ e2)).trans z0'
 have p4:W3.cell? ⟨w.heap.size + 1,1,none⟩=some (.int .i64 x.n):=(World.cell?_of_block (w:=W2) (a:=⟨w.heap.size + 1,1,none⟩) (hoth _ e2)).trans z1'
 have p5:W3.cell? ⟨w.heap.size + 1,2,none⟩=some (.string (bs x.s)):=(World.cell?_of_block (w:=W2) (a:=⟨w.heap.size + 1,2,none⟩) (hoth _ e2)).trans z2'
 have q1:W3.cell? ⟨db,1,none⟩=some (.slice n0 rows.length c0):=(World.cell?_of_block (w:=W2) (a:=⟨db,1,none⟩) (hoth _ n1)).trans g2
 have hrow:W3.ownsRow 0 301 7 (.slice n0 rows.length c0) rows.length (rows.flatMap pcs):=by
  obtain ⟨h1,h2⟩:=hd2.own
  refine ⟨h1,?_⟩
  rcases h2 with h2 | ⟨g,cap,cur,e,h3,h4,h5⟩
  ·exact .inl h2
  ·exact .inr ⟨g,cap,cur,e,h3,(hoth g (fun e'=>n3 (by rw [e,e'];rfl))).trans h4,h5⟩
 obtain ⟨i0,hi,hz0,hz1,hz2⟩:=info_parts Tryz.infoPair
 have hfew:=hd2.few.1
 obtain ⟨v',w4,hap,hown,hgrow,hblk⟩:=run_app (P:=Tryz.prog) (W3.drew.alloc (.cells (pcs (k,x,false)).toArray 301)) 223 223 301 i0 _ 7 72 Tryz.underlying223 hi hz0 hz1 hz2 rfl (by decide) _ _ _ (hrow.alloc _) ⟨W3.heap.size,0,none⟩ 1 1 (pcs (k,x,false)) rfl
  (news_cells W3.drew _ _) (by simp [pcs,Value.oneCell']) (by unfold maxLen;omega) (by omega)
 obtain ⟨g',cap',rfl⟩:=ownsRow_succ hown
 have ap:(Builtin.append_ #[223,223] 223 #[.slice n0 rows.length c0,.slice (some ⟨W3.heap.size,0,none⟩) 1 1]).run Tryz.prog (W3.alloc (.cells #[.int .i64 k.k,.int .i64 k.n,.string (bs k.s),.int .i64 x.k,.int .i64 x.n,.string (bs x.s),.bool false] 301)).drew=.ok (.slice (some ⟨g',0,none⟩) (rows.length + 1) cap') w4:=hap
 have hb4:w4.heap[db]?=some (.cells #[.map (some mb),.slice n0 rows.length c0] 225 (0,0)):=by
  rw [hgrow.block db (by rw [zL];show db < W3.heap.size + 1;omega) (fun e=>n2 e.symm),show (W3.drew.alloc (.cells (pcs (k,x,false)).toArray 301)).heap[db]?=W3.heap[db]? from Below.heap_alloc W3.drew _ _ (show db < W3.heap.size by omega)]
  exact (hoth db n1).trans hd2.blk
 have s1:w4.cell? ⟨db,1,none⟩=some (.slice n0 rows.length c0):=by rw [cell_of hb4];rfl
 have s2:w4.frozen? ⟨db,1,none⟩=false:=by simp [World.frozen?,hb4]
 have HO:=zH hown
 have HG:=zH hgrow
 have HK:=zH hblk
 have HW3:=zH hW3
 have HS3:=zH hs3
 have b1:db < W3.heap.size:=by omega
 have b3:w.heap.size + 1 < W3.heap.size:=by rw [hs3];exact HL2.out
 have b2:w.heap.size < W3.heap.size:=by omega
 clear hown hgrow hblk hap hb4 hrow hi hz0 hz1 hz2 hW3 hoth hm3 y0' y1' y2' z0' z1' z2' e1 e2 hd2 hs3
 go_region_law (refine step_app rfl (.tmp 69) (.tmp 73) 223 rfl _ _ (by simp [Go.Act.eval]) (by simp [Go.Act.eval]) _ _ ap ?_)
 all_goals
  go_wp2
  go_ret
  exact ⟨rfl,DStep.new HD.out HB.out HPN.out HLS.out.1 HLS.out.2 HW3.out HE.out.1 HE.out.2.1 HE.out.2.2.1 HE.out.2.2.2 HO.out HG.out HK.out⟩
end
section
open Go.RowKit
abbrev pagg (p:Prow):Value:=.agg #[.int .i64 p.1.k,.int .i64 p.1.n,.string (bs p.1.s),.int .i64 p.2.1.k,.int .i64 p.2.1.n,.string (bs p.2.1.s),.bool p.2.2]
theorem packf_any (p:Prow) (w:World):Calls Tryz.prog 441 #[pagg p] w fun e w'=>e=.returned (.bool p.2.2)∧Bl w w':=by
 go_enter Tryz.func441,Tryz.ntmps441
 go_wp2
 go_ret
 exact ⟨rfl,by (repeat (first | exact qA _ | assumption | refine qB ?_ _ | refine qC ?_ | refine qD ?_ _ | refine qE ?_ _ (by simp<;>omega) _))⟩
theorem packf_is (p:Prow) (b:Bool) (h:p.2.2=b) (w:World):Calls Tryz.prog 441 #[pagg p] w fun e w'=>e=.returned (.bool b)∧Bl w w':=by
 subst h;exact packf_any p w
def fg:List Prow→Option Nat
 | []=>none
 | p :: t=>if p.2.2=true then some 0 else (fg t).map (· + 1)
def fgI (rows:List Prow):Int:=match fg rows with | some i=>i | none=>-1
theorem fg_none {rows:List Prow}:fg rows=none↔∀ (i:Nat) (p:Prow),rows[i]?=some p→p.2.2=false:=by
 induction rows with
 | nil=>simp [fg]
 | cons q t ih =>
  by_cases h:q.2.2=true
  ·simp only [fg,h,if_true]
   constructor
   ·intro e;cases e
   ·intro e;have:=e 0 q rfl;rw [h] at this;cases this
  ·simp only [fg,if_neg h,Option.map_eq_none_iff,ih]
   constructor
   ·intro e i p hp
    cases i with
    | zero=>simp at hp;subst hp;simpa using h
    | succ i=>exact e i p (by simpa using hp)
   ·intro e i p hp;exact e (i + 1) p (by simpa using hp)
theorem fg_some {rows:List Prow} {i:Nat}:fg rows=some i↔(∃ p,rows[i]?=some p∧p.2.2=true)∧∀ (j:Nat) (p:Prow),j < i→rows[j]?=some p→p.2.2=false:=by
 induction rows generalizing i with
 | nil=>simp [fg]
 | cons q t ih =>
  by_cases h:q.2.2=true
  ·simp only [fg,h,if_true,Option.some.injEq]
   constructor
   ·rintro rfl;exact ⟨⟨q,rfl,h⟩,fun j p hj=>by omega⟩
   ·rintro ⟨-,h2⟩
    cases i with
    | zero=>rfl
    | succ i=>have:=h2 0 q (by omega) rfl;rw [h] at this;cases this
  ·simp only [fg,if_neg h]
   cases i with
   | zero =>
    constructor
    ·intro e;cases hq:fg t<;>simp [hq] at e
    ·rintro ⟨⟨p,hp,h1⟩,-⟩;simp at hp;subst hp;exact absurd h1 h
   | succ i =>
    have:=ih (i:=i)
    constructor
    ·intro e
     have e':fg t=some i:=by
      cases hq:fg t with
      | none=>rw [hq] at e;cases e
      | some j=>rw [hq] at e;simp at e;rw [e]
     obtain ⟨⟨p,hp,h1⟩,h2⟩:=this.1 e'
     refine ⟨⟨p,by simpa using hp,h1⟩,fun j p' hj hp'=>?_⟩
     cases j with
     | zero=>simp at hp';subst hp';simpa using h
     | succ j=>exact h2 j p' (by omega) (by simpa using hp')
    ·rintro ⟨⟨p,hp,h1⟩,h2⟩
     rw [this.2 ⟨⟨p,by simpa using hp,h1⟩,fun j p' hj hp'=>h2 (j + 1) p' (by omega) (by simpa using hp')⟩]
     rfl
set_option maxRecDepth 100000 in
set_option maxHeartbeats 2000000 in
theorem indexf_any (w:World) (rb cp:Nat) (rows:List Prow) (hrow:w.ownsRow 0 301 7 (.slice (some ⟨rb,0,none⟩) rows.length cp) rows.length (rows.flatMap pcs)) (hfew:rows.length≤8201) :
  Calls Tryz.prog 482 #[.slice (some ⟨rb,0,none⟩) rows.length cp,.func (.func 441) #[] #[]] w fun e w'=>e=.returned (.int .i64 (fgI rows))∧Bl w w':=by
 have hrb:rb < w.heap.size:=(hrow.lt rb rfl).2
 have hc:∀ k p,rows[k]?=some p→∀ t,t < 7→w.cell? ⟨rb,k * 7 + t,none⟩=(pcs p)[t]?:=fun k p hp t ht=>by
  have hlt:k < rows.length:=(List.getElem?_eq_some_iff.1 hp).1
  rw [hrow.cellAt _ (by omega),pcs_at ht hp]
 have HC:=zH hc
 have LN:=zH hfew
 obtain ⟨n,hn⟩:∃ n,n=rows.length:=⟨_,rfl⟩
 rw [← hn] at hfew ⊢
 have HN:=zH hn
 clear hrow hc hn
 go_enter Tryz.func482,Tryz.ntmps482
 go_wp2
 go_loopw [5,8] (fun i5 i wr=>∃ k:Nat,k≤n∧i=.int .i64 k∧(∀ j p,j < k→rows[j]?=some p→p.2.2=false)∧Bl w wr) (fun _ i _=>n - (intOf i).toNat)
 case atStart=>exact ⟨0,Nat.zero_le _,rfl,fun j p h=>by omega,Bl.refl _⟩
 case round =>
  obtain ⟨k,hk,rfl,hno,hb⟩:=hrel
  have HNO:=zH hno
  clear hno
  by_cases hlt:k < n
  ·obtain ⟨p,hp⟩:∃ p,rows[k]?=some p:=⟨_,List.getElem?_eq_getElem (by rw [← HN.out];exact hlt)⟩
   have q:∀ t,t < 7→wr.cell? ⟨rb,k * 7 + t,none⟩=(pcs p)[t]?:=fun t ht=>(World.cell?_of_block (w:=w) (a:=⟨rb,k * 7 + t,none⟩) (hb.at hrb)).trans (HC.out k p hp t ht)
   have q0:wr.cell? ⟨rb,k * 7,none⟩=some (.int .i64 p.1.k):=q 0 (by decide)
   have q1:wr.cell? ⟨rb,k * 7 + 1,none⟩=some (.int .i64 p.1.n):=q 1 (by decide)
   have q2:wr.cell? ⟨rb,k * 7 + 2,none⟩=some (.string (bs p.1.s)):=q 2 (by decide)
   have q3:wr.cell? ⟨rb,k * 7 + 3,none⟩=some (.int .i64 p.2.1.k):=q 3 (by decide)
   have q4:wr.cell? ⟨rb,k * 7 + 4,none⟩=some (.int .i64 p.2.1.n):=q 4 (by decide)
   have q5:wr.cell? ⟨rb,k * 7 + 5,none⟩=some (.string (bs p.2.1.s)):=q 5 (by decide)
   have q6:wr.cell? ⟨rb,k * 7 + 6,none⟩=some (.bool p.2.2):=q 6 (by decide)
   have HP:=zH hp
   have HB:=zH hb
   clear q hp hb
   have hsz:wr.heap.size=wr.heap.size:=rfl
   cases hg:p.2.2 with
   | false =>
    have cf:=fun w=>packf_is p false hg w
    rw [hg] at q6
    have HG:=zH hg
    clear hg
    go_wp2_with fail
    rw [show (Value.agg #[.int .i64 p.1.k,.int .i64 p.1.n,.string (bs p.1.s),.int .i64 p.2.1.k,.int .i64 p.2.1.n,.string (bs p.2.1.s),.bool false])=pagg p by rw [← HG.out]]
    refine (cf _).mono ?_
    rintro e W1 ⟨rfl,hb1⟩
    have HB1:=zH (HB.out.trans hb1)
    clear hb1 cf
    go_wp2
    go_roundw
    case rel=>exact ⟨k + 1,by omega,by go_num,fun j p' hj hp'=>by
     by_cases e:j=k
     ·subst e;rw [HP.out] at hp';cases hp';exact HG.out
     ·exact HNO.out j p' (by omega) hp',HB1.out⟩
    case measure=>simp [intOf];omega
   | true =>
    have cf:=fun w=>packf_is p true hg w
    rw [hg] at q6
    have HG:=zH hg
    clear hg
    go_wp2_with fail
    rw [show (Value.agg #[.int .i64 p.1.k,.int .i64 p.1.n,.string (bs p.1.s),.int .i64 p.2.1.k,.int .i64 p.2.1.n,.string (bs p.2.1.s),.bool true])=pagg p by rw [← HG.out]]
    refine (cf _).mono ?_
    rintro e W1 ⟨rfl,hb1⟩
    have HB1:=zH (HB.out.trans hb1)
    clear hb1 cf
    have HF:=zH (show fgI rows=k by unfold fgI;rw [fg_some.2 ⟨⟨p,HP.out,HG.out⟩,HNO.out⟩])
    go_wp2
    go_ret
    exact ⟨by rw [HF.out];rfl,HB1.out⟩
  ·obtain rfl:k=n:=by omega
   have HF:=zH (show fgI rows=-1 by unfold fgI;rw [fg_none.2 (fun i p hp=>HNO.out i p (by rw [HN.out];exact (List.getElem?_eq_some_iff.1 hp).1) hp)])
   have HB:=zH hb
   clear hb
   go_wp2
   go_ret
   exact ⟨by rw [HF.out];rfl,HB.out⟩
end
section
open Go.RowKit
structure Del (w wr:World) (rb cp n:Nat) (rs:List Prow):Prop where
 len:rs.length=n
 row:wr.ownsRow 0 301 7 (.slice (some ⟨rb,0,none⟩) n cp) n (rs.flatMap pcs)
 st:Step w.heap.size (·=rb) w wr (·=rb)
theorem Del.bl {w wr w1:World} {rb cp n:Nat} {rs:List Prow} (h:Del w wr rb cp n rs) (hb:Bl wr w1):Del w w1 rb cp n rs:=by
 refine ⟨h.len,⟨h.row.1,?_⟩,h.st.bl hb h.st.size⟩
 rcases h.row.2 with e | ⟨g,cap,cur,e,h0,hg,r⟩
 ·exact .inl e
 ·exact .inr ⟨g,cap,cur,e,h0,(hb.at (zN hg).1).trans hg,r⟩
theorem Del.cells {w wr:World} {rb cp n:Nat} {rs:List Prow} (h:Del w wr rb cp n rs) {k:Nat} {p:Prow} (hp:rs[k]?=some p):∀ t,t < 7→wr.cell? ⟨rb,k * 7 + t,none⟩=(pcs p)[t]?:=fun t ht=>by
 have hlt:k < rs.length:=(List.getElem?_eq_some_iff.1 hp).1
 have hl:=h.len
 rw [h.row.cellAt _ (by omega),pcs_at ht hp]
theorem Del.frozen {w wr:World} {rb cp n:Nat} {rs:List Prow} (h:Del w wr rb cp n rs) (o:Nat):wr.frozen? ⟨rb,o,none⟩=false:=h.row.frozenAt o
theorem Del.set {w wr:World} {rb cp n:Nat} {rs:List Prow} (h:Del w wr rb cp n rs) {i:Nat} (hi:i < n) (p:Prow):Del w (setCells wr rb (i * 7) (pcs p)) rb cp n (rs.set i p):=by
 have hl:=h.len
 refine ⟨by rw [List.length_set];exact hl,?_,?_⟩
 ·rw [← over_row (by omega)]
  exact setCells_row _ _ _ _ _ _ _ _ _ h.row
 ·obtain ⟨r1,r2,r3⟩:=setCells_rest (pcs p) wr rb (i * 7)
  exact ⟨r1.trans h.st.os,r2.trans h.st.tape,r3.trans h.st.output,by rw [setCells_size];exact h.st.size,
   fun b h1 h2=>(setCells_other _ _ _ _ _ h2).trans (h.st.block b h1 h2),fun _ e=>.inl e,fun b e=>by rw [setCells_size];exact h.st.lt b e⟩
structure Mid (rows rs:List Prow) (i j:Nat):Prop where
 ahead:rs.take i=packed (rows.take j)
 behind:rs.drop j=rows.drop j
 le:i≤j∧j≤rows.length
 len:rs.length=rows.length
theorem packed_snoc (l:List Prow) (p:Prow):packed (l++[p])=packed l++(if p.2.2=true then [] else [p]):=by
 cases h:p.2.2<;>simp [packed,h]
theorem take_succ_row {rows:List Prow} {j:Nat} {p:Prow} (h:rows[j]?=some p):rows.take (j + 1)=rows.take j++[p]:=by
 rw [List.take_add_one,h];rfl
theorem Mid.start {rows:List Prow} {i:Nat} (h:fg rows=some i):Mid rows rows i (i + 1):=by
 obtain ⟨⟨p,hp,hg⟩,hn⟩:=fg_some.1 h
 refine ⟨?_,rfl,⟨by omega,(List.getElem?_eq_some_iff.1 hp).1⟩,rfl⟩
 rw [take_succ_row hp,packed_snoc,hg,if_pos rfl,List.append_nil]
 refine (List.filter_eq_self.2 fun q hq=>?_).symm
 obtain ⟨j,hj⟩:=List.mem_iff_getElem?.1 hq
 rw [List.getElem?_take] at hj
 split at hj
 ·rename_i hlt
  rw [hn j q hlt hj];rfl
 ·cases hj
theorem Mid.at {rows rs:List Prow} {i j:Nat} (h:Mid rows rs i j) (hj:j < rows.length):rs[j]?=rows[j]?:=by
 have:=congrArg (fun l=>l[0]?) h.behind
 simpa using this
theorem Mid.skip {rows rs:List Prow} {i j:Nat} {p:Prow} (h:Mid rows rs i j) (hp:rows[j]?=some p) (hg:p.2.2=true):Mid rows rs i (j + 1):=by
 have hlt:=(List.getElem?_eq_some_iff.1 hp).1
 refine ⟨by rw [take_succ_row hp,packed_snoc,hg,if_pos rfl,List.append_nil];exact h.ahead,?_,by have:=h.le;omega,h.len⟩
 rw [← List.drop_drop,← List.drop_drop,h.behind]
theorem Mid.keep {rows rs:List Prow} {i j:Nat} {p:Prow} (h:Mid rows rs i j) (hp:rows[j]?=some p) (hg:p.2.2=false):Mid rows (rs.set i p) (i + 1) (j + 1):=by
 have hlt:=(List.getElem?_eq_some_iff.1 hp).1
 have hl:=h.len
 have hle:=h.le
 refine ⟨?_,?_,by omega,by rw [List.length_set];exact hl⟩
 ·rw [take_succ_row hp,packed_snoc,hg,if_neg (by decide),← h.ahead,take_succ_row (p:=p) (by rw [List.getElem?_set_self (by omega)]),List.take_set_of_le (Nat.le_refl _)]
 ·rw [List.drop_set_of_lt (show i < j + 1 by omega),← List.drop_drop,← List.drop_drop,h.behind]
abbrev blank:Prow:=(V.nil,V.nil,false)
theorem zero_one {v:Value} {n:Nat} (h:v∈(Builtin.zeroCells (pcs blank).toArray n).toList):v.oneCell'=true:=by
 rw [Builtin.zeroCells,Array.toList_map,List.mem_map] at h
 obtain ⟨i,-,rfl⟩:=h
 have hs:(pcs blank).toArray.size=7:=rfl
 have hi:i % 7 < 7:=Nat.mod_lt _ (by decide)
 rw [hs]
 generalize i % 7=j at *
 match j,hi with
 | 0,_=>rfl
 | 1,_=>rfl
 | 2,_=>rfl
 | 3,_=>rfl
 | 4,_=>rfl
 | 5,_=>rfl
 | 6,_=>rfl
theorem run_clearPairs (w:World) (rb off n c:Nat) (cur:Array Value) (hb:w.heap[rb]?=some (.cells cur 301 (0,0))) (hf:off + n * 7≤cur.size) (rt:TypeId) :
  ∃ tl,(Builtin.clear_ #[223] rt #[.slice (some ⟨rb,off,none⟩) n c]).run Tryz.prog w=.ok (.tuple #[]) (w.setRow rb (cur.toList.take off++tl).toArray)∧(cur.toList.take off++tl).length=cur.size:=by
 have e0:∀ {t:TypeId} {d:TypeDesc} (h:Tryz.prog.underlying t=some d) (w:World),(underlying t).run Tryz.prog w=.ok d w:=by
  intro t d h w;simp [underlying,go_sem,h]
 have ez:∀ w,(zeroValue 301).run Tryz.prog w=.ok (pagg blank) w:=by intro w;kernel_rfl
 by_cases hn:n=0
 ·subst hn
  refine ⟨cur.toList.drop off,?_,by rw [List.take_append_drop];simp⟩
  rw [List.take_append_drop,Array.toArray_toList,setRow_self w rb cur _ _ hb]
  unfold Builtin.clear_
  simp [go_sem,e0 Tryz.underlying223]
 ·have hlen:(Builtin.zeroCells (pcs blank).toArray n).toList.length=n * 7:=by
   rw [Array.length_toList,size_zeroCells];rfl
  have hcl:cur.toList.length=cur.size:=Array.length_toList
  refine ⟨(Builtin.zeroCells (pcs blank).toArray n).toList++cur.toList.drop (off + n * 7),?_,by rw [List.length_append,List.length_append,hlen,List.length_take,List.length_drop,hcl];omega⟩
  have hst:=run_storeCells_at Tryz.prog rb off 301 (Builtin.zeroCells (pcs blank).toArray n).toList 0 cur w hb (by rw [hlen];omega) (fun v hv=>zero_one hv)
  rw [hlen,Nat.add_zero,List.append_assoc] at hst
  unfold Builtin.clear_
  match n,hn with
  | n + 1,_ =>
   simp only [go_sem]
   simp [go_sem,ez]
   change (((storeCells ⟨rb,off,none⟩ (Builtin.zeroCells (pcs blank).toArray (n + 1)).toList).run _ w).andThen _)=_
   rw [hst]
   rfl
end
section
open Go.RowKit
def Packed (w:World) (rb cp:Nat) (rows:List Prow) (e:Ending) (w':World):Prop :=
 e=.returned (.slice (some ⟨rb,0,none⟩) (packed rows).length cp)∧w'.ownsRow 0 301 7 (.slice (some ⟨rb,0,none⟩) (packed rows).length cp) (packed rows).length ((packed rows).flatMap pcs)∧Step w.heap.size (·=rb) w w' (·=rb)
set_option maxRecDepth 100000 in
set_option maxHeartbeats 8000000 in
theorem deletef_any (w:World) (rb cp:Nat) (rows:List Prow) (hrow:w.ownsRow 0 301 7 (.slice (some ⟨rb,0,none⟩) rows.length cp) rows.length (rows.flatMap pcs)) (hfew:rows.length≤8201) :
  Calls Tryz.prog 440 #[.slice (some ⟨rb,0,none⟩) rows.length cp,.func (.func 441) #[] #[]] w (Packed w rb cp rows):=by
 have hrb:rb < w.heap.size:=(hrow.lt rb rfl).2
 have ci:=fun w h=>indexf_any w rb cp rows h hfew
 have HR:=zH hrow
 cases hf:fg rows with
 | none =>
  have hp:packed rows=rows:=List.filter_eq_self.2 fun p hp=>by
   obtain ⟨i,hi⟩:=List.mem_iff_getElem?.1 hp
   rw [fg_none.1 hf i p hi];rfl
  have hI:fgI rows=-1:=by unfold fgI;rw [hf]
  rw [hI] at ci
  have HP:=zH hp
  have HC:=zH ci
  clear hrow hf hp hI ci
  go_enter Tryz.func440,Tryz.ntmps440
  go_wp2_with fail
  refine (HC.out _ HR.out).mono ?_
  rintro e W1 ⟨rfl,hb1⟩
  have HB:=zH hb1
  clear hb1
  go_wp2
  go_ret
  unfold Packed
  rw [HP.out]
  have:=(Del.bl ⟨rfl,HR.out,Step.refl fun k hk=>by rw [hk];exact hrb⟩ HB.out:Del w W1 rb cp rows.length rows)
  exact ⟨rfl,this.row,this.st⟩
 | some i0 =>
  have hI:fgI rows=i0:=by unfold fgI;rw [hf]
  rw [hI] at ci
  have HC:=zH ci
  have HM:=zH (Mid.start hf)
  have hi0:i0 < rows.length:=by
   obtain ⟨⟨p,hp,-⟩,-⟩:=fg_some.1 hf
   exact (List.getElem?_eq_some_iff.1 hp).1
  have HD:=zH (show Del w w rb cp rows.length rows from ⟨rfl,HR.out,Step.refl fun k hk=>by rw [hk];exact hrb⟩)
  obtain ⟨n,hn⟩:∃ n,n=rows.length:=⟨_,rfl⟩
  rw [← hn] at hfew hi0 HC HR HD ⊢
  have HN:=zH hn
  clear hrow hf hI ci hn
  go_enter Tryz.func440,Tryz.ntmps440
  go_wp2_with fail
  refine (HC.out _ HR.out).mono ?_
  rintro e W1 ⟨rfl,hb1⟩
  have HD1:=zH (HD.out.bl hb1)
  clear hb1
  go_wp2
  go_loopw [5,6,7] (fun vi vj v7 wr=>∃ (i j:Nat) (rs:List Prow),vi=.int .i64 i∧vj=.int .i64 j∧i < j∧j≤n∧Mid rows rs i j∧Del w wr rb cp n rs) (fun _ vj _ _=>n - (intOf vj).toNat)
  case atStart=>exact ⟨i0,i0 + 1,rows,rfl,by go_num,by omega,by omega,HM.out,HD1.out⟩
  case round =>
   obtain ⟨i,j,rs,rfl,rfl,hij,hj,hm,hd⟩:=hrel
   by_cases hlt:j < n
   ·obtain ⟨p,hp⟩:∃ p,rows[j]?=some p:=⟨_,List.getElem?_eq_getElem (by rw [← HN.out];exact hlt)⟩
    have q:=hd.cells (k:=j) (p:=p) (by rw [hm.at (by rw [← HN.out];exact hlt)];exact hp)
    have q0:wr.cell? ⟨rb,j * 7,none⟩=some (.int .i64 p.1.k):=q 0 (by decide)
    have q1:wr.cell? ⟨rb,j * 7 + 1,none⟩=some (.int .i64 p.1.n):=q 1 (by decide)
    have q2:wr.cell? ⟨rb,j * 7 + 2,none⟩=some (.string (bs p.1.s)):=q 2 (by decide)
    have q3:wr.cell? ⟨rb,j * 7 + 3,none⟩=some (.int .i64 p.2.1.k):=q 3 (by decide)
    have q4:wr.cell? ⟨rb,j * 7 + 4,none⟩=some (.int .i64 p.2.1.n):=q 4 (by decide)
    have q5:wr.cell? ⟨rb,j * 7 + 5,none⟩=some (.string (bs p.2.1.s)):=q 5 (by decide)
    have q6:wr.cell? ⟨rb,j * 7 + 6,none⟩=some (.bool p.2.2):=q 6 (by decide)
    have hbl:=(hd.row.lt rb rfl).2
    have HP:=zH hp
    have HD2:=zH hd
    have HM2:=zH hm
    clear q hp hd hm
    cases hg:p.2.2 with
    | false =>
     have cf:=fun w=>packf_is p false hg w
     rw [hg] at q6
     have HG:=zH hg
     clear hg
     go_wp2_with fail
     rw [show (Value.agg #[.int .i64 p.1.k,.int .i64 p.1.n,.string (bs p.1.s),.int .i64 p.2.1.k,.int .i64 p.2.1.n,.string (bs p.2.1.s),.bool false])=pagg p by rw [← HG.out]]
     refine named (p:=fun W=>Calls _ _ _ W _) (fun W hW=>?_)
     have hbw:Bl wr W:=by rw [hW];(repeat (first | exact qA _ | assumption | refine qB ?_ _ | refine qC ?_ | refine qD ?_ _ | refine qE ?_ _ (by simp<;>omega) _))
     have hbox:W.heap[wr.heap.size]?=some (.cells (pcs p).toArray 301):=by
      rw [hW,show pcs p=pcs (p.1,p.2.1,p.2.2) from rfl,HG.out];exact (MapKept.heap_alloc wr _).1
     clear hW
     refine (cf _).mono ?_
     rintro e W2 ⟨rfl,hb2⟩
     have hd2:=HD2.out.bl (hbw.trans hb2)
     have hbox2:=(hb2.at (zN hbox).1).trans hbox
     have b0:W2.cell? ⟨wr.heap.size,0,none⟩=some (.int .i64 p.1.k):=by rw [cell_of hbox2];rfl
     have b1:W2.cell? ⟨wr.heap.size,1,none⟩=some (.int .i64 p.1.n):=by rw [cell_of hbox2];rfl
     have b2:W2.cell? ⟨wr.heap.size,2,none⟩=some (.string (bs p.1.s)):=by rw [cell_of hbox2];rfl
     have b3:W2.cell? ⟨wr.heap.size,3,none⟩=some (.int .i64 p.2.1.k):=by rw [cell_of hbox2];rfl
     have b4:W2.cell? ⟨wr.heap.size,4,none⟩=some (.int .i64 p.2.1.n):=by rw [cell_of hbox2];rfl
     have b5:W2.cell? ⟨wr.heap.size,5,none⟩=some (.string (bs p.2.1.s)):=by rw [cell_of hbox2];rfl
     have b6:W2.cell? ⟨wr.heap.size,6,none⟩=some (.bool p.2.2):=by rw [cell_of hbox2];rfl
     have hil:i < rs.length:=by rw [HD2.out.len];omega
     obtain ⟨p2,hp2⟩:∃ p2,rs[i]?=some p2:=⟨_,List.getElem?_eq_getElem hil⟩
     have r:=hd2.cells hp2
     have r0:W2.cell? ⟨rb,i * 7,none⟩=some (.int .i64 p2.1.k):=r 0 (by decide)
     have r1:W2.cell? ⟨rb,i * 7 + 1,none⟩=some (.int .i64 p2.1.n):=r 1 (by decide)
     have r2:W2.cell? ⟨rb,i * 7 + 2,none⟩=some (.string (bs p2.1.s)):=r 2 (by decide)
     have r3:W2.cell? ⟨rb,i * 7 + 3,none⟩=some (.int .i64 p2.2.1.k):=r 3 (by decide)
     have r4:W2.cell? ⟨rb,i * 7 + 4,none⟩=some (.int .i64 p2.2.1.n):=r 4 (by decide)
     have r5:W2.cell? ⟨rb,i * 7 + 5,none⟩=some (.string (bs p2.2.1.s)):=r 5 (by decide)
     have r6:W2.cell? ⟨rb,i * 7 + 6,none⟩=some (.bool p2.2.2):=r 6 (by decide)
     have fz:=hd2.frozen
     have HD3:=zH (hd2.set (i:=i) (by omega) p)
     have hin:i < n:=by omega
     clear hd2 hbox hbox2 r hp2 hb2 hbw cf hil
     rw [HG.out] at b6
     go_wp2
     go_roundw
     case rel =>
      (repeat apply Exists.intro)
      exact ⟨⟨i + 1,j + 1,rs.set i p,by go_num,by go_num,by omega,by omega,HM2.out.keep HP.out HG.out,by
       have h:=HD3.out
       rw [show pcs p=pcs (p.1,p.2.1,p.2.2) from rfl,HG.out] at h
       exact h⟩,rfl⟩
     case measure=>simp [intOf];omega
    | true =>
     have cf:=fun w=>packf_is p true hg w
     rw [hg] at q6
     have HG:=zH hg
     clear hg
     go_wp2_with fail
     rw [show (Value.agg #[.int .i64 p.1.k,.int .i64 p.1.n,.string (bs p.1.s),.int .i64 p.2.1.k,.int .i64 p.2.1.n,.string (bs p.2.1.s),.bool true])=pagg p by rw [← HG.out]]
     refine named (p:=fun W=>Calls _ _ _ W _) (fun W hW=>?_)
     have hbw:Bl wr W:=by rw [hW];(repeat (first | exact qA _ | assumption | refine qB ?_ _ | refine qC ?_ | refine qD ?_ _ | refine qE ?_ _ (by simp<;>omega) _))
     refine (cf _).mono ?_
     rintro e W2 ⟨rfl,hb2⟩
     have HB2:=zH (HD2.out.bl (hbw.trans hb2))
     clear hbw hb2 cf hW
     go_wp2
     go_roundw
     case rel =>
      (repeat apply Exists.intro)
      exact ⟨⟨i,j + 1,rs,rfl,by go_num,by omega,by omega,HM2.out.skip HP.out HG.out,HB2.out⟩,rfl⟩
     case measure=>simp [intOf];omega
   ·obtain rfl:j=n:=by omega
    have HD2:=zH hd
    have HM2:=zH hm
    obtain ⟨g,cap,cur,e,-,hg,hnc,hcm,hcs,htk⟩:∃ g cap cur,Value.slice (some ⟨rb,0,none⟩) j cp=.slice (some ⟨g,0,none⟩) j cap∧0≤g∧wr.heap[g]?=some (.cells cur 301 (0,0))∧j≤cap∧cap≤maxLen∧cur.size=cap * 7∧cur.toList.take (j * 7)=rs.flatMap pcs:=by
     rcases hd.row.2 with ⟨e,-⟩ | h
     ·cases e
     ·exact h
    cases e
    obtain ⟨tl,hcl,hct⟩:∃ tl,(∀ rt,(Builtin.clear_ #[223] rt #[.slice (some ⟨rb,i * 7,none⟩) (j - i) (cp - i)]).run Tryz.prog wr=.ok (.tuple #[]) (wr.setRow rb (cur.toList.take (i * 7)++tl).toArray))∧(cur.toList.take (i * 7)++tl).length=cur.size:=by
     obtain ⟨tl,h1,h2⟩:=run_clearPairs wr rb (i * 7) (j - i) (cp - i) cur hg (by rw [hcs];omega) 0
     exact ⟨tl,fun rt=>h1,h2⟩
    have HF:=zH (show Packed w rb cp rows (.returned (.slice (some ⟨rb,0,none⟩) (packed rows).length cp)) (wr.setRow rb (cur.toList.take (i * 7)++tl).toArray)∧i=(packed rows).length from by
     have hpk:rs.take i=packed rows:=by rw [hm.ahead,HN.out,List.take_length]
     have hle:i≤rs.length:=by rw [hd.len];omega
     have hpl:(packed rows).length=i:=by rw [← hpk,List.length_take];omega
     refine ⟨⟨rfl,⟨by rw [flat_length],.inr ⟨rb,cp,_,rfl,Nat.zero_le _,setRow_heap wr rb cur _ _ _ hg,by omega,hcm,by rw [List.size_toArray,hct,hcs],?_⟩⟩,?_⟩,hpl.symm⟩
     ·rw [List.toList_toArray,hpl,← hpk]
      have h7:i * 7≤(cur.toList.take (i * 7)).length:=by rw [List.length_take,Array.length_toList];omega
      rw [List.take_append_of_le_length h7,List.take_of_length_le (by rw [List.length_take];omega)]
      have h8:cur.toList.take (i * 7)=(rs.flatMap pcs).take (i * 7):=by rw [← htk,List.take_take,Nat.min_eq_left (by omega)]
      rw [h8]
      conv=>lhs;rw [← List.take_append_drop i rs,List.flatMap_append]
      rw [List.take_append_of_le_length (by rw [flat_length,List.length_take];omega),List.take_of_length_le (by rw [flat_length,List.length_take];omega)]
     ·exact ⟨hd.st.os,hd.st.tape,hd.st.output,by simpa [World.setRow] using hd.st.size,fun b h1 h2=>(setRow_other wr rb b _ h2).trans (hd.st.block b h1 h2),fun _ h=>.inl h,fun b h=>by have:=hd.st.lt b h;simpa [World.setRow] using this⟩)
    clear hd hm hg hcs htk hct
    go_wp2
    go_ret
    rw [← HF.out.2] at HF
    exact HF.out.1
end
end Go.Proofs.YtbbokgpklihkoaaGreatDoor.W
