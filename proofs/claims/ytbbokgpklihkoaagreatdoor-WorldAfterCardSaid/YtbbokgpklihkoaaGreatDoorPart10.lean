/- Hold Grow Concat Replace Modify Upd Replace2 Replace3 -/
import Derived.Test.YtbbokgpklihkoaaGreatDoorPart9
import Derived.Deep.RegionWith
set_option linter.unusedVariables false
set_option linter.unusedSimpArgs false
namespace Go.Proofs.YtbbokgpklihkoaaGreatDoor.W
section
open Go.RowKit
theorem vcs_at {l:List V} {i t:Nat} (ht:t < 3) {v:V} (h:l[i]?=some v):(l.flatMap V.cs)[i * 3 + t]?=v.cs[t]?:=by
 induction l generalizing i with
 | nil=>simp at h
 | cons q r ih =>
  rw [List.flatMap_cons]
  cases i with
  | zero =>
   simp at h
   subst h
   rw [List.getElem?_append_left (by simp;omega)]
   simp
  | succ i =>
   simp at h
   rw [List.getElem?_append_right (by simp;omega),← ih h]
   congr 1
   simp;omega
theorem hold_snoc (by_:Int) (l:List V) (v:V):∀ r,hold by_ r (l++[v])=(if v.k=4 then upd (hold by_ r l) v.n (wrap64 (hold by_ r l v.n + by_)) else hold by_ r l):=by
 induction l with
 | nil=>intro r;rfl
 | cons p t ih=>intro r;simp only [List.cons_append,hold];exact ih _
def Hp.withRefs (h:Hp) (r:Int→Int):Hp:={ h with refs:=r }
def Lay.withRefs (L:Lay) (lr:List (Int × Int)):Lay:={ L with lr:=lr }
theorem HRL.refs_put {w W:World} {hp:Nat} {h:Hp} {F:Foot} {L:Lay} (r:HRL w hp h F L) (hb:Bl w W) (n x:Int) :
  ∃ es' c',(∀ W':World,W'.heap[L.rm]?=w.heap[L.rm]?→(Instr.mapUpdate 94 (.map (some L.rm)) (.int .i64 n) (.int .i64 x)).run Tryz.prog W'=.ok () (setMap W' L.rm es' c')) ∧
   HRL (setMap W.drew L.rm es' c') hp (h.withRefs (upd h.refs n x)) F (L.withRefs (put L.lr n x)):=by
 obtain ⟨es,c,hm,he⟩:=r.refs
 obtain ⟨es',c',hput,he'⟩:=run_put Tryz.underlying94 (key_i64 Tryz.underlying2) (ek:=fun n:Int=>Value.int .i64 n) (ev:=fun x:Int=>Value.int .i64 x) he n x c
 have r1:=r.bl hb
 have hrm:=(zN hm).1
 have hoth:∀ b,b≠L.rm→(setMap W.drew L.rm es' c').heap[b]?=W.heap[b]?:=fun b h=>setMap_other (w:=W.drew) h _ _
 have hhp:hp≠L.rm:=by rintro e;have:=r.blk;rw [e,hm] at this;cases this
 refine ⟨es',c',fun W' hW'=>hput W' L.rm (hW'.trans hm),(hoth hp hhp).trans r1.blk,?_,⟨es',c',setMap_at (w:=W.drew) (Nat.lt_of_lt_of_le hrm hb.sz) _ _,he'⟩,fun m=>?_,r.eq,fun c hc=>(r1.obs c hc).keep fun b hb'=>hoth b ?_,r.nd,r.ne,r.apart,r.own,fun b hb'=>?_,r1.born.elim fun es ⟨c,h1,h2⟩=>⟨es,c,(hoth _ r.ne.1).trans h1,h2⟩⟩
 ·obtain ⟨es2,c2,hm2,he2⟩:=r1.all
  exact ⟨es2,c2,(hoth _ r.ne.1).trans hm2,he2⟩
 ·show (get (put L.lr n x) m).getD 0=upd h.refs n x m
  rw [get_put]
  unfold upd
  by_cases e:n=m
  ·subst e;simp
  ·rw [if_neg e,if_neg (fun h=>e h.symm)];exact r.lr m
 ·rintro rfl
  have ho:=r.obs c hc
  rcases hb' with e | e | e | e | e
  ·have:=ho.blk;rw [← e,hm] at this;cases this
  ·have:=ho.dict.blk;rw [← e,hm] at this;cases this
  ·exact (r.ne.2 c hc).2 e.symm
  ·rcases ho.items.2 with ⟨e2,-⟩ | ⟨g,cap,cur,e2,-,hg,-⟩
   ·rw [e2] at e;cases e
   ·rw [e2] at e;cases e;rw [hm] at hg;cases hg
  ·rcases ho.dict.own.2 with ⟨e2,-⟩ | ⟨g,cap,cur,e2,-,hg,-⟩
   ·rw [e2] at e;cases e
   ·rw [e2] at e;cases e;rw [hm] at hg;cases hg
 ·rw [setMap_size];exact r1.lt b hb'
theorem HRL.lookR {w:World} {hp:Nat} {h:Hp} {F:Foot} {L:Lay} (r:HRL w hp h F L) (n:Int) (W:World) (hW:W.heap[L.rm]?=w.heap[L.rm]?) :
  (Instr.lookup 94 (.map (some L.rm)) (.int .i64 n) false).run Tryz.prog W=.ok (.int .i64 (h.refs n)) W:=by
 obtain ⟨es,c,hm,he⟩:=r.refs
 rw [run_look (ek:=fun n:Int=>Value.int .i64 n) (ev:=fun x:Int=>Value.int .i64 x) Tryz.underlying94 (key_i64 Tryz.underlying2) zeroInt (hW.trans hm) he n false,← r.lr n]
 cases get L.lr n<;>rfl
def Held (w:World) (hp:Nat) (h:Hp) (F:Foot) (L:Lay) (r:Int→Int) (w':World):Prop:=∃ lr,HRL w' hp (h.withRefs r) F (L.withRefs lr)∧Step w.heap.size (·=L.rm) w w' (·=L.rm)
set_option maxRecDepth 100000 in
set_option maxHeartbeats 8000000 in
theorem hold_wide (w:World) (hp:Nat) (h:Hp) (F:Foot) (L:Lay) (r:HRL w hp h F L) (by_:Int) (x:Value) (l:List V) (hx:Vs w x l) (hl:l.length≤2097152) :
  Calls Tryz.prog 223 #[.pointer (some ⟨hp,0,none⟩),.int .i64 by_,x] w fun e w'=>e=.returned (.tuple #[])∧Held w hp h F L (hold by_ h.refs l) w':=by
 obtain ⟨n,hn⟩:∃ n,n=l.length:=⟨_,rfl⟩
 obtain ⟨xa,xc,rfl,hxa⟩:∃ a c,x=.slice a n c∧(0 < n→∃ b o,a=some ⟨b,o,none⟩∧b < w.heap.size∧b≠L.rm∧∀ j u,(l.flatMap V.cs)[j]?=some u→w.cell? ⟨b,o + j,none⟩=some u):=by
  rcases hx with ⟨rfl,rfl⟩ | ⟨b,o,c,rfl,h1,h2,h3,h4⟩
  ·exact ⟨none,0,by rw [hn];rfl,fun h=>by rw [hn] at h;exact absurd h (by simp)⟩
  ·refine ⟨some ⟨b,o,none⟩,c,by rw [hn],fun hpos=>⟨b,o,rfl,h1,?_,h4⟩⟩
   rintro rfl
   obtain ⟨es,cc,hm,-⟩:=r.refs
   match l,hn,h4 with
   | [],hn,_=>rw [hn] at hpos;exact absurd hpos (by simp)
   | v :: t,_,h4 =>
    have:=h4 0 (.int .i64 v.k) rfl
    simp [World.cell?,hm] at this
 have HR0:=zH (show HRL w hp (h.withRefs (hold by_ h.refs (l.take 0))) F (L.withRefs L.lr) from r)
 have hrm:=r.head.2.2.2.2
 have hhp:=r.head.2.2.1
 have HF:=zH (show ∀ b,b=L.rm→b < w.heap.size from fun b e=>by rw [e];exact hrm)
 rw [← hn] at hl
 replace hl:n≤2097152:=hl
 have HN:=zH hn
 have HX:=zH hxa
 clear hx hn r hxa
 go_enter Tryz.func223,Tryz.ntmps223
 go_wp2
 go_loopw [7,10] (fun v7 v wr=>∃ (k:Nat) (lr:List (Int × Int)),k≤n∧v=.int .i64 k∧HRL wr hp (h.withRefs (hold by_ h.refs (l.take k))) F (L.withRefs lr)∧Step w.heap.size (·=L.rm) w wr (·=L.rm)) (fun _ v _=>n - (intOf v).toNat)
 case atStart=>exact ⟨0,L.lr,Nat.zero_le _,rfl,HR0.out,Step.refl HF.out⟩
 case round =>
  obtain ⟨k,lr,hk,rfl,hr,hst⟩:=hrel
  by_cases hlt:k < n
  ·obtain ⟨b,o,rfl,hb1,hb2,hcell⟩:=HX.out (by omega)
   obtain ⟨v,hv⟩:∃ v,l[k]?=some v:=⟨_,List.getElem?_eq_getElem (by rw [← HN.out];exact hlt)⟩
   have hcs:∀ t,t < 3→(l.flatMap V.cs)[k * 3 + t]?=v.cs[t]?:=fun t ht=>vcs_at ht hv
   have q:∀ t u,t < 3→v.cs[t]?=some u→wr.cell? ⟨b,o + (k * 3 + t),none⟩=some u:=fun t u ht hu=>by
    rw [World.cell?_of_block (w:=w) (a:=⟨b,o + (k * 3 + t),none⟩) (hst.block b hb1 hb2)]
    exact hcell _ u ((hcs t ht).trans hu)
   have q0:wr.cell? ⟨b,o + k * 3,none⟩=some (.int .i64 v.k):=q 0 _ (by decide) rfl
   have q1:wr.cell? ⟨b,o + k * 3 + 1,none⟩=some (.int .i64 v.n):=q 1 _ (by decide) rfl
   have q2:wr.cell? ⟨b,o + k * 3 + 2,none⟩=some (.string (bs v.s)):=q 2 _ (by decide) rfl
   have hbl:b < wr.heap.size:=Nat.lt_of_lt_of_le hb1 hst.size
   have HST:=zH hst
   have HRK:=zH hr
   have hsn:hold by_ h.refs (l.take (k + 1))=(if v.k=4 then upd (hold by_ h.refs (l.take k)) v.n (wrap64 (hold by_ h.refs (l.take k) v.n + by_)) else hold by_ h.refs (l.take k)):=by
    rw [List.take_add_one,hv];exact hold_snoc by_ _ v _
   by_cases h4:v.k=4
   ·rw [if_pos h4] at hsn
    have HS:=zH hsn
    have t4:(v.k == 4)=true:=by simpa using h4
    clear hst hr hsn q hcs hcell hv h4
    go_wp2
    refine named (p:=fun W=>Code.wp _ _ _ _ W) (fun W hW=>?_)
    have hbw:Bl wr W:=by rw [hW];(repeat (first | exact qA _ | assumption | refine qB ?_ _ | refine qC ?_ | refine qD ?_ _ | refine qE ?_ _ (by simp<;>omega) _))
    have hbox:W.heap[wr.heap.size]?=some (.cells v.ca 23):=by rw [hW];exact (MapKept.heap_alloc wr _).1
    have y1:W.cell? ⟨wr.heap.size,1,none⟩=some (.int .i64 v.n):=by rw [cell_of hbox];rfl
    have hrW:=HRK.out.bl hbw
    obtain ⟨⟨c1,c2,c3⟩,c4,c5,c6,c7⟩:=hrW.head
    have c2':W.cell? ⟨hp,1,none⟩=some (.map (some L.rm)):=c2
    obtain ⟨es',c',hput,hnext⟩:=hrW.refs_put (Bl.refl W) v.n (wrap64 (hold by_ h.refs (l.take k) v.n + by_))
    have lk:(Instr.lookup 94 (.map (some L.rm)) (.int .i64 v.n) false).run Tryz.prog W.drew=.ok (.int .i64 (hold by_ h.refs (l.take k) v.n)) W.drew:=hrW.lookR v.n W.drew rfl
    have mu:(Instr.mapUpdate 94 (.map (some L.rm)) (.int .i64 v.n) (.int .i64 (wrap64 (hold by_ h.refs (l.take k) v.n + by_)))).run Tryz.prog W.drew=.ok () (setMap W.drew L.rm es' c'):=hput W.drew rfl
    have HREL:=zH (show HRL (setMap W.drew L.rm es' c') hp (h.withRefs (hold by_ h.refs (l.take (k + 1)))) F (L.withRefs (put lr v.n (wrap64 (hold by_ h.refs (l.take k) v.n + by_))))∧Step w.heap.size (·=L.rm) w (setMap W.drew L.rm es' c') (·=L.rm) from by
     refine ⟨by rw [HS.out];exact hnext,?_⟩
     have s:=(HST.out.bl hbw HST.out.size).drew
     exact ⟨s.os,s.tape,s.output,by rw [setMap_size];exact s.size,fun b' q1 q2=>(setMap_other (w:=W.drew) q2 _ _).trans (s.block b' q1 q2),fun _ e=>.inl e,fun b' e=>by rw [setMap_size];exact s.lt b' e⟩)
    clear hW hbox hrW hput hnext hbw c1 c3 c4 HRK HST HS c2
    generalize hold by_ h.refs (l.take k) v.n=R at lk mu HREL
    go_region
    all_goals
     go_wp2
     go_roundw
     case rel=>first | exact ⟨k + 1,_,by omega,by go_num,HREL.out⟩ | ((repeat apply Exists.intro);exact ⟨⟨k + 1,_,by omega,by go_num,HREL.out⟩,rfl⟩)
     case measure=>simp [intOf];omega
   ·rw [if_neg h4] at hsn
    have t4:(v.k == 4)=false:=by simpa using h4
    have HREL:=zH (show HRL (wr.alloc (.cells v.ca 23)) hp (h.withRefs (hold by_ h.refs (l.take (k + 1)))) F (L.withRefs lr)∧Step w.heap.size (·=L.rm) w (wr.alloc (.cells v.ca 23)) (·=L.rm) from
     ⟨by rw [hsn];exact hr.bl (Bl.al _ _),hst.alloc hst.size _⟩)
    clear hst hr hsn q hcs hcell hv h4 HST HRK
    go_wp2
    go_roundw
    case rel=>first | exact ⟨k + 1,lr,by omega,by go_num,HREL.out⟩ | ((repeat apply Exists.intro);exact ⟨⟨k + 1,lr,by omega,by go_num,HREL.out⟩,rfl⟩)
    case measure=>simp [intOf];omega
  ·obtain rfl:k=n:=by omega
   have HREL:=zH (show Held w hp h F L (hold by_ h.refs l) wr from ⟨lr,by rw [HN.out,List.take_length] at hr;exact hr,hst⟩)
   clear hst hr
   go_wp2
   go_end0
   exact ⟨rfl,HREL.out⟩
theorem hold_any (w:World) (hp:Nat) (h:Hp) (F:Foot) (L:Lay) (r:HRL w hp h F L) (by_:Int) (x:Value) (l:List V) (hx:Vs w x l) (hl:l.length≤big) :
  Calls Tryz.prog 223 #[.pointer (some ⟨hp,0,none⟩),.int .i64 by_,x] w fun e w'=>e=.returned (.tuple #[])∧Held w hp h F L (hold by_ h.refs l) w' :=
 hold_wide w hp h F L r by_ x l hx (Nat.le_trans hl (by decide))
end
section
open Go.RowKit
theorem wpList_app2 {P:Program} {ops:Array Oper} {rest:List Oper} {o:Oper} {a:Go.Act} {w:World} {Q:Exit→Go.Act→World→Prop} (hgd:o.guard=none) (s x:Operand) (t u:TypeId)
  (hop:o.op=Op.call { callee:=Callee.builtin Builtin.append,args:=#[s,x],argTypes:=#[t,u] })
  (v vx:Value) (hs:a.eval s=v) (hx:a.eval x=vx) (v':Value) (w':World) (hr:(Builtin.append_ #[t,u] o.type #[v,vx]).run P w=.ok v' w') (h:wpList P ops Q rest (a.put o.dst v') w') :
  wpList P ops Q (o :: rest) a w :=
 wpList_plain hgd fun _ hK=>by
  unfold Oper.wp
  simp [execOp,hop,resolve,invoke,builtin,hs,hx,hr,Result.andThen]
  exact hK _ _ h
theorem run_app_zeros {P:Program} (w:World) (t u ty e:TypeId) (i:TypeInfo) (z:Value) (ht:P.underlying t=some (.slice e)) (hu:P.underlying u=some (.int .i64)) (hi:P.info? e=some i) (hz:i.zero=some z)
  (hzs:z.cells.size=i.size) (n:Nat) (h0:0 < n) (hn:n≤big) (hb:i.bytes≤1000) :
  ∃ cap cur,n≤cap∧cap≤maxLen∧cur.size=cap * i.size∧(Builtin.append_ #[t,u] ty #[.slice none 0 0,.int .i64 n]).run P w=.ok (.slice (some ⟨w.heap.size,0,none⟩) n cap) (w.drew.alloc (.cells cur e)):=by
 unfold big at hn
 have hmul:n * i.bytes≤1048576 * 1000:=Nat.mul_le_mul hn hb
 have h1:¬ ((n:Int) < 0):=by omega
 have hcast:((n:Int) * (i.bytes:Int))=((n * i.bytes:Nat):Int):=by rw [Int.natCast_mul]
 have h2:¬ (281474976710656 < (n:Int) * (i.bytes:Int)):=by rw [hcast];omega
 have h3:n≠0:=by omega
 have h4:¬ (9223372036854775807 < (n:Int)):=by omega
 have h5:¬ (281474976710656 < Builtin.nextslicecap n 0 * i.bytes):=by rw [nextslicecap_zero h0];omega
 have hw:IntKind.i64.wrap (n:Int)=n:=IntWalk.i64_in _ (by omega)
 have hge:=grownCap_ge w n 0 e
 refine ⟨grownCap w n 0 e,(if n * i.size=0 then #[] else Builtin.zeroCells z.cells n)++Builtin.zeroCells z.cells (grownCap w n 0 e - n),hge,grownCap_le_maxLen w n 0 e (by unfold maxLen;omega),?_,?_⟩
 ·rw [Array.size_append,size_zeroCells,hzs]
  split
  ·rename_i h
   have:i.size=0:=by
    rcases Nat.mul_eq_zero.1 h with h | h
    ·omega
    ·exact h
   rw [this];simp
  ·rw [size_zeroCells,hzs,← Nat.add_mul];congr 1;omega
 ·by_cases hs:i.size=0
  ·simp [Builtin.append_,run_underlying ht,run_underlying hu,sizeOf,typeInfo,zeroValue,hi,hz,Builtin.lenOf,h1,h2,h3,h4,h5,hw,hs,Question.forced,run_firstCells_none,newRow,grownCap,asInt,asIntOf]
  ·have hms:¬ n * i.size=0:=by
    intro h;rcases Nat.mul_eq_zero.1 h with h | h
    ·omega
    ·exact hs h
   simp [Builtin.append_,run_underlying ht,run_underlying hu,sizeOf,typeInfo,zeroValue,hi,hz,Builtin.lenOf,h1,h2,h3,h4,h5,hw,hs,Question.forced,run_firstCells_none,newRow,grownCap,asInt,asIntOf]
   rw [if_neg hms,if_neg hms]
theorem run_app_nil {P:Program} (w:World) (t ty e:TypeId) (i:TypeInfo) (ht:P.underlying t=some (.slice e)) (hi:P.info? e=some i) (a:Option Addr) (n c:Nat) (hn:n≤c) :
  (Builtin.append_ #[t,t] ty #[.slice a n c,.slice none 0 0]).run P w=.ok (.slice a n c) w:=by
 cases a<;>simp [Builtin.append_,run_underlying ht,sizeOf,typeInfo,hi,Builtin.lenOf,run_firstCells_none,hn,storeCells,Builtin.firstCells,loadCells,loadCellsFrom]
def Roomy (w:World) (e:Ending) (w':World):Prop:=∃ a c,e=.returned (.slice a 0 c)∧w'.ownsRow w.heap.size 23 3 (.slice a 0 c) 0 []∧Bl w w'
set_option maxRecDepth 100000 in
theorem grow_vals (w:World) (n:Nat) (hn:n≤big):Calls Tryz.prog 364 #[.slice none 0 0,.int .i64 n] w (Roomy w):=by
 obtain ⟨i0,hi,hz0,hz1,hz2⟩:=info_parts Tryz.infoV
 replace hn:n≤1048576:=hn
 by_cases h0:n=0
 ·subst h0
  go_enter Tryz.func364,Tryz.ntmps364
  go_wp2
  go_ret
  exact ⟨_,_,rfl,World.ownsRow_nil _ _ _ _,Bl.refl _⟩
 ·obtain ⟨cap,cur,h1,h2,h3,hap⟩:=run_app_zeros (P:=Tryz.prog) w 30 3 30 23 i0 _ Tryz.underlying30 Tryz.underlying3 hi hz0 (by rw [hz1];rfl) n (by omega) hn (by rw [hz2];omega)
  have HF:=zH (show Roomy w (.returned (.slice (some ⟨w.heap.size,0,none⟩) 0 cap)) (w.drew.alloc (.cells cur 23)) from
   ⟨_,_,rfl,⟨rfl,.inr ⟨w.heap.size,cap,cur,rfl,Nat.le_refl _,(MapKept.heap_alloc w.drew _).1,Nat.zero_le _,h2,by rw [h3,hz1],rfl⟩⟩,(Bl.refl w).dr'.al' _⟩)
  have hpos:0 < n:=by omega
  clear h3 hi hz0 hz1 hz2
  go_enter Tryz.func364,Tryz.ntmps364
  go_wp2_with (at_builtin;refine wpList_app2 rfl (.tmp 20) (.tmp 21) 30 3 rfl _ _ (by simp [Go.Act.eval]) (by simp [Go.Act.eval]) _ _ hap ?_)
  go_ret
  exact HF.out
end
section
open Go.RowKit
def tot (ls:List (List V)) (k:Nat):Nat:=(ls.take k).flatten.length
def Sls (w:World) (x:Value) (ls:List (List V)):Prop:=∃ (b o c:Nat) (ys:List Value),x=.slice (some ⟨b,o,none⟩) ls.length c∧ls.length≤1000∧b < w.heap.size∧ys.length=ls.length ∧
 (∀ (j:Nat) (y:Value),ys[j]?=some y→w.cell? ⟨b,o + j,none⟩=some y)∧∀ (j:Nat) (y:Value) (l:List V),ys[j]?=some y→ls[j]?=some l→Vs w y l
set_option maxRecDepth 100000 in
set_option maxHeartbeats 4000000 in
theorem concat_vals (w:World) (x:Value) (ls:List (List V)) (hx:Sls w x ls) (hl:ls.flatten.length≤big) :
  Calls Tryz.prog 235 #[x] w (NewVs w ls.flatten):=by
 obtain ⟨b,o,xc,ys,rfl,hn1,hb,hyl,hcell,hvs⟩:=hx
 obtain ⟨i0,hi,hz0,hz1,hz2⟩:=info_parts Tryz.infoV
 obtain ⟨n,hn⟩:∃ n,n=ls.length:=⟨_,rfl⟩
 rw [← hn] at hyl hn1 ⊢
 replace hl:ls.flatten.length≤1048576:=hl
 have hpre:∀ k,(ls.take k).flatten.length≤ls.flatten.length:=fun k=>by
  conv=>rhs;rw [← List.take_append_drop k ls,List.flatten_append,List.length_append]
  omega
 have hsnoc:∀ k l,ls[k]?=some l→(ls.take (k + 1)).flatten=(ls.take k).flatten++l:=fun k l h=>by
  rw [List.take_add_one,h];simp
 have hrow:∀ k,k < n→∃ y l,ys[k]?=some y∧ls[k]?=some l∧w.cell? ⟨b,o + k,none⟩=some y∧Vs w y l:=fun k hk=>by
  have h1:k < ys.length:=by omega
  have h2:k < ls.length:=by omega
  have e1:=List.getElem?_eq_getElem h1
  have e2:=List.getElem?_eq_getElem h2
  exact ⟨_,_,e1,e2,hcell k _ e1,hvs k _ _ e1 e2⟩
 have HN:=zH hn
 have HL:=zH hl
 have HPRE:=zH hpre
 have HSN:=zH hsnoc
 have HROW:=zH hrow
 clear hyl hcell hvs hn hpre hsnoc hrow hl
 go_enter Tryz.func235,Tryz.ntmps235
 go_wp2
 go_loop [3,5,11] (fun s v i=>∃ k:Nat,k≤n∧i=.int .i64 k∧s=.int .i64 (tot ls k:Nat)) (fun _ _ i=>n - (intOf i).toNat)
 case atStart=>exact ⟨0,Nat.zero_le _,rfl,rfl⟩
 case round =>
  obtain ⟨k,hk,rfl,rfl⟩:=hrel
  by_cases hlt:k < n
  ·obtain ⟨y,l,hy,hll,hc,hv⟩:=HROW.out k hlt
   obtain ⟨ya,yc,rfl⟩:∃ a c,y=.slice a l.length c:=by
    rcases hv with ⟨rfl,rfl⟩ | ⟨b,o,c,rfl,-⟩
    ·exact ⟨_,_,rfl⟩
    ·exact ⟨_,_,rfl⟩
   have hs:=HSN.out k l hll
   have hs2:(tot ls (k + 1):Int)=(tot ls k:Int) + (l.length:Int):=by unfold tot;rw [hs,List.length_append];omega
   have hbd:tot ls (k + 1)≤1048576:=Nat.le_trans (HPRE.out _) HL.out
   have hbd2:tot ls k + l.length≤1048576:=by omega
   have HS:=zH hs2
   generalize hB:l.length=B at *
   clear hv hs hs2 hbd hB
   go_wp2
   go_round
   case rel=>exact ⟨k + 1,by omega,by go_num,by rw [HS.out]⟩
   case measure=>simp [intOf];omega
  ·obtain rfl:k=n:=by omega
   have hT:tot ls k=ls.flatten.length:=by unfold tot;rw [HN.out,List.take_length]
   have gw:=fun w':World=>grow_vals w' (tot ls k) (by rw [hT];exact HL.out)
   clear hT
   go_wp2_with fail
   refine (gw _).mono ?_
   rintro e W1 ⟨na,nc,rfl,ho,hb1⟩
   have HR0:=zH (show W1.ownsRow w.heap.size 23 3 (.slice na (tot ls 0) nc) (tot ls 0) ((ls.take 0).flatten.flatMap V.cs)∧Bl w W1 from ⟨ho,hb1⟩)
   clear ho hb1 gw
   go_wp2
   go_loopw [6,8,27] (fun nv v i wr=>∃ (j:Nat) (a:Option Addr) (c:Nat),j≤k∧i=.int .i64 j∧nv=.slice a (tot ls j) c∧wr.ownsRow w.heap.size 23 3 (.slice a (tot ls j) c) (tot ls j) ((ls.take j).flatten.flatMap V.cs)∧Bl w wr) (fun _ _ i _=>k - (intOf i).toNat)
   case atStart=>exact ⟨0,na,nc,Nat.zero_le _,rfl,rfl,HR0.out⟩
   case round =>
    obtain ⟨j,a,c,hj,rfl,rfl,ho,hbw⟩:=hrel
    by_cases hlt2:j < k
    ·obtain ⟨y,l,hy,hll,hc,hv⟩:=HROW.out j hlt2
     have hs:=HSN.out j l hll
     have hs2:tot ls (j + 1)=tot ls j + l.length:=by unfold tot;rw [hs,List.length_append]
     have hbd:tot ls (j + 1)≤1048576:=Nat.le_trans (HPRE.out _) HL.out
     have hcw:wr.cell? ⟨b,o + j,none⟩=some y:=(World.cell?_of_block (w:=w) (a:=⟨b,o + j,none⟩) (hbw.at hb)).trans hc
     have hbl:b < wr.heap.size:=Nat.lt_of_lt_of_le hb hbw.sz
     have hvw:=hv.bl hbw
     obtain ⟨a2,c2,w4,hap,ho4,hb4⟩:∃ a2 c2 w4,(Builtin.append_ #[30,30] 30 #[.slice a (tot ls j) c,y]).run Tryz.prog wr=.ok (.slice a2 (tot ls (j + 1)) c2) w4 ∧
       w4.ownsRow w.heap.size 23 3 (.slice a2 (tot ls (j + 1)) c2) (tot ls (j + 1)) ((ls.take (j + 1)).flatten.flatMap V.cs)∧Bl w w4:=by
      rcases hvw with ⟨rfl,rfl⟩ | ⟨b',o',c',rfl,q1,q2,q3,q4⟩
      ·have hle:tot ls j≤c:=by
        rcases ho.2 with ⟨e,h0⟩ | ⟨g,cap,cur,e,-,-,h1,-⟩
        ·rw [h0];exact Nat.zero_le _
        ·cases e;exact h1
       refine ⟨a,c,wr,?_,?_,hbw⟩
       ·rw [hs2];exact run_app_nil wr 30 30 23 i0 Tryz.underlying30 hi a (tot ls j) c hle
       ·rw [hs2,hs,List.append_nil];exact ho
      ·have hown:wr.ownsRow 0 23 3 (.slice a (tot ls j) c) (tot ls j) ((ls.take j).flatten.flatMap V.cs):=⟨ho.1,ho.2.elim .inl (fun ⟨g,cap,cur,e,_,r⟩=>.inr ⟨g,cap,cur,e,Nat.zero_le _,r⟩)⟩
       obtain ⟨v',w4,hap,ho4,hgrow,hblk⟩:=run_app (P:=Tryz.prog) wr 30 30 23 i0 _ 3 32 Tryz.underlying30 hi hz0 hz1 hz2 rfl (by decide) _ _ _ hown ⟨b',o',none⟩ l.length c' (l.flatMap V.cs) (flat_len l)
        (fun j u h=>by rw [Addr.add_lit];exact q4 j u h) (fun u hu=>by
         obtain ⟨p,-,hp⟩:=List.mem_flatMap.1 hu
         exact cs_one p u hp) (by unfold maxLen;omega) (by omega)
       rw [← hs2] at ho4
       obtain ⟨a2,c2,rfl,-⟩:=row_form ho4
       refine ⟨a2,c2,w4,hap,⟨?_,?_⟩,?_⟩
       ·rw [hs,List.flatMap_append];exact ho4.1
       ·rcases ho4.2 with e | ⟨g,cap,cur,e,h0,hg,r⟩
        ·exact .inl e
        ·refine .inr ⟨g,cap,cur,e,?_,hg,by rw [hs,List.flatMap_append];exact r⟩
         rcases hblk with e2 | ⟨g2,e2,h2⟩
         ·rw [e] at e2;exact (ho.lt g (e2.symm.trans rfl)).1
         ·rw [e] at e2;simp [Value.ownBlock] at e2;have:=hbw.sz;omega
       ·refine ⟨hgrow.os.trans hbw.os,hgrow.tape.trans hbw.tape,hgrow.output.trans hbw.output,Nat.le_trans hbw.sz hgrow.size,fun k hk=>?_⟩
        rw [hgrow.block k (Nat.lt_of_lt_of_le hk hbw.sz) (fun e=>by have:=(ho.lt k e.symm).1;omega)]
        exact hbw.at hk
     have HREL:=zH (And.intro ho4 hb4)
     clear ho hbw hc hv hs hs2 hbd hvw ho4 hb4 hy hll hi hz0 hz1 hz2
     go_wp2_with (at_builtin;refine wpList_app rfl (.tmp 31) (.tmp 32) 30 rfl _ _ (by simp [Go.Act.eval]) (by simp [Go.Act.eval]) _ _ hap ?_)
     go_roundw
     case rel=>first | exact ⟨j + 1,a2,c2,by omega,by go_num,rfl,HREL.out⟩ | ((repeat apply Exists.intro);exact ⟨⟨j + 1,a2,c2,by omega,by go_num,rfl,HREL.out⟩,rfl⟩)
     case measure=>simp [intOf];omega
    ·obtain rfl:j=k:=by omega
     have HF:=zH (show NewVs w ls.flatten (.returned (.slice a (tot ls j) c)) wr from by
      have e:tot ls j=ls.flatten.length:=by unfold tot;rw [HN.out,List.take_length]
      refine ⟨_,rfl,?_,hbw⟩
      have h:=ho
      rw [HN.out,List.take_length] at h
      rw [show tot ls ls.length=ls.flatten.length from by rw [← HN.out];exact e] at h
      rw [e];exact h)
     clear ho hbw
     go_wp2
     go_ret
     exact HF.out
end
section
open Go.RowKit
theorem Vs.cut {w:World} {a:Option Addr} {n c:Nat} {l:List V} (hx:Vs w (.slice a n c) l) (lo hi m:Nat) (h1:lo≤hi) (h2:hi≤l.length) (h3:hi≤m) (h4:m≤c) :
  Vs w (.slice (if m=lo then a else a.map (·.add (lo * 3))) (hi - lo) (m - lo)) ((l.take hi).drop lo):=by
 have hlen:((l.take hi).drop lo).length=hi - lo:=by rw [List.length_drop,List.length_take];omega
 rcases hx with ⟨e,rfl⟩ | ⟨b,o,c',e,hb,hc,hm,hcell⟩
 ·injection e with e1 e2 e3
  subst e1;subst e2;subst e3
  left
  simp at h2
  have:m=0:=by omega
  subst this;subst h2
  have:lo=0:=by omega
  subst this
  exact ⟨rfl,rfl⟩
 ·injection e with e1 e2 e3
  subst e1;subst e2;subst e3
  right
  by_cases hml:m=lo
  ·rw [if_pos hml]
   refine ⟨b,o,m - lo,by rw [hlen],hb,by rw [hlen];omega,by omega,fun j u hj=>?_⟩
   have:(l.take hi).drop lo=[]:=List.eq_nil_of_length_eq_zero (by rw [hlen];omega)
   rw [this] at hj;simp at hj
  ·rw [if_neg hml]
   refine ⟨b,o + lo * 3,m - lo,by rw [hlen];simp [Addr.add_lit],hb,by rw [hlen];omega,by omega,fun j u hj=>?_⟩
   have hj2:j < (hi - lo) * 3:=by
    have:=(List.getElem?_eq_some_iff.1 hj).1
    rw [flat_len,hlen] at this;exact this
   have e2:(l.flatMap V.cs)[lo * 3 + j]?=some u:=by
    obtain ⟨i,t,ht,rfl⟩:∃ i t,t < 3∧j=i * 3 + t:=⟨j / 3,j % 3,Nat.mod_lt _ (by decide),by omega⟩
    have hi2:i < hi - lo:=by omega
    obtain ⟨v,hv⟩:∃ v,((l.take hi).drop lo)[i]?=some v:=⟨_,List.getElem?_eq_getElem (by rw [hlen];exact hi2)⟩
    rw [vcs_at ht hv] at hj
    have hv2:l[lo + i]?=some v:=by
     rw [List.getElem?_drop,List.getElem?_take_of_lt (by omega)] at hv
     exact hv
    rw [show lo * 3 + (i * 3 + t)=(lo + i) * 3 + t by omega,vcs_at ht hv2]
    exact hj
   rw [show o + lo * 3 + j=o + (lo * 3 + j) by omega]
   exact hcell _ u e2
section
variable {P:Program} (w:World) (t e:TypeId) (ht:P.underlying t=some (.slice e)) (hs:∀ w,(sizeOf e).run P w=.ok 3 w) (a:Option Addr) (n c:Nat)
include ht hs
theorem run_cut3 (lo hi:Nat) (h1:lo≤hi) (h2:hi≤c) :
  (Instr.slice t (.slice a n c) (some (.int .i64 lo)) (some (.int .i64 hi)) (some (.int .i64 hi))).run P w=.ok (.slice (if hi=lo then a else a.map (·.add (lo * 3))) (hi - lo) (hi - lo)) w:=by
 have e0:∀ w,(underlying t).run P w=.ok (.slice e) w:=fun w=>by simp [underlying,go_sem,ht]
 have b1:∀ (w:World) code,(Instr.sliceBound (.int .i64 hi) c code).run P w=.ok hi w:=fun w code=>run_sliceBound (P:=P) w .i64 hi c code (by omega) (by omega)
 have b2:∀ (w:World) code,(Instr.sliceBound (.int .i64 hi) hi code).run P w=.ok hi w:=fun w code=>run_sliceBound (P:=P) w .i64 hi hi code (by omega) (by omega)
 have b3:∀ (w:World) code,(Instr.sliceBound (.int .i64 lo) hi code).run P w=.ok lo w:=fun w code=>run_sliceBound (P:=P) w .i64 lo hi code (by omega) (by omega)
 unfold Instr.slice Instr.sliceBounds
 simp [e0,b1,b2,b3,hs]
theorem run_cutTo (hi:Nat) (h2:hi≤c) :
  (Instr.slice t (.slice a n c) none (some (.int .i64 hi)) (some (.int .i64 hi))).run P w=.ok (.slice (if hi=0 then a else a.map (·.add (0 * 3))) (hi - 0) (hi - 0)) w:=by
 have e0:∀ w,(underlying t).run P w=.ok (.slice e) w:=fun w=>by simp [underlying,go_sem,ht]
 have b1:∀ (w:World) code,(Instr.sliceBound (.int .i64 hi) c code).run P w=.ok hi w:=fun w code=>run_sliceBound (P:=P) w .i64 hi c code (by omega) (by omega)
 have b2:∀ (w:World) code,(Instr.sliceBound (.int .i64 hi) hi code).run P w=.ok hi w:=fun w code=>run_sliceBound (P:=P) w .i64 hi hi code (by omega) (by omega)
 unfold Instr.slice Instr.sliceBounds
 simp [e0,b1,b2,hs]
end
theorem sizeV (w:World):(sizeOf 23).run Tryz.prog w=.ok 3 w:=by kernel_rfl
end
section
open Go.RowKit
def Hp.setN (h:Hp) (n:Int) (o:Ob):Hp:={ h with all:=W.put h.all n o }
def Lay.mod (L:Lay) (c':CO):Lay:={ L with cos:=L.cos.map fun d=>if d.n=c'.n then c' else d }
theorem put_map {l:List CO} {c':CO} (hnd:(l.map (·.n)).Nodup) (hm:c'.n∈l.map (·.n)) :
  put (l.map fun d=>(d.n,d.o)) c'.n c'.o=(l.map fun d=>if d.n=c'.n then c' else d).map fun d=>(d.n,d.o):=by
 induction l with
 | nil=>simp at hm
 | cons d t ih =>
  simp only [List.map_cons,List.nodup_cons] at hnd
  by_cases h:d.n=c'.n
  ·simp only [List.map_cons,put,h,if_true,List.cons.injEq,true_and]
   rw [List.map_map]
   refine List.map_congr_left fun e he=>?_
   have:e.n≠c'.n:=fun e2=>hnd.1 (by rw [h,← e2];exact List.mem_map_of_mem he)
   simp [this]
  ·simp only [List.map_cons,put,if_neg h,List.cons.injEq,true_and]
   refine ih hnd.2 ?_
   simp only [List.map_cons,List.mem_cons] at hm
   exact hm.resolve_left (fun e=>h e.symm)
theorem HRL.notIn {w:World} {hp:Nat} {h:Hp} {F:Foot} {L:Lay} (r:HRL w hp h F L) {c:CO} (hc:c∈L.cos):¬ c.foot hp∧¬ c.foot L.am∧¬ c.foot L.rm:=by
 have ho:=r.obs c hc
 obtain ⟨es,cc,hm,-⟩:=r.all
 obtain ⟨es2,cc2,hm2,-⟩:=r.refs
 have hne:=r.ne.2 c hc
 have key:∀ b,(∀ o,w.heap[b]?=some o→(∃ arr fr,o=.cells arr 96 fr)∨((∃ es c,o=.map es c)∧b≠c.mb))→(w.heap[b]?).isSome=true→¬ c.foot b:=by
  rintro b hb hs (e | e | e | e | e)
  ·subst e
   rcases hb _ ho.blk with ⟨arr,fr,e⟩ | ⟨⟨es,c,e⟩,-⟩
   ·injection e with _ e2 _;exact absurd e2 (by decide)
   ·cases e
  ·subst e
   rcases hb _ ho.dict.blk with ⟨arr,fr,e⟩ | ⟨⟨es,c,e⟩,-⟩
   ·injection e with _ e2 _;exact absurd e2 (by decide)
   ·cases e
  ·subst e
   obtain ⟨es,cd,at_,hmm,-⟩:=ho.dict.map
   rcases hb _ hmm with ⟨arr,fr,e⟩ | ⟨-,e⟩
   ·cases e
   ·exact e rfl
  ·rcases ho.items.2 with ⟨e2,-⟩ | ⟨g,cap,cur,e2,-,hg,-⟩
   ·rw [e2] at e;cases e
   ·rw [e2] at e;cases e
    rcases hb _ hg with ⟨arr,fr,e⟩ | ⟨⟨es,c,e⟩,-⟩
    ·injection e with _ e2 _;exact absurd e2 (by decide)
    ·cases e
  ·rcases ho.dict.own.2 with ⟨e2,-⟩ | ⟨g,cap,cur,e2,-,hg,-⟩
   ·rw [e2] at e;cases e
   ·rw [e2] at e;cases e
    rcases hb _ hg with ⟨arr,fr,e⟩ | ⟨⟨es,c,e⟩,-⟩
    ·injection e with _ e2 _;exact absurd e2 (by decide)
    ·cases e
 refine ⟨key _ (fun o h=>.inl ?_) (by rw [r.blk];rfl),key _ (fun o h=>.inr ⟨?_,fun e=>hne.1 e.symm⟩) (by rw [hm];rfl),key _ (fun o h=>.inr ⟨?_,fun e=>hne.2 e.symm⟩) (by rw [hm2];rfl)⟩
 ·rw [r.blk] at h;cases h;exact ⟨_,_,rfl⟩
 ·rw [hm] at h;cases h;exact ⟨_,_,rfl⟩
 ·rw [hm2] at h;cases h;exact ⟨_,_,rfl⟩
theorem HRL.modify {w w':World} {hp:Nat} {h:Hp} {F:Foot} {L:Lay} (r:HRL w hp h F L) {c c':CO} (hc:c∈L.cos) (hn:c'.n=c.n) (hob:c'.ob=c.ob) (hmb:c'.mb=c.mb)
  (hfoot:∀ b,c'.foot b→c.foot b∨w.heap.size≤b) (hlt:∀ b,c'.foot b→b < w'.heap.size) (hobs:ObAt w' c') (hsz:w.heap.size≤w'.heap.size) (hk:∀ b,F b→¬ c.foot b→w'.heap[b]?=w.heap[b]?) :
  HRL w' hp (h.setN c.n c'.o) (fun b=>F b∨c'.foot b) (L.mod c'):=by
 obtain ⟨i1,i2,i3⟩:=r.notIn hc
 obtain ⟨es,cc,hm,he⟩:=r.all
 obtain ⟨es2,cc2,hm2,he2⟩:=r.refs
 have hnd:(L.cos.map (·.n)).Nodup:=by
  have:=r.nd
  rw [r.eq,List.map_map] at this
  exact this
 have hmem:c'.n∈L.cos.map (·.n):=by rw [hn];exact List.mem_map_of_mem hc
 have huniq:∀ d∈L.cos,d.n=c'.n→d=c:=fun d hd e=>by
  obtain ⟨i,hi⟩:=List.mem_iff_getElem?.1 hd
  obtain ⟨j,hj⟩:=List.mem_iff_getElem?.1 hc
  have h1:(L.cos.map (·.n))[i]?=some c'.n:=by rw [List.getElem?_map,hi];simp [e]
  have h2:(L.cos.map (·.n))[j]?=some c'.n:=by rw [List.getElem?_map,hj];simp [hn]
  have hij:i=j:=(List.getElem?_inj (List.getElem?_eq_some_iff.1 h1).1 hnd).1 (h1.trans h2.symm)
  subst hij
  rw [hi] at hj
  exact Option.some.inj hj
 have hother:∀ d∈L.cos,d.n≠c'.n→∀ b,d.foot b→¬ c.foot b∧¬ c'.foot b:=fun d hd hne b hb=>by
  have hap:¬ c.foot b:=by
   have hdc:d≠c:=fun e=>hne (by rw [e,hn])
   have:=r.apart
   intro hcb
   have:=List.pairwise_iff_getElem.1 this
   obtain ⟨i,hi,e1⟩:=List.mem_iff_getElem.1 hd
   obtain ⟨j,hj,e2⟩:=List.mem_iff_getElem.1 hc
   rcases Nat.lt_trichotomy i j with h | h | h
   ·exact this i j hi hj h b (by rw [e1];exact hb) (by rw [e2];exact hcb)
   ·subst h;exact hdc (e1.symm.trans e2)
   ·exact this j i hj hi h b (by rw [e2];exact hcb) (by rw [e1];exact hb)
  refine ⟨hap,fun h=>(hfoot b h).elim hap (fun h2=>?_)⟩
  have:=r.lt b (r.own.2.2.2 d hd b hb)
  omega
 refine ⟨(hk hp r.own.1 i1).trans r.blk,⟨es,cc,(hk _ r.own.2.1 i2).trans hm,?_⟩,⟨es2,cc2,(hk _ r.own.2.2.1 i3).trans hm2,he2⟩,r.lr,?_,?_,?_,?_,?_,?_,?_,r.born.elim fun es ⟨c,h1,h2⟩=>⟨es,c,(hk _ r.own.2.1 i2).trans h1,h2⟩⟩
 ·have e:((L.mod c').cos.map fun c=>(c.n,c.ob))=L.cos.map fun c=>(c.n,c.ob):=by
   show ((L.cos.map fun d=>if d.n=c'.n then c' else d).map fun c=>(c.n,c.ob))=_
   rw [List.map_map]
   refine List.map_congr_left fun d hd=>?_
   by_cases e:d.n=c'.n
   ·have:=huniq d hd e
    subst this
    simp [hn,hob]
   ·simp [e]
  rw [e];exact he
 ·show put h.all c.n c'.o=_
  rw [r.eq,← hn]
  exact put_map hnd hmem
 ·intro d hd
  obtain ⟨d0,hd0,rfl⟩:=List.mem_map.1 hd
  by_cases e:d0.n=c'.n
  ·rw [if_pos e];exact hobs
  ·rw [if_neg e]
   exact (r.obs d0 hd0).keep fun b hb=>hk b (r.own.2.2.2 d0 hd0 b hb) (hother d0 hd0 e b hb).1
 ·exact nodup_put r.nd _ _
 ·refine ⟨r.ne.1,fun d hd=>?_⟩
  obtain ⟨d0,hd0,rfl⟩:=List.mem_map.1 hd
  by_cases e:d0.n=c'.n
  ·rw [if_pos e,hmb];exact r.ne.2 c hc
  ·rw [if_neg e];exact r.ne.2 d0 hd0
 ·show (L.cos.map _).Pairwise Apart
  rw [List.pairwise_map]
  refine r.apart.imp_of_mem fun {d1 d2} h1 h2 hap=>?_
  by_cases e1:d1.n=c'.n<;>by_cases e2:d2.n=c'.n
  ·have q:d1=d2:=(huniq d1 h1 e1).trans (huniq d2 h2 e2).symm
   rw [q] at hap
   exact absurd (Or.inl rfl:d2.foot d2.ob) (fun h=>hap _ h h)
  ·rw [if_pos e1,if_neg e2]
   exact fun b hb hb2=>(hother d2 h2 e2 b hb2).2 hb
  ·rw [if_neg e1,if_pos e2]
   exact fun b hb hb2=>(hother d1 h1 e1 b hb).2 hb2
  ·rw [if_neg e1,if_neg e2];exact hap
 ·refine ⟨.inl r.own.1,.inl r.own.2.1,.inl r.own.2.2.1,fun d hd b hb=>?_⟩
  obtain ⟨d0,hd0,rfl⟩:=List.mem_map.1 hd
  by_cases e:d0.n=c'.n
  ·rw [if_pos e] at hb;exact .inr hb
  ·rw [if_neg e] at hb;exact .inl (r.own.2.2.2 d0 hd0 b hb)
 ·rintro b (hb | hb)
  ·exact Nat.lt_of_lt_of_le (r.lt b hb) hsz
  ·exact hlt b hb
end
section
open Go.RowKit
theorem Step.widen {B:Nat} {G G' F:Foot} {w w':World} (h:Step B G w w' G') (hG:∀ b,G b→F b) (hF:∀ b,F b→b < w'.heap.size):Step B F w w' F :=
 ⟨h.os,h.tape,h.output,h.size,fun k h1 h2=>h.block k h1 (fun hg=>h2 (hG k hg)),fun _ hf=>.inl hf,hF⟩
def HStep (w:World) (hp:Nat) (F:Foot) (h':Hp) (w':World):Prop:=∃ F',HR w' hp h' F'∧Step w.heap.size F w w' F'
theorem HStep.of_bl {w w':World} {hp:Nat} {F:Foot} {h:Hp} (r:HR w hp h F) (hb:Bl w w'):HStep w hp F h w':=⟨F,r.bl hb,Step.of_bl hb r.lt⟩
theorem vs_map {w w':World} {x:Value} {l:List V} {m:Nat} {es:Array MapEntry} {cc:Nat} (h:Vs w x l) (hs:Step w.heap.size (·=m) w w' (·=m)) (hm:w.heap[m]?=some (.map es cc)):Vs w' x l:=by
 rcases h with h | ⟨b,o,c,e,hb,h1,h2,hcell⟩
 ·exact .inl h
 ·refine .inr ⟨b,o,c,e,Nat.lt_of_lt_of_le hb hs.size,h1,h2,fun j u hj=>?_⟩
  have hne:b≠m:=by
   rintro rfl
   have:=hcell j u hj
   simp [World.cell?,hm] at this
  rw [World.cell?_of_block (w:=w) (a:=⟨b,o + j,none⟩) (hs.block b hb hne)]
  exact hcell j u hj
theorem HStep.mod {w0 w w':World} {hp:Nat} {h:Hp} {F:Foot} {L:Lay} (r:HRL w hp h F L) (hst:Step w0.heap.size F w0 w F) {c c':CO} (hc:c∈L.cos) (hn:c'.n=c.n) (hob:c'.ob=c.ob) (hmb:c'.mb=c.mb)
  (hobs:ObAt w' c') (hs:Step w.heap.size c.foot w w' c'.foot):HStep w0 hp F (h.setN c.n c'.o) w':=by
 refine ⟨_,⟨_,r.modify hc hn hob hmb hs.foot hs.lt hobs hs.size (fun b hb hnf=>hs.block b (r.lt b hb) hnf)⟩,hs.os.trans hst.os,hs.tape.trans hst.tape,hs.output.trans hst.output,Nat.le_trans hst.size hs.size,fun k h1 h2=>?_,?_,?_⟩
 ·exact (hs.block k (Nat.lt_of_lt_of_le h1 hst.size) (fun hf=>h2 (r.own.2.2.2 c hc k hf))).trans (hst.block k h1 h2)
 ·rintro k (hk | hk)
  ·exact .inl hk
  ·rcases hs.foot k hk with hk | hk
   ·exact .inl (r.own.2.2.2 c hc k hk)
   ·exact .inr (Nat.le_trans hst.size hk)
 ·rintro k (hk | hk)
  ·exact Nat.lt_of_lt_of_le (r.lt k hk) hs.size
  ·exact hs.lt k hk
theorem ObAt.ne {w:World} {c:CO} (ho:ObAt w c):c.ob≠c.db∧c.ob≠c.mb∧c.it.ownBlock≠some c.ob∧c.sl.ownBlock≠some c.ob:=by
 refine ⟨fun e=>?_,fun e=>?_,fun e=>?_,fun e=>?_⟩
 ·have h1:=ho.dict.blk
  rw [← e,ho.blk] at h1
  injection h1 with h1
  injection h1 with _ e2 _;exact absurd e2 (by decide)
 ·obtain ⟨es,cd,at_,hmm,-⟩:=ho.dict.map
  rw [← e,ho.blk] at hmm
  cases hmm
 ·rcases ho.items.2 with ⟨e2,-⟩ | ⟨g,cap,cur,e2,-,hg,-⟩
  ·rw [e2] at e;cases e
  ·rw [e2] at e;cases e
   rw [ho.blk] at hg
   injection hg with hg
   injection hg with _ e2 _;exact absurd e2 (by decide)
 ·rcases ho.dict.own.2 with ⟨e2,-⟩ | ⟨g,cap,cur,e2,-,hg,-⟩
  ·rw [e2] at e;cases e
  ·rw [e2] at e;cases e
   rw [ho.blk] at hg
   injection hg with hg
   injection hg with _ e2 _;exact absurd e2 (by decide)
theorem ObAt.newItems {w W4:World} {c:CO} (ho:ObAt w c) (hlt:∀ b,c.foot b→b < w.heap.size) {l:List V} {a:Option Addr} {n k:Nat} (q:NewVs w l (.returned (.slice a n k)) W4) (hl:l.length≤big) :
  ObAt (W4.setCell ⟨c.ob,3,none⟩ (.slice a n k)) { c with o:={ c.o with items:=l },it:=.slice a n k } ∧
   Step w.heap.size c.foot w (W4.setCell ⟨c.ob,3,none⟩ (.slice a n k)) (CO.foot { c with o:={ c.o with items:=l },it:=.slice a n k }):=by
 obtain ⟨x,hx,how,hb⟩:=q
 cases hx
 obtain ⟨n1,n2,n3,n4⟩:=ho.ne
 have hblk:W4.heap[c.ob]?=_:=(hb.at (hlt _ (.inl rfl))).trans ho.blk
 have hoth:∀ b,b≠c.ob→(W4.setCell ⟨c.ob,3,none⟩ (.slice a n k)).heap[b]?=W4.heap[b]?:=fun b h=>Below.heap_setCell _ _ _ _ h
 have hsame:∀ b,b < w.heap.size→b≠c.ob→(W4.setCell ⟨c.ob,3,none⟩ (.slice a n k)).heap[b]?=w.heap[b]?:=fun b h h2=>(hoth b h2).trans (hb.at h)
 have hg:∀ g,(Value.slice a n k).ownBlock=some g→w.heap.size≤g∧g < W4.heap.size:=fun g e=>by
  rcases how.2 with ⟨e2,-⟩ | ⟨g',cap,cur,e2,h0,hg,-⟩
  ·rw [e2] at e;cases e
  ·rw [e2] at e;cases e
   refine ⟨h0,?_⟩
   by_cases hlt:g' < W4.heap.size
   ·exact hlt
   ·rw [Array.getElem?_eq_none (by omega)] at hg;cases hg
 have hit:(W4.setCell ⟨c.ob,3,none⟩ (.slice a n k)).ownsRow 0 23 3 (.slice a n k) l.length (l.flatMap V.cs):=by
  refine ⟨how.1,how.2.elim (fun h=>Or.inl h) ?_⟩
  rintro ⟨g,cap,cur,e,h0,hgc,r⟩
  refine Or.inr ⟨g,cap,cur,e,Nat.zero_le _,(hoth g (fun e3=>?_)).trans hgc,r⟩
  have h1:=hlt _ (Or.inl rfl:c.foot c.ob)
  rw [e3] at h0
  omega
 refine ⟨⟨?_,hit,ho.dict.bl (fun b hb2=>?_),hl⟩,⟨hb.os,hb.tape,hb.output,by rw [World.size_setCell];exact hb.sz,fun b h1 h2=>hsame b h1 (fun e=>h2 (.inl e)),?_,?_⟩⟩
 ·show (W4.setCell ⟨c.ob,3,none⟩ _).heap[c.ob]?=_
  rw [heap_setCell_same W4 c.ob 3 _ _ _ hblk];rfl
 ·rcases hb2 with rfl | rfl | hb2
  ·exact hsame _ (hlt _ (.inr (.inl rfl))) n1.symm
  ·exact hsame _ (hlt _ (.inr (.inr (.inl rfl)))) n2.symm
  ·exact hsame _ (hlt _ (.inr (.inr (.inr (.inr hb2))))) (fun e=>n4 (by rw [← e];exact hb2))
 ·rintro b (h | h | h | h | h)
  ·exact .inl (.inl h)
  ·exact .inl (.inr (.inl h))
  ·exact .inl (.inr (.inr (.inl h)))
  ·exact .inr (hg b h).1
  ·exact .inl (.inr (.inr (.inr (.inr h))))
 ·have hz:=hb.sz
  rw [World.size_setCell]
  rintro b (h | h | h | h | h)
  ·exact Nat.lt_of_lt_of_le (hlt b (.inl h)) hz
  ·exact Nat.lt_of_lt_of_le (hlt b (.inr (.inl h))) hz
  ·exact Nat.lt_of_lt_of_le (hlt b (.inr (.inr (.inl h)))) hz
  ·exact (hg b h).2
  ·exact Nat.lt_of_lt_of_le (hlt b (.inr (.inr (.inr (.inr h))))) hz
theorem replace_end {w W1 W2 W3 W4:World} {hp:Nat} {h:Hp} {F:Foot} {L:Lay} (r:HRL w hp h F L) {c:CO} (hc:c∈L.cos) {v:V} (hn:c.n=v.n) (hk:v.k=4) (ho:h.of v=some c.o) {a b:Nat} {l:List V} (hab:a≤b) (hb:b≤c.o.items.length)
  (hl2:(c.o.items.take a++l++c.o.items.drop b).length≤big) (hb1:Bl w W1) {lr1 lr2:List (Int × Int)} {r1 r2:Int→Int} (hr2:HRL W2 hp (h.withRefs r1) F (L.withRefs lr1)) (hst2:Step W1.heap.size (·=L.rm) W1 W2 (·=L.rm))
  (hr3:HRL W3 hp ((h.withRefs r1).withRefs r2) F ((L.withRefs lr1).withRefs lr2)) (hst3:Step W2.heap.size (·=(L.withRefs lr1).rm) W2 W3 (·=(L.withRefs lr1).rm)) {a4:Option Addr} {n4 c4:Nat} (q:NewVs W3 (c.o.items.take a++l++c.o.items.drop b) (.returned (.slice a4 n4 c4)) W4)
  (e1:r1=hold 1 h.refs l) (e2:r2=hold (-1) r1 ((c.o.items.take b).drop a)) :
  HStep w hp F (h.replace v a b l).1 (W4.setCell ⟨c.ob,3,none⟩ (.slice a4 n4 c4)):=by
 subst e1 e2
 have hcm:c∈((L.withRefs lr1).withRefs lr2).cos:=hc
 obtain ⟨o4,s4⟩:=(hr3.obs c hcm).newItems (fun b hb=>hr3.lt b (hr3.own.2.2.2 c hcm b hb)) q hl2
 have hst:Step w.heap.size F w W3 F:=((Step.of_bl hb1 r.lt).call hb1.sz (hst2.widen (fun b e=>by rw [e];exact r.own.2.2.1) hr2.lt)).call (Nat.le_trans hb1.sz hst2.size) (hst3.widen (fun b e=>by rw [e];exact r.own.2.2.1) hr3.lt)
 have e:((h.withRefs (hold 1 h.refs l)).withRefs (hold (-1) (hold 1 h.refs l) ((c.o.items.take b).drop a))).setN c.n { c.o with items:=c.o.items.take a++l++c.o.items.drop b }=(h.replace v a b l).1:=by
  unfold Hp.replace
  rw [ho]
  simp only
  rw [if_pos (by omega)]
  simp [Hp.setN,Hp.withRefs,Hp.set,hn]
 rw [← e]
 exact HStep.mod (c':={ c with o:={ c.o with items:=c.o.items.take a++l++c.o.items.drop b },it:=.slice a4 n4 c4 }) hr3 hst hcm rfl rfl rfl o4 s4
end
section
open Go.RowKit
set_option maxRecDepth 100000 in
set_option maxHeartbeats 8000000 in
theorem replace_yes (w:World) (hp:Nat) (h:Hp) (F:Foot) (r:HR w hp h F) (v:V) (a b:Nat) (x:Value) (l:List V) (hx:Vs w x l) (o:Ob) (ho:h.of v=some o) (hab:a≤b) (hb:b≤o.items.length)
  (hl:l.length≤big) (hl2:(o.items.take a++l++o.items.drop b).length≤big) :
  Calls Tryz.prog 103 #[.pointer (some ⟨hp,0,none⟩),v.agg,.int .i64 a,.int .i64 b,x] w fun e w'=>e=.returned (.bool true)∧HStep w hp F (h.replace v a b l).1 w':=by
 obtain ⟨xa,xn,xc,rfl⟩:∃ a n c,x=.slice a n c:=by
  rcases hx with ⟨rfl,-⟩ | ⟨b,o,c,rfl,-⟩
  ·exact ⟨_,_,_,rfl⟩
  ·exact ⟨_,_,_,rfl⟩
 rcases r.case v with ⟨h0,-⟩ | ⟨L,c,r,hc,hn,hk,h1,co⟩
 ·rw [ho] at h0;cases h0
 ·rw [ho] at h1
  cases h1
  have hfew:=(r.obs c hc).few
  replace hfew:c.o.items.length≤1048576:=hfew
  obtain ⟨ia,ic,hit⟩:∃ a c',c.it=.slice a c.o.items.length c':=by
   obtain ⟨a,c',e,-⟩:=row_form (r.obs c hc).items
   exact ⟨a,c',e⟩
  have hic:c.o.items.length≤ic:=by
   have:=(r.obs c hc).items
   rw [hit] at this
   rcases this.2 with ⟨e,h0⟩ | ⟨g,cap,cur,e,-,-,h1,-⟩
   ·rw [h0];exact Nat.zero_le _
   ·cases e;exact h1
  have HRR:=zH r
  have HC:=zH hc
  have HN:=zH hn
  have HK:=zH hk
  have HIT:=zH hit
  have HX:=zH hx
  have HL:=zH (And.intro hl hl2)
  have HOV:=zH ho
  obtain ⟨n,hnn⟩:∃ n,n=c.o.items.length:=⟨_,rfl⟩
  rw [← hnn] at hb hfew hic
  have HNN:=zH hnn
  have ROB:=zH (show F L.rm∧∀ b,F b→b < w.heap.size from ⟨r.own.2.2.1,r.lt⟩)
  clear r hc hn hk hit hx hl hl2 ho hnn
  go_enter Tryz.func103,Tryz.ntmps103
  go_wp2_with fail
  refine (co _ (by (repeat (first | exact qA _ | assumption | refine qB ?_ _ | refine qC ?_ | refine qD ?_ _ | refine qE ?_ _ (by simp<;>omega) _)))).mono ?_
  rintro e W1 ⟨rfl,hb1⟩
  have hbw:Bl w W1:=Bl.trans (by (repeat (first | exact qA _ | assumption | refine qB ?_ _ | refine qC ?_ | refine qD ?_ _ | refine qE ?_ _ (by simp<;>omega) _))) hb1
  have hr1:=HRR.out.bl hbw
  obtain ⟨⟨c1,c2,c3,c4,c5⟩,c6⟩:=(hr1.obs c HC.out).cells (Bl.refl _)
  rw [HIT.out,← HNN.out] at c4
  have t0:decide ((a:Int) < 0)=false:=decide_eq_false (by omega)
  have t1:decide (b < a)=false:=decide_eq_false (by omega)
  have t2:decide (n < b)=false:=decide_eq_false (by omega)
  have HBW:=zH hbw
  have ch:=hold_any W1 hp h F L hr1 1 _ l (HX.out.bl hbw) HL.out.1
  clear c1 c2 c3 c5 hbw hb1 hr1 co
  go_wp2_with fail
  refine ch.mono ?_
  rintro e W2 ⟨rfl,lr1,hr2,hst2⟩
  obtain ⟨⟨d1,d2,d3,d4,d5⟩,d6⟩:=(hr2.obs c HC.out).cells (Bl.refl _)
  rw [HIT.out,← HNN.out] at d4
  obtain ⟨s1,hs1⟩:∃ s1,s1=(if b=a then ia else ia.map (·.add (a * 3))):=⟨_,rfl⟩
  have e1:(Instr.slice 30 (.slice ia n ic) (some (.int .i64 a)) (some (.int .i64 b)) (some (.int .i64 b))).run Tryz.prog W2=.ok (.slice s1 (b - a) (b - a)) W2:=by
   rw [hs1];exact run_cut3 W2 30 23 Tryz.underlying30 sizeV ia n ic a b hab (by omega)
  have hv2:Vs W2 (.slice s1 (b - a) (b - a)) ((c.o.items.take b).drop a):=by
   have:=Vs.of_own (hr2.obs c HC.out).items
   rw [HIT.out,← HNN.out] at this
   rw [hs1]
   exact this.cut a b b hab (by rw [← HNN.out];exact hb) (Nat.le_refl _) (by omega)
  have ch2:=hold_any W2 hp _ F _ hr2 (-1) _ _ hv2 (by rw [List.length_drop,List.length_take];unfold big;omega)
  have HST2:=zH hst2
  have HR2:=zH hr2
  clear d1 d2 d3 d5 hv2 hr2 hst2 ch hs1
  go_wp2_with fail
  refine ch2.mono ?_
  rintro e W3 ⟨rfl,lr2,hr3,hst3⟩
  obtain ⟨⟨d1,d2,d3,d4',d5⟩,d6'⟩:=(hr3.obs c HC.out).cells (Bl.refl _)
  rw [HIT.out,← HNN.out] at d4'
  have dfz:W3.frozen? ⟨c.ob,3,none⟩=false:=by simp [World.frozen?,(hr3.obs c HC.out).blk]
  have hvi:Vs W3 (.slice ia n ic) c.o.items:=by
   have:=Vs.of_own (hr3.obs c HC.out).items
   rw [HIT.out,← HNN.out] at this
   exact this
  obtain ⟨s2,hs2,hs2'⟩:∃ s2,s2=(if a=0 then ia else ia.map (·.add (0 * 3)))∧ia=s2:=⟨_,rfl,by cases ia<;>simp [Addr.add]⟩
  obtain ⟨s3,hs3⟩:∃ s3,s3=(if ic=b then ia else ia.map (·.add (b * 3))):=⟨_,rfl⟩
  have e2:(Instr.slice 30 (.slice ia n ic) none (some (.int .i64 a)) (some (.int .i64 a))).run Tryz.prog W3.drew=.ok (.slice s2 a a) W3.drew:=by
   rw [hs2];exact run_cutTo W3.drew 30 23 Tryz.underlying30 sizeV ia n ic a (by omega)
  have v2:Vs W3 (.slice s2 a a) (c.o.items.take a):=by
   have:=hvi.cut 0 a a (Nat.zero_le _) (by have:=HNN.out;omega) (Nat.le_refl _) (by omega)
   rw [List.drop_zero] at this
   rw [hs2];exact this
  have v3:Vs W3 (.slice s3 (n - b) (ic - b)) (c.o.items.drop b):=by
   have:=hvi.cut b n ic hb (by have:=HNN.out;omega) hic (Nat.le_refl _)
   rw [List.take_of_length_le (by have:=HNN.out;omega)] at this
   rw [hs3];exact this
  have vx:Vs W3 (.slice xa xn xc) l:=vs_map (vs_map (HX.out.bl HBW.out) HST2.out ((HRR.out.bl HBW.out).refs.choose_spec.choose_spec.1)) hst3 (HR2.out.refs.choose_spec.choose_spec.1)
  have hbox:=(MapKept.heap_alloc W3 (.cells #[.slice s2 a a,.slice xa xn xc,.slice s3 (n - b) (ic - b)] 30)).1
  have hb0:Bl W3 (W3.alloc (.cells #[.slice s2 a a,.slice xa xn xc,.slice s3 (n - b) (ic - b)] 30)).drew:=by (repeat (first | exact qA _ | assumption | refine qB ?_ _ | refine qC ?_ | refine qD ?_ _ | refine qE ?_ _ (by simp<;>omega) _))
  have cc:Calls Tryz.prog 235 #[.slice (some ⟨W3.heap.size,0,none⟩) 3 3] (W3.alloc (.cells #[.slice s2 a a,.slice xa xn xc,.slice s3 (n - b) (ic - b)] 30)).drew (NewVs (W3.alloc (.cells #[.slice s2 a a,.slice xa xn xc,.slice s3 (n - b) (ic - b)] 30)).drew (c.o.items.take a++l++c.o.items.drop b)):=by
   have:=concat_vals (W3.alloc (.cells #[.slice s2 a a,.slice xa xn xc,.slice s3 (n - b) (ic - b)] 30)).drew (.slice (some ⟨W3.heap.size,0,none⟩) 3 3) [c.o.items.take a,l,c.o.items.drop b]
    ⟨W3.heap.size,0,3,[.slice s2 a a,.slice xa xn xc,.slice s3 (n - b) (ic - b)],rfl,by simp,by show W3.heap.size < (W3.alloc _).heap.size;rw [zL];omega,rfl,fun j y hj=>by
     show (W3.alloc _).cell? _=_
     rw [cell_of hbox,Nat.zero_add];simpa using hj,fun j y l' hy hl'=>by
     match j,hy,hl' with
     | 0,hy,hl'=>cases hy;cases hl';exact v2.bl hb0
     | 1,hy,hl'=>cases hy;cases hl';exact vx.bl hb0
     | 2,hy,hl'=>cases hy;cases hl';exact v3.bl hb0⟩ (by
     have:=HL.out.2
     simpa [List.append_assoc] using this)
   simpa [List.append_assoc] using this
  have HR3:=zH hr3
  have HST3:=zH hst3
  have HT:=zH (fun (W4:World) (a4:Option Addr) (n4 c4:Nat) (q:NewVs W3 (c.o.items.take a++l++c.o.items.drop b) (.returned (.slice a4 n4 c4)) W4)=>replace_end HRR.out HC.out HN.out HK.out HOV.out hab (by have:=HNN.out;omega) HL.out.2 HBW.out HR2.out HST2.out hr3 hst3 q rfl rfl)
  clear d1 d2 d3 d5 hvi hs2 v2 v3 vx hbox hr3 hst3 d4 d6
  subst hs2'
  by_cases hib:ic=b
  ·subst hib
   rw [if_pos rfl] at hs3
   have hs3:=hs3.symm
   subst hs3
   have hz:n - ic=0:=Nat.sub_eq_zero_of_le hic
   rw [Nat.sub_self,hz] at cc hb0
   go_wp2
   go_region_with (go_at_call 235;refine cc.mono ?_;rintro e W4 hx4;obtain ⟨a4,n4,c4',rfl,hx4,hb4⟩:=hx4.form;have hb5:=hb0.trans hb4;have s0:W4.cell? ⟨c.ob,3,none⟩=some (.slice ia n _):=(World.cell?_of_block (w:=W3) (a:=⟨c.ob,3,none⟩) (hb5.at d6')).trans d4';have sf:W4.frozen? ⟨c.ob,3,none⟩=false:=(World.frozen?_of_block (w:=W3) (a:=⟨c.ob,3,none⟩) (hb5.at d6')).trans dfz;have HX4:=zH (HT.out W4 a4 n4 c4' (Fresh.base hx4 hb0));clear hx4 hb4 hb5)
   all_goals
    go_wp2
    go_ret
    exact ⟨rfl,HX4.out⟩
  ·rw [if_neg hib] at hs3
   subst hs3
   go_wp2
   go_region_with (go_at_call 235;refine cc.mono ?_;rintro e W4 hx4;obtain ⟨a4,n4,c4',rfl,hx4,hb4⟩:=hx4.form;have hb5:=hb0.trans hb4;have s0:W4.cell? ⟨c.ob,3,none⟩=some (.slice ia n _):=(World.cell?_of_block (w:=W3) (a:=⟨c.ob,3,none⟩) (hb5.at d6')).trans d4';have sf:W4.frozen? ⟨c.ob,3,none⟩=false:=(World.frozen?_of_block (w:=W3) (a:=⟨c.ob,3,none⟩) (hb5.at d6')).trans dfz;have HX4:=zH (HT.out W4 a4 n4 c4' (Fresh.base hx4 hb0));clear hx4 hb4 hb5)
   all_goals
    go_wp2
    go_ret
    exact ⟨rfl,HX4.out⟩
end
section
open Go.RowKit
theorem Hp.replace_none {h:Hp} {v:V} {a b:Int} {l:List V} (h0:h.of v=none):h.replace v a b l=(h,false):=by unfold Hp.replace;rw [h0]
theorem Hp.replace_bad {h:Hp} {v:V} {a b:Int} {l:List V} {o:Ob} (h0:h.of v=some o) (hb:¬ (0≤a∧a≤b∧b≤o.items.length)):h.replace v a b l=(h,false):=by
 unfold Hp.replace;rw [h0];exact if_neg hb
set_option maxRecDepth 100000 in
set_option maxHeartbeats 8000000 in
theorem replace_no (w:World) (hp:Nat) (h:Hp) (F:Foot) (r:HR w hp h F) (v:V) (a b:Int) (x:Value) (l:List V) (ho:h.of v=none∨∃ o,h.of v=some o∧¬ (0≤a∧a≤b∧b≤o.items.length)) :
  Calls Tryz.prog 103 #[.pointer (some ⟨hp,0,none⟩),v.agg,.int .i64 a,.int .i64 b,x] w fun e w'=>e=.returned (.bool false)∧Bl w w':=by
 rcases r.case v with ⟨h0,co⟩ | ⟨L,c,r,hc,hn,hk,h1,co⟩
 ·clear ho h0 r
  go_enter Tryz.func103,Tryz.ntmps103
  go_wp2_with fail
  refine (co _ (by (repeat (first | exact qA _ | assumption | refine qB ?_ _ | refine qC ?_ | refine qD ?_ _ | refine qE ?_ _ (by simp<;>omega) _)))).mono ?_
  rintro e W1 ⟨rfl,hb1⟩
  go_wp2
  go_ret
  exact ⟨rfl,(Bl.trans (by (repeat (first | exact qA _ | assumption | refine qB ?_ _ | refine qC ?_ | refine qD ?_ _ | refine qE ?_ _ (by simp<;>omega) _))) hb1)⟩
 ·have hbad:¬ (0≤a∧a≤b∧b≤c.o.items.length):=by
   rcases ho with ho | ⟨o,ho,hb⟩
   ·rw [h1] at ho;cases ho
   ·rw [h1] at ho;cases ho;exact hb
  have hfew:=(r.obs c hc).few
  replace hfew:c.o.items.length≤1048576:=hfew
  obtain ⟨ia,ic,hit⟩:∃ a c',c.it=.slice a c.o.items.length c':=by
   obtain ⟨a,c',e,-⟩:=row_form (r.obs c hc).items
   exact ⟨a,c',e⟩
  have HO:=zH (r.obs c hc)
  obtain ⟨n,hnn⟩:∃ n,n=c.o.items.length:=⟨_,rfl⟩
  rw [← hnn] at hbad hfew hit
  have HIT:=zH hit
  have hcase:(decide (a < 0)=true)∨(decide (a < 0)=false∧decide (b < a)=true)∨(decide (a < 0)=false∧decide (b < a)=false∧decide ((n:Int) < b)=true):=by
   by_cases q1:a < 0
   ·exact .inl (decide_eq_true q1)
   ·by_cases q2:b < a
    ·exact .inr (.inl ⟨decide_eq_false q1,decide_eq_true q2⟩)
    ·exact .inr (.inr ⟨decide_eq_false q1,decide_eq_false q2,decide_eq_true (by omega)⟩)
  clear ho r hc hn hk h1 hit hnn hbad
  rcases hcase with t0 | ⟨t0,t1⟩ | ⟨t0,t1,t2⟩
  all_goals
   go_enter Tryz.func103,Tryz.ntmps103
   go_wp2_with fail
   refine (co _ (by (repeat (first | exact qA _ | assumption | refine qB ?_ _ | refine qC ?_ | refine qD ?_ _ | refine qE ?_ _ (by simp<;>omega) _)))).mono ?_
   rintro e W1 ⟨rfl,hb1⟩
   have hbw:Bl w W1:=Bl.trans (by (repeat (first | exact qA _ | assumption | refine qB ?_ _ | refine qC ?_ | refine qD ?_ _ | refine qE ?_ _ (by simp<;>omega) _))) hb1
   obtain ⟨⟨c1,c2,c3,c4,c5⟩,c6⟩:=HO.out.cells hbw
   rw [HIT.out] at c4
   have HBW:=zH hbw
   clear c1 c2 c3 c5 hbw hb1 co
   go_wp2
   go_ret
   exact ⟨rfl,HBW.out⟩
theorem replace_any (w:World) (hp:Nat) (h:Hp) (F:Foot) (r:HR w hp h F) (v:V) (a b:Int) (x:Value) (l:List V) (hx:Vs w x l) (hl:l.length≤big) (hl2:∀ o,h.of v=some o→o.items.length + l.length≤big) :
  Calls Tryz.prog 103 #[.pointer (some ⟨hp,0,none⟩),v.agg,.int .i64 a,.int .i64 b,x] w fun e w'=>e=.returned (.bool (h.replace v a b l).2)∧HStep w hp F (h.replace v a b l).1 w':=by
 by_cases hy:∃ o,h.of v=some o∧0≤a∧a≤b∧b≤o.items.length
 ·obtain ⟨o,ho,h1,h2,h3⟩:=hy
  obtain ⟨a,rfl⟩:∃ n:Nat,a=n:=⟨a.toNat,by omega⟩
  obtain ⟨b,rfl⟩:∃ n:Nat,b=n:=⟨b.toNat,by omega⟩
  have e:(h.replace v a b l).2=true:=by unfold Hp.replace;rw [ho];simp only;rw [if_pos (by omega)]
  rw [e]
  refine replace_yes w hp h F r v a b x l hx o ho (by omega) (by omega) hl ?_
  have:=hl2 o ho
  simp only [List.length_append,List.length_take,List.length_drop]
  omega
 ·have ho:h.of v=none∨∃ o,h.of v=some o∧¬ (0≤a∧a≤b∧b≤o.items.length):=by
   cases h0:h.of v with
   | none=>exact .inl rfl
   | some o=>exact .inr ⟨o,rfl,fun hh=>hy ⟨o,h0,hh⟩⟩
  have e:h.replace v a b l=(h,false):=by
   rcases ho with h0 | ⟨o,h0,hb⟩
   ·exact Hp.replace_none h0
   ·exact Hp.replace_bad h0 hb
  rw [e]
  exact (replace_no w hp h F r v a b x l ho).mono fun e w' ⟨q1,q2⟩=>⟨q1,HStep.of_bl r q2⟩
end
end Go.Proofs.YtbbokgpklihkoaaGreatDoor.W
