/- EvK2 EvU ConO EvU2 EvD -/
import Derived.Test.YtobooojhmgicpaaGreatDoorPart22
import Derived.Test.YtobooojhmgicpaaGreatDoorBootS
import Derived.Test.YtobooojhmgicpaaGreatDoorPart10
import Derived.Test.YtobooojhmgicpaaGreatDoorPart6
set_option linter.unusedVariables false
set_option linter.unusedSimpArgs false
namespace Go.Proofs.YtobooojhmgicpaaGreatDoor.W.E
section
set_option maxRecDepth 100000
open Go.RowKit
def bootSp (h:Hp):Hp × V:=h.make 3 [] 0 []
def bootAt (h:Hp) (k:Nat):Hp × List (List UInt8 × V):=(excF.take k).foldl (bootStep (bootSp h).2) ((bootSp h).1,[])
def bootM (h:Hp):Hp × V:=(bootAt h 17).1.make 12 [101,120,99,101,112,116,105,111,110,115] 0 []
def bootBt (h:Hp) (k:Nat):Hp:=(excF.take k).foldl (bootPut (bootM h).2 (bootAt h 17).2) (bootM h).1
def hpBoot (h:Hp):Hp × V:=(((bootBt h 17).free [(bootSp h).2.n]).1,(bootM h).2)
theorem take_succ' {α:Type} {l:List α} {k:Nat} {f:α} (hf:l[k]?=some f):l.take (k + 1)=l.take k++[f]:=by rw [List.take_add_one,hf];rfl
theorem bootAt_succ (h:Hp) {k:Nat} {f:List UInt8} (hf:excF[k]?=some f):bootAt h (k + 1)=bootStep (bootSp h).2 (bootAt h k) f:=by
 unfold bootAt;rw [take_succ' hf,List.foldl_append];rfl
theorem bootBt_succ (h:Hp) {k:Nat} {f:List UInt8} (hf:excF[k]?=some f):bootBt h (k + 1)=bootPut (bootM h).2 (bootAt h 17).2 (bootBt h k) f:=by
 unfold bootBt;rw [take_succ' hf,List.foldl_append];rfl
def clsB (h:Hp) (l:List V):Bool:=Nat.blt l.length 1048576 && Nat.ble (total (h.ordersO l) + l.length) 1048576 && match orderF 0 (numbersO l) (h.ordersO l) with
 | some q=>!Nat.beq q.length 0 && Nat.ble q.length 1048576
 | none=>true
theorem clsB_ok {h:Hp} {l:List V} (hb:clsB h l=true):ClsOk h l:=by
 unfold clsB at hb
 simp only [Bool.and_eq_true] at hb
 obtain ⟨⟨h1,h2⟩,h3⟩:=hb
 refine ⟨by simpa [Nat.blt_eq] using h1,Nat.le_of_ble_eq_true h2,fun q hq=>?_⟩
 rw [hq] at h3
 simp only [Bool.and_eq_true,Bool.not_eq_true'] at h3
 refine ⟨fun hn=>?_,Nat.le_of_ble_eq_true h3.2⟩
 subst hn
 exact absurd h3.1 (by decide)
def copyB (cl sp:V):Hp→List V→Bool
 | _,[]=>true
 | h,k :: t=>smallB h 2 && copyB cl sp (h.put cl k (h.get sp k).1).1 t
theorem RefsOk.copy (cl sp:V):∀ {l:List V} {h:Hp},RefsOk h→copyB cl sp h l=true→RefsOk (copyK cl sp h l)
 | [],h,r,_=>r
 | k :: t,h,r,hb=>by
  simp only [copyB,Bool.and_eq_true] at hb
  show RefsOk (copyK cl sp (h.put cl k (h.get sp k).1).1 t)
  exact RefsOk.copy cl sp (r.put hb.1) hb.2
def clsRB (h:Hp) (nm:List UInt8) (bases:List V) (sp:V):Bool :=
 match orderF 0 (numbersO bases) (h.ordersO bases) with
 | some l=>let m:=h.make 5 nm 0 ((l.drop 1).map fun n=>vref n);smallB h ((l.drop 1).map fun n=>vref n).length && (get h.all (wrap64 (h.last + 1))).isNone && copyB m.2 sp m.1 (m.1.keys sp)
 | none=>true
theorem RefsOk.classO {h:Hp} (r:RefsOk h) {nm:List UInt8} {bases:List V} {sp:V} (hb:clsRB h nm bases sp=true):RefsOk (h.classO nm bases sp).1:=by
 unfold clsRB at hb
 unfold Hp.classO
 split
 ·split
  ·rename_i l hl
   rw [hl] at hb
   simp only [Bool.and_eq_true] at hb
   split
   ·exact RefsOk.copy _ _ (r.make hb.1.1 hb.1.2) hb.2
   ·exact r
  ·exact r
 ·exact r
theorem RefsOk.drop {h:Hp} (r:RefsOk h) (n:Int) (hs:smallB h 2=true):RefsOk (h.drop n).1:=by
 have hs:=small_ok hs
 unfold Hp.drop
 split
 ·rename_i o ho
  intro m
  show hold (-1) h.refs o.values m=occ m ((W.del h.all n).flatMap fun p=>p.2.values)
  rw [r.down (by omega) (fun m=>by have:=occ_in ho m;exact this) m,r m]
  have:=occ_vals_del ho m
  show (occ m (h.all.flatMap fun p=>p.2.values):Int) - _=_
  omega
 ·exact r
theorem RefsOk.free1 {h:Hp} (r:RefsOk h) (n:Int) (hs:smallB h 2=true):RefsOk (h.free [n]).1:=by
 unfold Hp.free
 split
 ·rename_i o ho
  simp only [Hp.free]
  exact r.drop n hs
 ·exact r
def bootChk:Bool :=
 (List.range 17).all fun k=>match excF[k]? with
  | some f=>clsB (bootAt hp0 k).1 (bootBases (bootAt hp0 k).2 f) && clsRB (bootAt hp0 k).1 (excN f) (bootBases (bootAt hp0 k).2 f) (bootSp hp0).2 && smallB (bootBt hp0 k) 2
  | none=>true
theorem boot_chk:(bootChk && smallB hp0 0 && smallB (bootAt hp0 17).1 0 && (get (bootAt hp0 17).1.all (wrap64 ((bootAt hp0 17).1.last + 1))).isNone && smallB (bootBt hp0 17) 2 && Nat.beq excF.length 17)=true:=by kernel_rfl
theorem boot_facts:(∀ k f,excF[k]?=some f→clsB (bootAt hp0 k).1 (bootBases (bootAt hp0 k).2 f)=true∧clsRB (bootAt hp0 k).1 (excN f) (bootBases (bootAt hp0 k).2 f) (bootSp hp0).2=true∧smallB (bootBt hp0 k) 2=true)∧smallB hp0 0=true∧smallB (bootAt hp0 17).1 0=true∧(get (bootAt hp0 17).1.all (wrap64 ((bootAt hp0 17).1.last + 1))).isNone=true∧smallB (bootBt hp0 17) 2=true:=by
 have h:=boot_chk
 simp only [Bool.and_eq_true] at h
 obtain ⟨⟨⟨⟨⟨h1,h2⟩,h3⟩,h4⟩,h5⟩,h6⟩:=h
 refine ⟨fun k f hf=>?_,h2,h3,h4,h5⟩
 have hk:k < 17:=by have:=(List.getElem?_eq_some_iff.1 hf).1;rw [Nat.eq_of_beq_eq_true h6] at this;exact this
 have:=List.all_eq_true.1 h1 k (List.mem_range.2 hk)
 rw [hf] at this
 simp only [Bool.and_eq_true] at this
 exact ⟨this.1.1,this.1.2,this.2⟩
theorem bootAt_ok:∀ k,k≤17→RefsOk (bootAt hp0 k).1
 | 0,_=>RefsOk.make (fun n=>rfl) boot_facts.2.1 (by kernel_rfl)
 | k + 1,hk=>by
  have ih:=bootAt_ok k (by omega)
  have hlen:excF.length=17:=by decide
  obtain ⟨f,hf⟩:∃ f,excF[k]?=some f:=⟨_,List.getElem?_eq_getElem (by omega)⟩
  rw [bootAt_succ hp0 hf]
  exact RefsOk.classO ih (boot_facts.1 k f hf).2.1
theorem bootBt_ok:∀ k,k≤17→RefsOk (bootBt hp0 k)
 | 0,_=>RefsOk.make (bootAt_ok 17 (Nat.le_refl _)) boot_facts.2.2.1 boot_facts.2.2.2.1
 | k + 1,hk=>by
  have ih:=bootBt_ok k (by omega)
  have hlen:excF.length=17:=by decide
  obtain ⟨f,hf⟩:∃ f,excF[k]?=some f:=⟨_,List.getElem?_eq_getElem (by omega)⟩
  rw [bootBt_succ hp0 hf]
  exact RefsOk.put ih (boot_facts.1 k f hf).2.2
theorem hpBoot_ok:RefsOk (hpBoot hp0).1:=RefsOk.free1 (bootBt_ok 17 (Nat.le_refl _)) _ boot_facts.2.2.2.2
def xBoot:ExtF:=fun vs st=>match vs with
 | [p]=>match heapAt st.x p with
  | some h=>match h.all with
   | []=>bif decide (h.last=0) then some ((hpBoot hp0).2.sv,st.wh (hnum st.x) (hpBoot hp0).1) else none
   | _=>none
  | none=>none
 | _=>none
theorem xBoot_ok:ExtOk 21 xBoot:=fun w0 vs st v st' h=>by
 unfold xBoot at h
 split at h
 ·rename_i p
  split at h
  ·rename_i hh hq
   split at h
   ·rename_i hall
    cases hl:decide (hh.last=0) with
    | false=>rw [hl] at h;cases h
    | true =>
     rw [hl,cond_true] at h;cases h
     have hl0:=of_decide_eq_true hl
     clear hl
     refine ext_writer (heapAt_x hq) fun e w F us c F0 hR hvs k=>?_
     obtain ⟨u,us,rfl,hu,hvs⟩:=vrs_cons hvs
     cases vrs_nil hvs
     obtain ⟨b',c',F1,g1,k',rfl⟩:=heapAt_ok hq hR hu
     rw [heapAt_x hq] at g1;cases g1
     obtain ⟨z1,a1⟩:=k.at_;obtain ⟨z2,a2⟩:=k'.at_
     rw [a1] at a2;cases a2
     have he:hh=hp0:=by
      have hr:hh.refs=fun _=>0:=by
       funext n
       rw [k.ok n]
       show ((occ n (hh.all.flatMap fun p=>p.2.values):Nat):Int)=0
       rw [hall];rfl
      obtain ⟨x1,x2,x3⟩:=hh
      simp only at hall hr hl0
      subst hall hr hl0
      rfl
     subst he
     refine ⟨hpBoot_ok,_,V.sv_ok _ _,?_⟩
     exact boot_seq w c hp0 F0 k.hr hR.gl k.n0 k.n2 (bootAt hp0) (bootBt hp0) rfl (fun k f hf=>bootAt_succ hp0 hf) rfl (fun k f hf=>bootBt_succ hp0 hf) (fun k f hf l hl=>by subst hl;exact clsB_ok (boot_facts.1 k f hf).1)
   ·cases h
  ·cases h
 ·cases h
end
section
set_option maxRecDepth 100000
open Go.RowKit
def excSV (x:Exc):SV:=.agg [.str x.name,.int .i64 x.arg.k,.int .i64 x.arg.n,.str x.arg.s,.bool x.has]
theorem excSV_ok (e:Env) (x:Exc):VR e (excSV x) x.agg:=.agg (.cons (.str _) (.cons (.int _ _) (.cons (.int _ _) (.cons (.str _) (.cons (.bool _) .nil)))))
def xClass:ExtF:=fun vs st=>match vs with
 | [p,a0,a1,a2]=>(match heapAt st.x p with | some h=>(match toS a0 with | some x0=>(match rowV st.m a1 with | some x1=>(match toV a2 with | some x2=>(bif clsB h x1 && clsRB h x0 x1 x2 then some (.tup [(h.classO x0 x1 x2).2.1.sv,excSV (h.classO x0 x1 x2).2.2],st.wh (hnum st.x) (h.classO x0 x1 x2).1) else none) | none=>none) | none=>none) | none=>none) | none=>none)
 | _=>none
theorem xClass_ok:ExtOk 78 xClass:=fun w0 vs st v st' h=>by
 unfold xClass at h
 split at h
 ·rename_i p a0 a1 a2
  split at h
  ·rename_i hh hq
   split at h
   ·rename_i y0 e0
    split at h
    ·rename_i y1 e1
     split at h
     ·rename_i y2 e2
      cases hc:clsB hh y1 && clsRB hh y0 y1 y2 with
      | false=>rw [hc] at h;cases h
      | true =>
       rw [hc,cond_true] at h
       simp only [Bool.and_eq_true] at hc
       cases h
       refine ext_writer (heapAt_x hq) fun e w F us c F0 hR hvs k=>?_
       obtain ⟨uq,us,rfl,q,hvs⟩:=vrs_cons hvs
       obtain ⟨uq0,us,rfl,q0,hvs⟩:=vrs_cons hvs
       obtain ⟨uq1,us,rfl,q1,hvs⟩:=vrs_cons hvs
       obtain ⟨uq2,us,rfl,q2,hvs⟩:=vrs_cons hvs
       cases vrs_nil hvs
       obtain ⟨b',c',F1,g1,k',rfl⟩:=heapAt_ok hq hR q
       rw [heapAt_x hq] at g1;cases g1;obtain ⟨z1,a1⟩:=k.at_;obtain ⟨z2,a2⟩:=k'.at_;rw [a1] at a2;cases a2
       refine ⟨RefsOk.classO k.ok hc.2,?_⟩
       obtain rfl:=toS_ok e0 q0
       obtain ⟨r1,m1⟩:=rowV_ok e1 hR q1
       obtain rfl:=toV_ok e2 q2
       obtain ⟨ab,cb,rfl⟩:∃ ab cb,uq1=.slice ab y1.length cb:=by
        rcases r1.vs with ⟨h1,h2⟩ | ⟨b,o,cap,h1,-⟩
        ·subst h2;exact ⟨_,_,h1⟩
        ·exact ⟨_,_,h1⟩
       have hk:=clsB_ok hc.1
       exact ⟨_,.tup (.cons (V.sv_ok _ _) (.cons (excSV_ok _ _) .nil)),classO_any w c hh F0 k.hr y0 ab cb y1 y2 (Vx.less r1 k.sub) m1 hk.1 hk.2.1 hk.2.2⟩
     ·cases h
    ·cases h
   ·cases h
  ·cases h
 ·cases h
end
end Go.Proofs.YtobooojhmgicpaaGreatDoor.W.E
namespace Go.Proofs.YtobooojhmgicpaaGreatDoor.W
section
open Go Go.RowKit
set_option maxRecDepth 100000 in
theorem grow_ops (w:World) (n:Nat) (hn:n≤big):Calls Tryz.prog 266 #[.slice none 0 0,.int .i64 n] w (Roomy w):=by
 obtain ⟨i0,hi,hz0,hz1,hz2⟩:=info_parts Tryz.infoV
 replace hn:n≤1048576:=hn
 by_cases h0:n=0
 ·subst h0
  go_enter Tryz.func266,Tryz.ntmps266
  go_wp2
  go_ret
  exact ⟨_,_,rfl,World.ownsRow_nil _ _ _ _,Bl.refl _⟩
 ·obtain ⟨cap,cur,h1,h2,h3,hap⟩:=run_app_zeros (P:=Tryz.prog) w 95 3 95 26 i0 _ Tryz.underlying95 Tryz.underlying3 hi hz0 (by rw [hz1];rfl) n (by omega) hn (by rw [hz2];omega)
  have HF:=Lib.hid (show Roomy w (.returned (.slice (some ⟨w.heap.size,0,none⟩) 0 cap)) (w.drew.alloc (.cells cur 26)) from
   ⟨_,_,rfl,⟨rfl,.inr ⟨w.heap.size,cap,cur,rfl,Nat.le_refl _,(MapKept.heap_alloc w.drew _).1,Nat.zero_le _,h2,by rw [h3,hz1],rfl⟩⟩,(Bl.refl w).dr'.al' _⟩)
  have hpos:0 < n:=by omega
  clear h3 hi hz0 hz1 hz2
  go_enter Tryz.func266,Tryz.ntmps266
  go_wp2_with (at_builtin;refine wpList_app2 rfl (.tmp 20) (.tmp 21) 95 3 rfl _ _ (by simp [Go.Act.eval]) (by simp [Go.Act.eval]) _ _ hap ?_)
  go_ret
  exact HF.out
set_option maxRecDepth 100000 in
set_option maxHeartbeats 4000000 in
theorem concat_ops (w:World) (x:Value) (ls:List (List V)) (hx:Sls w x ls) (hl:ls.flatten.length≤big) :
  Calls Tryz.prog 207 #[x] w (NewVs w ls.flatten):=by
 obtain ⟨b,o,xc,ys,rfl,hn1,hb,hyl,hcell,hvs⟩:=hx
 obtain ⟨i0,hi,hz0,hz1,hz2⟩:=info_parts Tryz.infoV
 obtain ⟨n,hn⟩:∃ n,n=ls.length:=⟨_,rfl⟩
 rw [← hn] at hyl hn1 ⊢
 replace hl:ls.flatten.length≤1048576:=hl
 have hpre:∀ k,(ls.take k).flatten.length≤ls.flatten.length:=fun k=>by
  conv=>rhs;rw [← List.take_append_drop k ls,List.flatten_append,List.length_append]
  omega
 have hsnoc:∀ k l,ls[k]?=some l→(ls.take (k + 1)).flatten=(ls.take k).flatten++l:=fun k l h=>by
  rw [List.take_add_one,h];simp
 have hrow:∀ k,k < n→∃ y l,ys[k]?=some y∧ls[k]?=some l∧w.cell? ⟨b,o + k,none⟩=some y∧Vs w y l:=fun k hk=>by
  have h1:k < ys.length:=by omega
  have h2:k < ls.length:=by omega
  have e1:=List.getElem?_eq_getElem h1
  have e2:=List.getElem?_eq_getElem h2
  exact ⟨_,_,e1,e2,hcell k _ e1,hvs k _ _ e1 e2⟩
 have HN:=Lib.hid hn
 have HL:=Lib.hid hl
 have HPRE:=Lib.hid hpre
 have HSN:=Lib.hid hsnoc
 have HROW:=Lib.hid hrow
 clear hyl hcell hvs hn hpre hsnoc hrow hl
 go_enter Tryz.func207,Tryz.ntmps207
 go_wp2
 go_loop [3,5,11] (fun s v i=>∃ k:Nat,k≤n∧i=.int .i64 k∧s=.int .i64 (tot ls k:Nat)) (fun _ _ i=>n - (intOf i).toNat)
 case atStart=>exact ⟨0,Nat.zero_le _,rfl,rfl⟩
 case round =>
  obtain ⟨k,hk,rfl,rfl⟩:=hrel
  by_cases hlt:k < n
  ·obtain ⟨y,l,hy,hll,hc,hv⟩:=HROW.out k hlt
   obtain ⟨ya,yc,rfl⟩:∃ a c,y=.slice a l.length c:=by
    rcases hv with ⟨rfl,rfl⟩ | ⟨b,o,c,rfl,-⟩
    ·exact ⟨_,_,rfl⟩
    ·exact ⟨_,_,rfl⟩
   have hs:=HSN.out k l hll
   have hs2:(tot ls (k + 1):Int)=(tot ls k:Int) + (l.length:Int):=by unfold tot;rw [hs,List.length_append];omega
   have hbd:tot ls (k + 1)≤1048576:=Nat.le_trans (HPRE.out _) HL.out
   have hbd2:tot ls k + l.length≤1048576:=by omega
   have HS:=Lib.hid hs2
   generalize hB:l.length=B at *
   clear hv hs hs2 hbd hB
   go_wp2
   go_round
   case rel=>exact ⟨k + 1,by omega,by go_num,by rw [HS.out]⟩
   case measure=>simp [intOf];omega
  ·obtain rfl:k=n:=by omega
   have hT:tot ls k=ls.flatten.length:=by unfold tot;rw [HN.out,List.take_length]
   have gw:=fun w':World=>grow_ops w' (tot ls k) (by rw [hT];exact HL.out)
   clear hT
   go_wp2_with fail
   refine (gw _).mono ?_
   rintro e W1 ⟨na,nc,rfl,ho,hb1⟩
   have HR0:=Lib.hid (show W1.ownsRow w.heap.size 26 3 (.slice na (tot ls 0) nc) (tot ls 0) ((ls.take 0).flatten.flatMap V.cs)∧Bl w W1 from ⟨ho,hb1⟩)
   clear ho hb1 gw
   go_wp2
   go_loopw [6,8,27] (fun nv v i wr=>∃ (j:Nat) (a:Option Addr) (c:Nat),j≤k∧i=.int .i64 j∧nv=.slice a (tot ls j) c∧wr.ownsRow w.heap.size 26 3 (.slice a (tot ls j) c) (tot ls j) ((ls.take j).flatten.flatMap V.cs)∧Bl w wr) (fun _ _ i _=>k - (intOf i).toNat)
   case atStart=>exact ⟨0,na,nc,Nat.zero_le _,rfl,rfl,HR0.out⟩
   case round =>
    obtain ⟨j,a,c,hj,rfl,rfl,ho,hbw⟩:=hrel
    by_cases hlt2:j < k
    ·obtain ⟨y,l,hy,hll,hc,hv⟩:=HROW.out j hlt2
     have hs:=HSN.out j l hll
     have hs2:tot ls (j + 1)=tot ls j + l.length:=by unfold tot;rw [hs,List.length_append]
     have hbd:tot ls (j + 1)≤1048576:=Nat.le_trans (HPRE.out _) HL.out
     have hcw:wr.cell? ⟨b,o + j,none⟩=some y:=(World.cell?_of_block (w:=w) (a:=⟨b,o + j,none⟩) (hbw.at hb)).trans hc
     have hbl:b < wr.heap.size:=Nat.lt_of_lt_of_le hb hbw.sz
     have hvw:=hv.bl hbw
     obtain ⟨a2,c2,w4,hap,ho4,hb4⟩:∃ a2 c2 w4,(Builtin.append_ #[95,95] 95 #[.slice a (tot ls j) c,y]).run Tryz.prog wr=.ok (.slice a2 (tot ls (j + 1)) c2) w4 ∧
       w4.ownsRow w.heap.size 26 3 (.slice a2 (tot ls (j + 1)) c2) (tot ls (j + 1)) ((ls.take (j + 1)).flatten.flatMap V.cs)∧Bl w w4:=by
      rcases hvw with ⟨rfl,rfl⟩ | ⟨b',o',c',rfl,q1,q2,q3,q4⟩
      ·have hle:tot ls j≤c:=by
        rcases ho.2 with ⟨e,h0⟩ | ⟨g,cap,cur,e,-,-,h1,-⟩
        ·rw [h0];exact Nat.zero_le _
        ·cases e;exact h1
       refine ⟨a,c,wr,?_,?_,hbw⟩
       ·rw [hs2];exact run_app_nil wr 95 95 26 i0 Tryz.underlying95 hi a (tot ls j) c hle
       ·rw [hs2,hs,List.append_nil];exact ho
      ·have hown:wr.ownsRow 0 26 3 (.slice a (tot ls j) c) (tot ls j) ((ls.take j).flatten.flatMap V.cs):=⟨ho.1,ho.2.elim .inl (fun ⟨g,cap,cur,e,_,r⟩=>.inr ⟨g,cap,cur,e,Nat.zero_le _,r⟩)⟩
       obtain ⟨v',w4,hap,ho4,hgrow,hblk⟩:=run_app (P:=Tryz.prog) wr 95 95 26 i0 _ 3 32 Tryz.underlying95 hi hz0 hz1 hz2 rfl (by decide) _ _ _ hown ⟨b',o',none⟩ l.length c' (l.flatMap V.cs) (flat_len l)
        (fun j u h=>by rw [Addr.add_lit];exact q4 j u h) (fun u hu=>by
         obtain ⟨p,-,hp⟩:=List.mem_flatMap.1 hu
         exact cs_one p u hp) (by unfold maxLen;omega) (by omega)
       rw [← hs2] at ho4
       obtain ⟨a2,c2,rfl,-⟩:=row_form ho4
       refine ⟨a2,c2,w4,hap,⟨?_,?_⟩,?_⟩
       ·rw [hs,List.flatMap_append];exact ho4.1
       ·rcases ho4.2 with e | ⟨g,cap,cur,e,h0,hg,r⟩
        ·exact .inl e
        ·refine .inr ⟨g,cap,cur,e,?_,hg,by rw [hs,List.flatMap_append];exact r⟩
         rcases hblk with e2 | ⟨g2,e2,h2⟩
         ·rw [e] at e2;exact (ho.lt g (e2.symm.trans rfl)).1
         ·rw [e] at e2;simp [Value.ownBlock] at e2;have:=hbw.sz;omega
       ·refine ⟨hgrow.os.trans hbw.os,hgrow.tape.trans hbw.tape,hgrow.output.trans hbw.output,Nat.le_trans hbw.sz hgrow.size,fun k hk=>?_⟩
        rw [hgrow.block k (Nat.lt_of_lt_of_le hk hbw.sz) (fun e=>by have:=(ho.lt k e.symm).1;omega)]
        exact hbw.at hk
     have HREL:=Lib.hid (And.intro ho4 hb4)
     clear ho hbw hc hv hs hs2 hbd hvw ho4 hb4 hy hll hi hz0 hz1 hz2
     go_wp2_with (at_builtin;refine wpList_app rfl (.tmp 31) (.tmp 32) 95 rfl _ _ (by simp [Go.Act.eval]) (by simp [Go.Act.eval]) _ _ hap ?_)
     go_roundw
     case rel=>first | exact ⟨j + 1,a2,c2,by omega,by go_num,rfl,HREL.out⟩ | ((repeat apply Exists.intro);exact ⟨⟨j + 1,a2,c2,by omega,by go_num,rfl,HREL.out⟩,rfl⟩)
     case measure=>simp [intOf];omega
    ·obtain rfl:j=k:=by omega
     have HF:=Lib.hid (show NewVs w ls.flatten (.returned (.slice a (tot ls j) c)) wr from by
      have e:tot ls j=ls.flatten.length:=by unfold tot;rw [HN.out,List.take_length]
      refine ⟨_,rfl,?_,hbw⟩
      have h:=ho
      rw [HN.out,List.take_length] at h
      rw [show tot ls ls.length=ls.flatten.length from by rw [← HN.out];exact e] at h
      rw [e];exact h)
     clear ho hbw
     go_wp2
     go_ret
     exact HF.out
end
end Go.Proofs.YtobooojhmgicpaaGreatDoor.W
namespace Go.Proofs.YtobooojhmgicpaaGreatDoor.W.E
section
set_option maxRecDepth 100000
open Go.RowKit
def toRows (m:T SB):List SV→Option (List (List V))
 | []=>some []
 | x :: t=>match rowV m x with
  | some l=>match toRows m t with
   | some ls=>some (l :: ls)
   | none=>none
  | none=>none
theorem toRows_ok {w0:B0} {e:Env} {st:St HX} {w:World} {F:FootE} (hR:Rl (HL w0) e st w F):∀ {xs:List SV} {ls:List (List V)} {us:List Value},toRows st.m xs=some ls→VRs e xs us→us.length=ls.length∧∀ (j:Nat) (y:Value) (l:List V),us[j]?=some y→ls[j]?=some l→Vs w y l
 | [],ls,us,h,hv=>by cases h;cases hv;exact ⟨rfl,fun j y l hy=>by simp at hy⟩
 | x :: t,ls,us,h,hv=>by
  unfold toRows at h
  split at h
  ·rename_i l hl
   split at h
   ·rename_i ls' hls
    cases h
    cases hv with
    | cons h1 h2 =>
     obtain ⟨a1,a2⟩:=toRows_ok hR hls h2
     refine ⟨by simp [a1],fun j y l' hy hl'=>?_⟩
     cases j with
     | zero=>simp at hy hl';subst hy hl';exact (rowV_ok hl hR h1).1.vs
     | succ j=>exact a2 j y l' (by simpa using hy) (by simpa using hl')
   ·cases h
  ·cases h
def rowsV (m:T SB) (x:SV):Option (List (List V)) :=
 match x with
 | .sl b off n esz _=>match m.get b with
  | some (.cells cs _ _ _)=>bif Nat.beq esz 1 && Nat.ble (off + n) cs.length && Nat.ble n 1000 && Nat.blt 0 n then toRows m ((cs.drop off).take n) else none
  | _=>none
 | _=>none
theorem rowsV_ok {w0:B0} {e:Env} {st:St HX} {w:World} {F:FootE} {x:SV} {ls:List (List V)} (h:rowsV st.m x=some ls) (hR:Rl (HL w0) e st w F) {u:Value} (hx:VR e x u):Sls w u ls:=by
 unfold rowsV at h
 split at h
 ·rename_i b off n esz ck
  split at h
  ·rename_i cs ro sib ty hm
   cases hc:Nat.beq esz 1 && Nat.ble (off + n) cs.length && Nat.ble n 1000 && Nat.blt 0 n with
   | false=>rw [hc] at h;cases h
   | true =>
    rw [hc,cond_true] at h
    simp only [Bool.and_eq_true,Nat.blt_eq] at hc
    obtain ⟨⟨⟨h1,h2⟩,h3⟩,h4⟩:=hc
    have h1:=Nat.eq_of_beq_eq_true h1
    have h2:=Nat.le_of_ble_eq_true h2
    have h3:=Nat.le_of_ble_eq_true h3
    cases hx with
    | sl hb hle hz hmx hck =>
     rename_i c o z cap
     obtain ⟨hnF,hB⟩:=hR.blk b _ c o z hm hb
     obtain ⟨us,k1,k2,k3⟩:=part_row hB off n
     obtain ⟨a1,a2⟩:=toRows_ok hR h k1
     have hlen:us.length=n:=by
      have:=k1.length
      simp at this;omega
     refine ⟨c,o + off,cap,us,by rw [← a1,hlen],by omega,hB.lt,a1,fun j y hj=>by rw [Nat.add_assoc];exact k2 j y hj,a2⟩
    | sle off' es o' hb=>omega
  ·cases h
 ·cases h
def xConc:ExtF:=fun vs st=>match vs with
 | [a0]=>(match rowsV st.m a0 with | some ls=>(bif Nat.blt st.nx TMax && Nat.ble ls.flatten.length 1048576 then some (st.row ls.flatten) else none) | none=>none)
 | _=>none
theorem xConc_any {f:Nat} (hf:∀ (w:World) (x:Value) (ls:List (List V)),Sls w x ls→ls.flatten.length≤big→Calls Tryz.prog f #[x] w (NewVs w ls.flatten)):ExtOk f xConc:=fun w0 vs st v st' h=>by
 unfold xConc at h
 split at h
 ·rename_i a0
  split at h
  ·rename_i ls hls
   cases hc:Nat.blt st.nx TMax && Nat.ble ls.flatten.length 1048576 with
   | false=>rw [hc] at h;cases h
   | true =>
    rw [hc,cond_true] at h
    simp only [Bool.and_eq_true,Nat.blt_eq] at hc
    have h1:=Option.some.inj h
    rw [show v=(st.row ls.flatten).1 from (congrArg Prod.fst h1).symm,show st'=(st.row ls.flatten).2 from (congrArg Prod.snd h1).symm]
    refine ext_row hc.1 fun e w F us hR hvs=>?_
    obtain ⟨u0,us,rfl,q0,hvs⟩:=vrs_cons hvs
    cases vrs_nil hvs
    exact hf w u0 ls (rowsV_ok hls hR q0) (Nat.le_of_ble_eq_true hc.2)
  ·cases h
 ·cases h
def xConcV:ExtF:=xConc
def xConcO:ExtF:=xConc
theorem xConcV_ok:ExtOk 155 xConcV:=xConc_any concat_vals
theorem xConcO_ok:ExtOk 207 xConcO:=xConc_any concat_ops
end
section
set_option maxRecDepth 100000
open Go.RowKit
def pl3:T (List Nat):=(.n .e none (.n .e none (.n (.n .e none (.n .e (some [0,3,5,7,9,11,13,15,17,19,21,23,25,26,28,31,33,35,37,39,41]) .e)) none .e)))
def pl4:T (List Nat):=(.n (.n (.n .e none (.n .e none (.n .e (some [0,2,4,6,8,11,13,15,17,19,21,23]) .e))) none .e) none (.n .e none (.n (.n (.n .e (some [1,3,5,7,9,11,13,15,16,18,21,23,25,27,29,31,33,35,37,39,41,43,45,47,49,51,53,55]) .e) none .e) none .e)))
def pl5:T (List Nat):=(.n (.n .e none (.n .e none (.n (.n .e (some [0,4,12,14,3,7,9,10,17,19]) .e) none .e))) none (.n (.n (.n (.n .e (some [0,2,4,14,16,18,20,7,9,11,12,23,25]) .e) (some [0,2,4,7,9,11,13,15,17,19,21]) (.n .e (some [1,3,5,7,8,10,12,15,17,19,21,23,25]) .e)) none .e) none .e))
def pl6:T (List Nat):=(.n (.n (.n .e none (.n .e none (.n .e none (.n .e (some [0,2,4,6,8,18,11,13,15,17,21]) .e)))) none (.n .e none (.n (.n .e (some [1,3,5,7,8,10,12,15,17,19,21,23,25,27,29,31,33,35,36,38,40,43,45,47,49,51]) .e) none (.n .e none (.n .e (some [0,4,10,3,7,9,13]) .e))))) none (.n (.n (.n (.n .e (some [0,4,10,3,7,9,13]) .e) none .e) none (.n .e none (.n .e none (.n .e (some [0,4,6,12,3,9,11,15]) .e)))) none (.n (.n .e none (.n .e none (.n .e (some [1,3,4,6,9,11,13,15,16,18,21,23,25,27,29,31,32,34,37,39,41,43]) .e))) none (.n (.n .e (some [0,4,10,3,7,9,13]) .e) none .e))))
def pl7:T (List Nat):=(.n (.n (.n (.n (.n .e (some [1,3,5,7,8,10,13,15,17,19,21,23]) .e) (some [0,2,4,6,8,11,13,15,17,19,21,23,25,27]) .e) none .e) none (.n (.n .e none (.n .e (some [0,2,4,7,9,11,13,15,17,19,21,23,25,26,28,30,34,36,38,40,33,43,45,47]) (.n .e (some [1,3,5,7,8,10,12,16,18,20,22,24,15,27,29]) .e))) none .e)) none (.n (.n .e none (.n .e none (.n .e none (.n .e (some [1,3,5,7,8,10,13,15,17,19,21,23]) .e)))) none (.n (.n (.n .e (some [1,3,5,7,8,10,12,16,18,20,22,15,25,27]) .e) none .e) none .e)))
def pl8:T (List Nat):=(.n (.n (.n (.n (.n .e none (.n .e (some [0,2,4,14,16,18,20,7,9,11,12,23,25]) .e)) none (.n .e none (.n .e (some [1,3,5,7,8,10,13,15,17,19,21,23,25,27,29,31,33,35,36,38,41,43,45,47]) .e))) none (.n (.n .e (some [0,2,4,7,9,11,13,15,17,19,21,23,24,26,29,31,33,35,37,39,41,43,45,47,49,51,53,54,56,58,62,64,66,68,61,71,73,75]) .e) none .e)) none (.n (.n .e none (.n (.n .e (some [1,3,4,6,9,11,13,15,17,19,21,22,25,27,29,30,33,35,37,39]) .e) none .e)) none .e)) none (.n (.n (.n .e none (.n .e none (.n .e (some [0,2,4,12,7,9,11,15]) .e))) none (.n (.n .e none (.n .e (some [0,4,12,14,3,7,9,10,17,19]) .e)) none .e)) none (.n (.n .e none (.n .e (some [0,2,4,6,9,11,13,15,17,19,21]) .e)) none .e)))
def pl9:T (List Nat):=(.n .e none (.n (.n (.n .e (some [1,3,5,7,8,10,13,15,17,19,21,23,25,27,29,30,33,35,37,39,41,43,44,46,49,51,53,55,57,59,61,63,65,66,69,71,73,75,77,79,80,82,85,87,89,91,93,95,97,99,101,103,105,107,109,111]) .e) none .e) none .e))
def pl14:T (List Nat):=(.n (.n (.n .e (some [0,2,4,6,8,20,11,13,15,16,18,23,25]) (.n .e (some [0,2,4,6,8,18,11,13,14,16,21,23]) .e)) (some [0,2,4,6,8,18,11,13,14,16,21,23]) (.n .e (some [0,2,4,6,8,18,11,13,14,16,21,23]) (.n .e (some [1,3,5,6,8,10,12,15,17,19,21]) .e))) none (.n (.n .e (some [0,2,4,6,9,11,13]) .e) (some [0,2,4,6,8,10,12,14,17,19,21]) (.n .e none (.n .e (some [0,2,4,6,8,18,11,13,14,16,21,23]) .e))))
def pl15:T (List Nat):=(.n (.n (.n .e (some [0,2,4,6,12,9,11,15,17,19,21]) .e) none .e) none (.n (.n .e (some [0,2,4,6,8,10,12,14,16,19,21,23,25]) .e) none .e))
def pl16:T (List Nat):=(.n .e none (.n .e (some [0,2,4,6,8,11,13,15]) .e))
def pl21:T (List Nat):=(.n .e none (.n .e none (.n (.n .e (some [0,2,4,6,8,11,13,15,16,18,21]) .e) none (.n .e none (.n .e (some [0,2,4,8,10,12,7,15]) .e)))))
def pl22:T (List Nat):=(.n (.n .e none (.n .e (some [0,2,4,6,8,10,12,14,16,18,20,23,25,27,29]) .e)) none .e)
def pl23:T (List Nat):=(.n .e none (.n .e (some [0,2,4,6,9,11,13,15,17,19]) .e))
def pl24:T (List Nat):=(.n .e none (.n .e (some [0,2,4,6,8,11,13,15,16,19,21,23]) .e))
def pl25:T (List Nat):=(.n (.n .e none (.n .e (some [0,2,4,6,8,10,12,16,15,19,21,22,25,27,29]) .e)) none (.n .e none (.n .e (some [0,2,4,8,7,11,13,15,17]) .e)))
def pl26:T (List Nat):=(.n (.n .e none (.n .e (some [0,2,4,6,8,10,12,16,15,19,21,22,25,27,29]) .e)) none (.n .e none (.n .e (some [0,2,4,8,7,11,13,15,17]) .e)))
def pl29:T (List Nat):=(.n .e none (.n (.n .e (some [0,2,4,6,8,10,12,16,18,20,26,15,23,25,29]) .e) none .e))
def pl30:T (List Nat):=(.n (.n (.n .e (some [0,2,4,6,8,10,13,15,16,19,21,23]) .e) none .e) none (.n (.n .e (some [0,2,4,6,8,10,13,15,17,19,21,23]) .e) none .e))
def pl31:T (List Nat):=(.n .e none (.n .e (some [0,2,4,6,8,10,14,16,13,19,21,23,25]) .e))
def pl32:T (List Nat):=(.n .e none (.n .e (some [0,2,4,6,8,10,14,13,17,19,21]) .e))
def pl33:T (List Nat):=(.n (.n .e none (.n .e (some [0,2,4,6,8,10,14,13,17,19,20,23,25,27]) .e)) none (.n .e none (.n .e (some [0,2,4,8,7,11,13,15,17]) .e)))
def pl34:T (List Nat):=(.n .e none (.n .e (some [0,2,4,6,8,10,14,18,13,17,21,23,25,27]) .e))
def pl35:T (List Nat):=(.n .e none (.n .e (some [0,2,4,6,8,10,14,13,17,19,21,23]) .e))
def pl36:T (List Nat):=(.n .e none (.n .e (some [0,2,4,6,8,10,14,18,13,17,21,23,24,27,29,31]) .e))
def pl37:T (List Nat):=(.n (.n .e none (.n .e (some [0,2,4,6,8,10,22,13,15,17,18,20,25,27]) .e)) none (.n .e (some [0,2,4,6,8,10,12,14,16,18,21]) .e))
def pl38:T (List Nat):=(.n .e none (.n .e (some [0,2,4,6,8,10,13,15,17,19]) .e))
def pl39:T (List Nat):=(.n .e none (.n .e (some [0,2,4,6,8,10,12,14,17,19,21,23]) .e))
def pl40:T (List Nat):=(.n .e none (.n .e (some [0,2,4,6,8,10,16,13,14,19,21,23,25]) .e))
def pl41:T (List Nat):=(.n .e none (.n .e (some [0,2,4,6,8,11,13,15,17,19,21,23]) .e))
def pl42:T (List Nat):=(.n (.n .e (some [1,3,5,6,8,10,12,15,17,19,21,23]) .e) none (.n .e (some [0,2,4,6,8,20,11,13,15,16,18,23,25]) .e))
def pl45:T (List Nat):=(.n .e none (.n .e (some [0,2,4,6,8,11,13,15,17,19,21]) .e))
def pl48:T (List Nat):=(.n .e none (.n .e (some [0,2,4,6,8,12,24,11,15,17,19,20,22,27,29]) .e))
def pl50:T (List Nat):=(.n .e none (.n .e (some [0,2,4,6,8,12,11,15,17,19]) .e))
def pl51:T (List Nat):=(.n .e none (.n .e (some [0,2,4,6,9,11,13,15]) (.n .e (some [0,2,4,6,8,10,12,14,16,18,20,26,23,25,29,31,32,35,37,39]) .e)))
def pl52:T (List Nat):=(.n (.n (.n (.n .e (some [0,2,4,7,9,11,13]) .e) none .e) none .e) none (.n (.n .e none (.n .e (some [0,2,4,6,8,10,14,13,17,19]) .e)) none (.n .e none (.n .e (some [0,2,4,6,9,11]) .e))))
def pl54:T (List Nat):=(.n .e none (.n (.n .e (some [0,2,4,6,9,11,13]) .e) none .e))
def pl55:T (List Nat):=(.n (.n (.n .e none (.n .e (some [0,2,4,6,8,11,13,15,17]) .e)) none .e) none (.n (.n (.n .e (some [0,2,4,6,8,10,12,14,24,17,19,20,22,27,29]) .e) none .e) none (.n .e none (.n .e none (.n .e (some [0,2,4,6,9,11,13]) .e)))))
def pl56:T (List Nat):=(.n (.n .e (some [0,2,4,6,8,10,12,14,17,19,21]) (.n .e (some [0,2,4,6,8,10,12,14,17,19,21]) .e)) none .e)
def pl58:T (List Nat):=(.n (.n .e none (.n .e (some [0,2,4,6,8,10,12,14,16,20,30,19,23,25,26,28,33,35]) .e)) none (.n (.n .e (some [0,2,6,5,9,11]) .e) none (.n .e (some [0,2,4,6,8,10,12,14,17,19,21,23,25,26,28,31]) .e)))
def pl59:T (List Nat):=(.n .e none (.n .e none (.n .e none (.n .e (some [0,2,4,6,8,11,13,15,17,18,20,23,25]) .e))))
def pl67:T (List Nat):=(.n (.n .e none (.n .e (some [0,2,4,6,9,11,12,15,17,19]) .e)) none .e)
def pl74:T (List Nat):=(.n .e none (.n .e (some [0,4,6,8,10,12,14,16,18,20,3,23,25]) .e))
def pl78:T (List Nat):=(.n (.n .e none (.n (.n .e (some [0,2,5,7]) .e) none .e)) none (.n .e none (.n .e none (.n .e (some [0,2,5,7]) .e))))
def pl79:T (List Nat):=(.n (.n .e none (.n .e (some [0,2,4,6,8,18,11,13,14,16,21,23]) .e)) none (.n (.n .e (some [0,2,4,6,8,11,13,15]) .e) none .e))
def pl83:T (List Nat):=(.n (.n (.n .e (some [0,2,4,6,8,10,12,14,16,18,20,22,24,27,29,31,33,35,37,39]) .e) none .e) none .e)
def pl90:T (List Nat):=(.n (.n .e none (.n .e (some [0,2,4,6,8,10,20,13,15,16,18,23,25]) .e)) none (.n (.n .e (some [0,3,5,6,8,10,12,15,17,18,20,23,25]) .e) (some [0,2,4,6,8,18,11,13,14,16,21,23]) .e))
def pl91:T (List Nat):=(.n (.n (.n .e (some [0,2,4,6,8,12,14,16,11,19,21]) .e) none .e) none .e)
def pl93:T (List Nat):=(.n .e none (.n .e none (.n .e none (.n .e (some [0,2,5,7]) .e))))
def pl96:T (List Nat):=(.n .e none (.n .e (some [0,2,4,6,8,10,12,14,16,20,19,23]) (.n .e (some [0,2,4,6,8,10,12,14,17,19,21]) .e)))
def pl97:T (List Nat):=(.n .e none (.n (.n .e (some [0,2,4,6,9,11,13,15]) .e) none (.n .e (some [0,2,4,6,9,11,13,15]) .e)))
def pl100:T (List Nat):=(.n (.n .e none (.n .e none (.n .e (some [0,2,4,16,7,9,11,12,14,19,21]) .e))) none .e)
def pl102:T (List Nat):=(.n .e none (.n .e none (.n .e (some [0,2,4,8,7,11,13,15]) .e)))
def pl103:T (List Nat):=(.n .e none (.n .e (some [0,3,5,7,9,10,12,15,17,19,21,23]) .e))
def pl104:T (List Nat):=(.n (.n .e none (.n .e (some [0,2,6,8,5,11,13,14,16,19,21]) .e)) none .e)
def pl106:T (List Nat):=(.n .e none (.n (.n (.n .e (some [0,2,4,8,10,14,16,18,7,13,21,23,24,27,29,31]) .e) none .e) none .e))
def pl110:T (List Nat):=(.n .e none (.n .e (some [0,2,4,6,8,10,14,13,17,19]) .e))
def pl111:T (List Nat):=(.n (.n .e none (.n .e (some [0,2,4,6,8,18,11,13,14,16,21,23]) .e)) none (.n (.n .e (some [0,2,4,6,9,11,13]) .e) none .e))
def pl115:T (List Nat):=(.n (.n .e (some [0,2,4,6,8,10,12,14,16,18,22,21,25]) .e) none (.n .e (some [0,2,4,6,8,12,11,15]) .e))
def pl117:T (List Nat):=(.n (.n .e (some [0,2,4,6,9,11,13,15,17,19,21,23,25,27,29,31,33,35,37,39,41,43,45,47,49,51]) (.n .e (some [0,2,4,6,8,10,12,14,16,18,21,23,25]) .e)) none (.n .e (some [0,2,4,6,9,11,13]) (.n .e none (.n .e (some [0,2,4,6,8,11,13,15,17,19]) .e))))
def pl119:T (List Nat):=(.n (.n (.n .e (some [2,4,14,1,7,9,10,12,17,19]) .e) none .e) none (.n (.n .e (some [0,2,4,7,9,11,13]) .e) none (.n .e (some [0,2,4,6,8,10,12,15,17,19]) .e)))
def pl120:T (List Nat):=(.n (.n .e (some [1,3,4,6,8,10,13,15,17,19,21]) (.n .e (some [0,2,4,6,9,11,13,14,16,19]) .e)) none (.n (.n .e (some [0,2,4,6,8,10,12,14,17,19,21]) .e) (some [0,2,4,6,8,18,11,13,14,16,21,23]) (.n (.n .e (some [0,2,4,6,12,9,11,15,17]) .e) none .e)))
def pl123:T (List Nat):=(.n (.n .e (some [0,2,4,6,8,11,13,15,17,19]) (.n .e (some [0,2,4,6,8,10,12,14,16,22,19,21,25]) .e)) none (.n (.n .e (some [0,2,4,6,8,11,13,15,17,19]) .e) none (.n .e (some [0,2,4,6,9,11,13]) .e)))
def pl126:T (List Nat):=(.n .e none (.n .e (some [0,2,4,6,8,10,12,14,16,18,20,22,25,27,29]) (.n .e none (.n .e (some [0,2,4,6,8,11,13,15]) .e))))
def pl127:T (List Nat):=(.n (.n .e (some [0,3,5,6,9,11,13,15,17,19,21,23,25,27,29,31,33,35,36,38,40,42,44,46,49,51]) .e) none .e)
def pl128:T (List Nat):=(.n (.n (.n .e (some [0,2,4,6,9,11,13]) .e) none .e) none (.n (.n .e (some [0,2,4,6,9,11,13]) .e) none (.n .e none (.n .e (some [0,2,4,6,9,11,13]) .e))))
def pl129:T (List Nat):=(.n (.n (.n .e (some [0,2,4,6,8,11,13,15]) .e) none .e) none .e)
def pl131:T (List Nat):=(.n (.n .e (some [0,2,5,7,9,11]) .e) none .e)
def pl133:T (List Nat):=(.n (.n .e (some [0,2,4,6,8,12,14,16,18,20,11,23,25]) .e) none (.n .e (some [0,2,4,6,8,18,11,13,14,16,21,23]) .e))
def pl136:T (List Nat):=(.n (.n (.n .e (some [0,2,4,6,8,12,11,15]) .e) (some [0,2,4,6,9,11,13,15]) (.n .e none (.n .e (some [0,2,4,6,9,11]) .e))) none (.n (.n .e none (.n .e (some [0,2,4,6,9,11,13]) .e)) none (.n .e (some [0,2,5,7,9]) .e)))
def pl138:T (List Nat):=(.n .e none (.n .e (some [0,2,4,6,10,12,14,16,18,9,21,23]) .e))
def pl141:T (List Nat):=(.n .e none (.n .e none (.n .e (some [0,2,4,6,9,11,13,15]) .e)))
def pl142:T (List Nat):=(.n .e none (.n .e (some [0,2,4,6,9,11,13,14,16,19,21]) .e))
def pl143:T (List Nat):=(.n (.n .e none (.n .e (some [0,2,4,6,8,10,12,15,17,19]) .e)) none .e)
def pl154:T (List Nat):=(.n (.n (.n .e none (.n .e (some [0,2,4,6,8,10,13,15,17,19,21,23,25]) .e)) none .e) none (.n (.n .e none (.n .e (some [0,2,4,6,8,11,13,15,17,19,21]) .e)) (some [0,2,4,6,9,11,13,14,16,19,21]) (.n .e (some [0,2,4,6,8,11,13,15,17]) (.n .e (some [0,2,4,6,8,11,13,15,17,19,21,23,25]) .e))))
def pl161:T (List Nat):=(.n .e none (.n .e none (.n .e (some [0,2,4,16,7,9,11,12,14,19,21]) .e)))
def pl164:T (List Nat):=(.n (.n .e none (.n .e (some [0,2,4,8,10,14,16,7,13,19,21,23,24,27,29,31]) .e)) none (.n .e none (.n .e (some [0,3,5,7,8,10,14,16,13,19,21,23,25]) .e)))
def pl169:T (List Nat):=(.n .e none (.n (.n .e none (.n .e (some [0,2,5,7]) .e)) none .e))
def pl172:T (List Nat):=(.n (.n .e (some [0,2,6,8,5,11,13,14,16,19,21]) .e) none .e)
def pl175:T (List Nat):=(.n (.n (.n .e none (.n .e (some [0,2,6,5,9]) .e)) none .e) none .e)
def pl176:T (List Nat):=(.n (.n .e none (.n .e (some [0,2,4,6,8,10,12,15,17,19,21]) .e)) none (.n .e (some [0,2,4,6,9,11,13]) .e))
def pl177:T (List Nat):=(.n (.n .e (some [0,2,5,7,9]) .e) none (.n .e none (.n .e (some [0,2,5,7,9,11]) .e)))
def pl178:T (List Nat):=(.n .e none (.n .e (some [0,2,4,6,8,10,22,13,15,17,18,20,25,27]) .e))
def pl179:T (List Nat):=(.n .e none (.n .e (some [0,2,4,6,8,11,13,15,17]) .e))
def pl180:T (List Nat):=(.n (.n .e none (.n .e (some [0,2,5,7,9,11]) .e)) none (.n .e (some [0,2,4,6,8,10,22,13,15,17,18,20,25,27]) .e))
def pl181:T (List Nat):=(.n .e none (.n (.n .e (some [0,2,4,6,8,14,11,13]) .e) none .e))
def pl182:T (List Nat):=(.n .e none (.n .e none (.n .e (some [0,2,5,7,9,11,13,14,16,19,21]) .e)))
def pl183:T (List Nat):=(.n .e none (.n .e none (.n .e (some [0,2,5,7,9,11,13,15,17]) .e)))
def pl197:T (List Nat):=(.n .e none (.n .e none (.n .e (some [0,2,4,6,8,11,13]) .e)))
def pl203:T (List Nat):=(.n (.n .e none (.n .e (some [0,2,4,6,9,11]) .e)) none (.n .e (some [0,2,4,6,9,11,13,14,16,19,21]) .e))
def pl206:T (List Nat):=(.n .e none (.n .e none (.n .e (some [0,2,4,8,7,11,13,15,17,19]) .e)))
def pl208:T (List Nat):=(.n (.n .e (some [0,2,4,6,8,11,13,15,17,18,20,22,24,26,30,29,33,35,37,38,40,42,44,46,49,51]) .e) none (.n .e (some [0,2,4,6,9,11,13]) .e))
def pl211:T (List Nat):=(.n (.n .e (some [0,3,5,6,9,11,12,14,17,19]) .e) none (.n .e (some [0,2,4,16,7,9,11,12,14,19,21]) .e))
def pl212:T (List Nat):=(.n .e none (.n .e none (.n .e (some [0,3,5,7,8,11,13,15,17]) .e)))
def pl216:T (List Nat):=(.n .e none (.n (.n .e none (.n .e none (.n .e (some [0,2,4,6,8,11,13,15,17]) .e))) none (.n .e none (.n .e none (.n .e (some [0,2,4,6,8,11,13,15,17]) .e)))))
def pl217:T (List Nat):=(.n .e (some [0,2,4,6,8,11,13,15]) .e)
def pl219:T (List Nat):=(.n .e (some [0,2,4,6,8,10,12,14,16,26,19,21,22,24,29,31]) .e)
def pl223:T (List Nat):=(.n .e none (.n .e none (.n .e (some [0,2,4,6,8,10,12,14,16,19,21,23]) .e)))
def pl226:T (List Nat):=(.n .e none (.n (.n (.n .e (some [0,2,5,7,9,11]) .e) none .e) none .e))
def pl230:T (List Nat):=(.n (.n .e none (.n .e (some [0,2,4,6,8,10,13,15]) .e)) none .e)
def pl241:T (List Nat):=(.n (.n (.n .e none (.n (.n .e (some [0,2,4,6,8,10,12,14,24,17,19,20,22,27,29]) .e) none .e)) none (.n (.n (.n .e (some [0,3,5]) .e) none .e) none .e)) none (.n (.n .e (some [0,2,6,8,5,11,13,15]) .e) none (.n (.n .e none (.n .e (some [0,3,5]) .e)) (some [0,3,5,7,9,10,12,16,18,15,21,23,25,27]) .e)))
def pl246:T (List Nat):=(.n .e none (.n .e (some [0,2,4,6,8,10,20,22,13,15,16,18,25,27]) (.n .e (some [0,2,4,6,8,11,13,15]) .e)))
def pl249:T (List Nat):=(.n .e none (.n .e none (.n .e (some [0,2,4,8,12,7,11,15,17,19,21]) .e)))
def pl252:T (List Nat):=(.n .e none (.n (.n .e (some [0,2,4,6,8,18,11,13,14,16,21,23]) .e) none .e))
def pl253:T (List Nat):=(.n (.n .e none (.n .e none (.n .e (some [0,2,4,6,9,11,13,15]) .e))) none (.n (.n .e none (.n .e (some [0,2,4,6,9,11,13,15,17]) .e)) none .e))
def pl254:T (List Nat):=(.n (.n (.n .e none (.n .e (some [0,2,4,6,8,12,16,11,15,19,21,23,25,27]) .e)) none .e) none .e)
def pl255:T (List Nat):=(.n (.n (.n .e (some [0,2,4,6,8,20,11,13,15,16,18,23,25]) .e) none .e) none (.n (.n .e (some [0,2,4,12,7,9,11,15,17]) .e) none (.n .e none (.n .e (some [0,2,6,5,9,11]) .e))))
def pl256:T (List Nat):=(.n (.n .e (some [0,2,6,5,9,11]) .e) none (.n .e (some [0,2,4,6,8,20,11,13,15,16,18,23,25]) .e))
def pl258:T (List Nat):=(.n (.n (.n .e (some [0,2,4,6,8,20,11,13,15,16,18,23,25]) .e) (some [0,2,4,6,9,11,13,15]) .e) none (.n .e none (.n .e (some [0,2,4,6,9,11,13,15]) .e)))
def pl264:T (List Nat):=(.n .e none (.n .e (some [0,2,4,6,9,11,13,15]) (.n .e (some [0,2,4,6,9,11,13,15,17,19]) .e)))
def pl265:T (List Nat):=(.n (.n .e (some [0,2,4,6,9,11,13,15,17]) (.n .e (some [0,2,4,6,9,11,13,15]) .e)) none (.n .e (some [0,2,4,6,8,16,11,13,15,19]) .e))
def pl271:T (List Nat):=(.n .e none (.n .e (some [0,3,5,7,9,10,13,15,17,19,21,23]) .e))
def pl272:T (List Nat):=(.n .e none (.n .e none (.n .e (some [0,2,4,6,9,11,13,15]) .e)))
def pl277:T (List Nat):=(.n (.n (.n (.n .e (some [0,2,4,6,8,10,12,14,16,19,21,23,25,27,29]) .e) none .e) none .e) none .e)
def pl294:T (List Nat):=(.n .e none (.n .e none (.n .e (some [0,2,4,6,8,10,13,15]) .e)))
def pl305:T (List Nat):=(.n .e none (.n .e (some [0,2,4,6,9,11,13,15]) .e))
def pl306:T (List Nat):=(.n .e none (.n .e (some [0,2,4,6,8,11,13,15]) .e))
def pl316:T (List Nat):=(.n (.n (.n .e none (.n .e none (.n .e (some [1,3,5,7,9,11,12,14,16,18,20,22,25,27,29,31,33,35,37,39]) .e))) none .e) none (.n (.n .e none (.n .e (some [1,3,5,7,9,11,12,14,16,18,20,22,25,27,29,31,33,35,37,39]) .e)) none .e))
def pl317:T (List Nat):=(.n .e none (.n (.n .e none (.n .e (some [1,3,5,7,9,11,12,14,16,18,20,22,25,27,29,31,33,35,37,39]) .e)) none .e))
def pl324:T (List Nat):=(.n .e none (.n .e (some [1,3,5,7,8,10,13,15,17,19]) .e))
def pl328:T (List Nat):=(.n .e none (.n .e none (.n .e (some [0,2,4,6,10,12,14,16,18,22,9,21,25]) .e)))
def pl340:T (List Nat):=(.n .e (some [0,2,4,6,12,18,20,22,24,26,9,11,15,17,29,31]) .e)
def pl342:T (List Nat):=(.n .e none (.n (.n .e none (.n .e none (.n .e (some [1,3,5,6,8,10,12,14,16,19,21,23,25,27,29]) .e))) none .e))
def pl345:T (List Nat):=(.n (.n (.n .e (some [0,2,4,6,8,10,12,14,16,18,20,23,25,27,29,31,33,35]) .e) none (.n .e (some [0,3,5,7,8,10,12,14,16,19,21,23,25,27,29]) .e)) none .e)
def pl346:T (List Nat):=(.n (.n (.n .e none (.n .e (some [0,2,4,6,8,10,12,14,16,18,20,22,24,27,29,31,33,35,37,39]) .e)) none .e) none .e)
def pl347:T (List Nat):=(.n (.n (.n .e none (.n .e (some [0,2,4,6,8,10,12,14,16,18,20,22,24,27,29,31,33,35,37,39]) .e)) none .e) none .e)
def pl349:T (List Nat):=(.n .e none (.n .e none (.n .e (some [0,2,4,6,8,10,12,14,16,19,21,23,25,27,29,31]) .e)))
def pl350:T (List Nat):=(.n (.n (.n (.n .e none (.n .e (some [0,2,4,6,8,11,13,15,17,19,21]) .e)) none .e) none (.n .e none (.n .e none (.n .e (some [0,2,4,6,8,11,13,15,17,19,21]) .e)))) none (.n (.n .e (some [0,3,5,7,8,10,12,14,16,19,21,23,25,27,29,31]) (.n .e none (.n .e (some [0,2,4,6,8,10,12,14,16,18,20,23,25,27,29,31,33,35]) .e))) none (.n (.n .e (some [0,2,4,6,8,10,12,14,16,18,20,23,25,27,29,31,33,35]) .e) none (.n (.n .e (some [0,2,4,6,8,10,12,14,16,18,20,23,25,27,29,31,33,35]) .e) none .e))))
def pl352:T (List Nat):=(.n (.n .e none (.n .e none (.n .e (some [0,2,4,6,8,10,12,14,16,19,21,23,25,27,29,31]) .e))) none (.n (.n .e (some [0,3,5,7,8,10,12,14,16,19,21,23,25,27]) .e) (some [0,2,4,6,8,10,12,14,16,19,21,23,25,27,29,31]) (.n .e (some [0,3,5,7,8,10,12,14,16,19,21,23,25,27,29]) .e)))
def pl353:T (List Nat):=(.n (.n (.n .e none (.n .e (some [0,2,4,6,8,10,12,14,16,19,21,23,25,27,29,31]) (.n .e (some [0,2,4,6,8,10,12,14,16,19,21,23,25,27,29,31]) .e))) none (.n .e none (.n .e (some [0,2,4,6,8,10,12,14,16,19,21,23,25,27,29,31]) .e))) none (.n (.n (.n .e (some [0,3,5,7,8,10,12,14,16,19,21,23,25,27]) (.n .e (some [0,2,4,6,8,10,12,14,16,19,21,23,25,27,29,31]) .e)) (some [0,3,5,7,8,10,12,14,16,19,21,23,25,27,29]) .e) (some [0,2,4,6,8,10,12,14,16,19,21,23,25,27,29,31]) (.n .e (some [0,3,5,7,8,10,12,14,16,19,21,23,25,27]) (.n .e none (.n .e (some [0,3,5,7,8,10,12,14,16,19,21,23,25,27,29]) .e)))))
def pl356:T (List Nat):=(.n (.n (.n .e (some [0,2,4,6,8,10,12,14,16,18,20,22,24,26,28,30,33,35,37,39,41,43,45,47]) .e) none .e) none (.n (.n .e (some [0,2,4,6,8,10,12,14,17,19,21,23,25,27]) .e) none (.n .e (some [0,2,5,7,9,10,12,14,16,18,20,22,24,27,29,31,33,35,37,39]) .e)))
def pl358:T (List Nat):=(.n (.n .e (some [0,2,4,7,9,11,13,15,17,19]) .e) none (.n .e (some [0,2,4,7,9,11,13,15,17,19]) (.n .e (some [0,2,4,7,9,11,13,15,17,19]) .e)))
def pl361:T (List Nat):=(.n .e none (.n .e (some [0,2,4,6,8,11,13,15,17]) .e))
def planT:T (T (List Nat)):=(.n (.n (.n (.n (.n (.n (.n (.n .e (some pl254) .e) (some pl126) .e) none (.n (.n .e none (.n .e (some pl350) .e)) none .e)) (some pl30) (.n (.n .e (some pl110) .e) none (.n (.n .e (some pl206) .e) (some pl78) (.n .e (some pl142) .e)))) (some pl14) (.n (.n (.n (.n .e (some pl246) .e) none (.n .e (some pl182) .e)) (some pl54) (.n (.n .e none (.n .e (some pl342) .e)) none .e)) (some pl22) (.n (.n (.n .e (some pl230) (.n .e (some pl358) .e)) (some pl102) (.n .e none (.n .e (some pl294) .e))) (some pl38) .e))) (some pl6) (.n (.n (.n .e (some pl58) (.n (.n .e none (.n .e (some pl346) .e)) (some pl90) (.n .e (some pl154) .e))) (some pl26) (.n (.n .e (some pl106) .e) (some pl42) (.n .e (some pl74) (.n .e (some pl138) .e)))) none (.n (.n (.n .e none (.n .e (some pl178) (.n .e (some pl306) .e))) (some pl50) .e) none (.n (.n (.n .e (some pl226) .e) none .e) (some pl34) (.n .e none (.n .e none (.n .e (some pl258) .e))))))) none (.n (.n (.n (.n (.n (.n .e (some pl252) .e) none (.n .e none (.n .e (some pl316) .e))) none .e) none (.n (.n .e none (.n .e (some pl172) .e)) none .e)) none (.n (.n (.n .e none (.n .e (some pl180) .e)) (some pl52) (.n (.n .e (some pl212) (.n .e (some pl340) .e)) none .e)) none (.n (.n (.n .e none (.n .e (some pl356) .e)) (some pl100) (.n .e (some pl164) .e)) (some pl36) (.n (.n .e none (.n .e (some pl324) .e)) none .e)))) (some pl4) (.n (.n (.n (.n .e (some pl120) .e) (some pl56) (.n (.n .e (some pl216) .e) none .e)) (some pl24) (.n (.n .e (some pl104) .e) (some pl40) (.n (.n .e none (.n .e (some pl328) .e)) none (.n .e (some pl136) (.n .e (some pl264) .e))))) (some pl8) (.n (.n (.n .e none (.n .e (some pl176) .e)) (some pl48) (.n (.n .e (some pl208) .e) none (.n .e none (.n .e (some pl272) .e)))) (some pl16) (.n (.n (.n .e none (.n .e (some pl352) .e)) (some pl96) .e) (some pl32) (.n .e none (.n .e (some pl128) (.n .e (some pl256) .e)))))))) none (.n (.n (.n (.n (.n (.n (.n .e (some pl253) .e) none (.n .e none (.n .e (some pl317) .e))) none (.n (.n .e none (.n .e (some pl349) .e)) (some pl93) .e)) (some pl29) (.n .e (some pl45) (.n .e none (.n .e (some pl141) .e)))) none (.n (.n (.n .e (some pl117) (.n .e (some pl181) .e)) none (.n .e none (.n .e none (.n .e (some pl277) .e)))) (some pl21) (.n .e (some pl37) (.n (.n .e (some pl197) .e) none (.n .e (some pl133) .e))))) (some pl5) (.n (.n (.n (.n (.n .e (some pl249) .e) none .e) none (.n (.n .e (some pl217) (.n .e (some pl345) .e)) none .e)) (some pl25) (.n (.n (.n .e none (.n .e (some pl361) .e)) none (.n .e (some pl169) .e)) (some pl41) (.n .e none (.n .e none (.n .e (some pl265) .e))))) (some pl9) (.n (.n (.n (.n .e (some pl241) .e) none (.n .e (some pl177) (.n .e (some pl305) .e))) none .e) none (.n (.n (.n .e none (.n .e (some pl353) .e)) (some pl97) (.n .e (some pl161) .e)) (some pl33) (.n .e none (.n .e (some pl129) .e)))))) none (.n (.n (.n (.n (.n .e (some pl123) .e) (some pl59) (.n (.n .e (some pl219) (.n .e (some pl347) .e)) (some pl91) .e)) none (.n .e none (.n (.n .e (some pl203) .e) none .e))) none (.n (.n (.n .e (some pl115) (.n .e (some pl179) .e)) (some pl51) (.n (.n .e (some pl211) .e) (some pl83) .e)) none (.n .e (some pl35) (.n .e (some pl67) (.n .e (some pl131) .e))))) (some pl3) (.n (.n (.n (.n .e (some pl119) (.n .e (some pl183) .e)) (some pl55) .e) (some pl23) (.n (.n .e (some pl103) .e) (some pl39) .e)) (some pl7) (.n (.n (.n .e (some pl111) (.n .e (some pl175) .e)) none (.n .e (some pl79) (.n .e (some pl143) (.n .e (some pl271) .e)))) (some pl15) (.n (.n (.n .e (some pl223) .e) none .e) (some pl31) (.n .e none (.n .e (some pl127) (.n .e (some pl255) .e)))))))))
def plan (f id:Nat):Option Plan :=
 match planT.get f with
 | some t=>match t.get id with
  | some l=>some (planOf l)
  | none=>none
 | none=>none
def chkF (f:Nat) (g:Func):Bool:=!(g.name == "runtime.NumGoroutine") && match g.body with | some c=>planOkC (plan f) c | none=>true
def chkL:List Func→Nat→Bool
 | [],_=>true
 | g :: t,k=>chkF k g && chkL t (k + 1)
theorem chkL_ok:∀ {l:List Func} {k:Nat},chkL l k=true→∀ j g,l[j]?=some g→chkF (k + j) g=true
 | [],_,_,j,g,h=>by simp at h
 | a :: t,k,h,j,g,hj=>by
  simp only [chkL,Bool.and_eq_true] at h
  cases j with
  | zero=>simp at hj;subst hj;exact h.1
  | succ j=>have:=chkL_ok h.2 j g (by simpa using hj);rwa [show k + 1 + j=k + (j + 1) by omega] at this
set_option maxHeartbeats 4000000 in
theorem chk_all:chkL Tryz.prog.funcs.toList 0=true:=by kernel_rfl
theorem fn_all (f:Nat) (g:Func) (h:Tryz.prog.funcs[f]?=some g):Tryz.prog.funcs[f]?=some g∧(g.name == "runtime.NumGoroutine")=false∧∀ c,g.body=some c→planOkC (plan f) c=true:=by
 have:=chkL_ok chk_all f g (by simpa using h)
 rw [Nat.zero_add] at this
 simp only [chkF,Bool.and_eq_true,Bool.not_eq_true'] at this
 refine ⟨h,this.1,fun c hc=>?_⟩
 have h2:=this.2
 rw [hc] at h2
 exact h2
end
end Go.Proofs.YtobooojhmgicpaaGreatDoor.W.E
