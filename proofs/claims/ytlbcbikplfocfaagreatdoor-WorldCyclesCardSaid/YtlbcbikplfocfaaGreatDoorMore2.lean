/- CoJ CoK EvCo -/
import Derived.Test.YtlbcbikplfocfaaGreatDoorMore1
import Derived.Test.YtlbcbikplfocfaaGreatDoorEvB
import Derived.Test.YtlbcbikplfocfaaGreatDoorEvR2
import Derived.Test.YtlbcbikplfocfaaGreatDoorObjD
import Derived.Test.YtlbcbikplfocfaaGreatDoorPart0
import Derived.Test.YtlbcbikplfocfaaGreatDoorPart1
import Derived.Test.YtlbcbikplfocfaaGreatDoorPart10
import Derived.Test.YtlbcbikplfocfaaGreatDoorPart11
import Derived.Test.YtlbcbikplfocfaaGreatDoorPart12
import Derived.Test.YtlbcbikplfocfaaGreatDoorPart13
import Derived.Test.YtlbcbikplfocfaaGreatDoorPart14
import Derived.Test.YtlbcbikplfocfaaGreatDoorPart15
import Derived.Test.YtlbcbikplfocfaaGreatDoorPart16
import Derived.Test.YtlbcbikplfocfaaGreatDoorPart17
import Derived.Test.YtlbcbikplfocfaaGreatDoorPart18
import Derived.Test.YtlbcbikplfocfaaGreatDoorPart19
import Derived.Test.YtlbcbikplfocfaaGreatDoorPart2
import Derived.Test.YtlbcbikplfocfaaGreatDoorPart20
import Derived.Test.YtlbcbikplfocfaaGreatDoorPart21
import Derived.Test.YtlbcbikplfocfaaGreatDoorPart22
import Derived.Test.YtlbcbikplfocfaaGreatDoorPart24
import Derived.Test.YtlbcbikplfocfaaGreatDoorPart25
import Derived.Test.YtlbcbikplfocfaaGreatDoorPart26
import Derived.Test.YtlbcbikplfocfaaGreatDoorPart4
import Derived.Test.YtlbcbikplfocfaaGreatDoorPart6
import Derived.Test.YtlbcbikplfocfaaGreatDoorPart7
import Derived.Test.YtlbcbikplfocfaaGreatDoorPart8
import Derived.Test.YtlbcbikplfocfaaGreatDoorPart9
set_option linter.unusedVariables false
set_option linter.unusedSimpArgs false
namespace Go.Proofs.YtlbcbikplfocfaaGreatDoor.W
section
open Go.RowKit
structure Collected (h:Hp) (e:List V) (h':Hp):Prop where
 sub:∃ T:Int→Bool,h'.all=h.all.filter (fun p=>T p.1)∧∀ n,h.has n=true→(T n=true↔Reach h e n)
 cons:Cons h' []
 last:h'.last=h.last
theorem refsOf_mem {h:Hp} {m n:Int} {o:Ob} (ho:get h.all m=some o):n∈h.refsOf (vref m)↔(0 < occ n o.values∧h.has n=true):=by
 have e1:h.refsOf (vref m)=h.refsIn o.values:=by unfold Hp.refsOf;rw [of_vref,ho];rfl
 rw [e1,← List.count_pos_iff,count_refsIn]
 cases h.has n<;>simp
theorem reach_has {h:Hp} {e:List V} {n:Int} (hr:Reach h e n):h.has n=true:=by
 cases hr with
 | base h1 _=>exact h1
 | step _ hn=>exact refs_has hn
theorem Swept.get {h h1:Hp} {e:List V} (s:Swept h e h1) (hnd:(h.all.map (·.1)).Nodup) {n:Int} {o:Ob} (hg:W.get h1.all n=some o):W.get h.all n=some o:=by
 obtain ⟨T,hT⟩:=s.sub
 rw [hT] at hg
 exact ((get_filter hnd T).1 hg).1
theorem Swept.reach {h h1:Hp} {e:List V} (s:Swept h e h1) (hnd:(h.all.map (·.1)).Nodup):(∀ n,Reach h e n→h1.has n=true)∧∀ n,Reach h1 e n↔Reach h e n:=by
 have hin:∀ n,Reach h e n→h1.has n=true:=fun n hn=>by
  obtain ⟨o,ho⟩:=s.max (Reach h e) (fun m hm=>by
   refine ⟨Option.isSome_iff_exists.1 (reach_has hm),?_⟩
   cases hm with
   | base _ h2=>exact .inl h2
   | step hk hm =>
    rename_i k
    obtain ⟨o,ho⟩:=Option.isSome_iff_exists.1 (reach_has hk)
    exact .inr ⟨k,o,hk,ho,((refsOf_mem ho).1 hm).1⟩) n hn
  exact Option.isSome_iff_exists.2 ⟨o,ho⟩
 refine ⟨hin,fun n=>⟨fun hr=>?_,fun hr=>?_⟩⟩
 ·induction hr with
  | base h1 h2 =>
   obtain ⟨o,ho⟩:=Option.isSome_iff_exists.1 h1
   exact .base (Option.isSome_iff_exists.2 ⟨o,s.get hnd ho⟩) h2
  | step hk hn ih =>
   obtain ⟨o,ho⟩:=Option.isSome_iff_exists.1 (reach_has hk)
   obtain ⟨q1,q2⟩:=(refsOf_mem ho).1 hn
   obtain ⟨o2,ho2⟩:=Option.isSome_iff_exists.1 q2
   exact .step ih ((refsOf_mem (s.get hnd ho)).2 ⟨q1,Option.isSome_iff_exists.2 ⟨o2,s.get hnd ho2⟩⟩)
 ·induction hr with
  | base h1 h2=>exact .base (hin _ (.base h1 h2)) h2
  | step hk hn ih =>
   obtain ⟨o,ho⟩:=Option.isSome_iff_exists.1 (hin _ hk)
   obtain ⟨q1,-⟩:=(refsOf_mem (s.get hnd ho)).1 hn
   exact .step ih ((refsOf_mem ho).2 ⟨q1,hin _ (.step hk hn)⟩)
theorem drop_cons {g:Hp} (hc:Cons g []) (hv:g.vals.length < 4611686018427387904) {n:Int} {o:Ob} (hn:W.get g.all n=some o) :
  (g.drop n).1.all=del g.all n∧Cons (g.drop n).1 []∧(g.drop n).1.last=g.last∧(g.drop n).1.vals.length≤g.vals.length:=by
 have hd:(g.drop n).1={ g with all:=del g.all n,refs:=hold (-1) g.refs o.values }:=by unfold Hp.drop;rw [hn]
 have hall:(g.drop n).1.all=del g.all n:=by rw [hd]
 have hsub:∀ m,(occ m g.vals:Int)=occ m ((del g.all n).flatMap fun p=>p.2.values) + occ m o.values:=fun m=>by
  have:=occ_vals_del hn m
  unfold Hp.vals;omega
 refine ⟨hall,⟨fun m=>?_,?_⟩,by rw [hd],?_⟩
 ·rw [hd]
  show hold (-1) g.refs o.values m=occ m ((del g.all n).flatMap fun p=>p.2.values) + occ m []
  rw [hold_down _ _ _ (fun k=>?_)]
  ·have h1:=hc.refs m
   have h2:=hsub m
   simp [occ] at h1 ⊢;omega
  ·have h1:=hc.refs k
   have h2:=hsub k
   have h3:=occ_le k g.vals
   simp [occ] at h1;omega
 ·rw [hall];exact nodup_del hc.nd n
 ·unfold Hp.vals
  rw [hall,del_filter hc.nd n]
  have:∀ l:List (Int × Ob),((l.filter fun p=>!decide (p.1=n)).flatMap fun p=>p.2.values).length≤(l.flatMap fun p=>p.2.values).length:=by
   intro l
   induction l with
   | nil=>simp
   | cons p t ih =>
    rw [List.filter_cons]
    split
    ·rw [List.flatMap_cons,List.flatMap_cons,List.length_append,List.length_append];omega
    ·rw [List.flatMap_cons,List.length_append];omega
  exact this _
theorem free_cons (gs:List Int):∀ g:Hp,Cons g []→g.vals.length < 4611686018427387904→gs.Nodup→(∀ n∈gs,g.has n=true) →
  (g.free gs).1.all=(g.all.filter fun p=>!gs.contains p.1)∧(g.free gs).2=gs.length∧Cons (g.free gs).1 []∧(g.free gs).1.last=g.last∧(g.free gs).1.all.length + gs.length=g.all.length:=by
 induction gs with
 | nil=>intro g hc hv hn hm;simp [Hp.free,hc];exact (filter_self_true _).symm
 | cons n t ih =>
  intro g hc hv hn hm
  obtain ⟨h1,h2⟩:=List.nodup_cons.1 hn
  obtain ⟨o,ho⟩:=Option.isSome_iff_exists.1 (hm n List.mem_cons_self)
  obtain ⟨d1,d2,d3,d4⟩:=drop_cons hc hv ho
  obtain ⟨i1,i2,i3,i4,i5⟩:=ih (g.drop n).1 d2 (by omega) h2 fun m hm2=>by
   have h3:=hm m (List.mem_cons_of_mem _ hm2)
   unfold Hp.has at h3 ⊢
   rw [d1,get_del hc.nd,if_neg (fun e=>h1 (by rw [e];exact hm2))]
   exact h3
  have ef:g.free (n :: t)=(((g.drop n).1.free t).1,((g.drop n).1.free t).2 + 1):=by
   rw [Hp.free,ho]
  rw [ef]
  have hl:(g.drop n).1.all.length + 1=g.all.length:=by rw [d1];exact length_del (by rw [ho];rfl)
  refine ⟨?_,by show _ + 1=_;rw [i2,List.length_cons],i3,i4.trans d3,?_⟩
  ·show ((g.drop n).1.free t).1.all=_
   rw [i1,d1,del_filter hc.nd n,List.filter_filter]
   refine List.filter_congr fun p _=>?_
   rw [List.contains_cons]
   by_cases e:p.1=n<;>simp [e]
  ·show ((g.drop n).1.free t).1.all.length + _=_
   rw [List.length_cons];omega
theorem nums_nodup {h:Hp} (hnd:(h.all.map (·.1)).Nodup):h.nums.Nodup:=by
 unfold Hp.nums;exact (rising_perm _).nodup_iff.2 hnd
theorem Swept.collected {h h1:Hp} {e:List V} (s:Swept h e h1) (hnd:(h.all.map (·.1)).Nodup) (hv:h1.vals.length < 4611686018427387904) {p:Int→Bool} (hp:∀ n,h1.has n=true→(p n=true↔(¬ Reach h1 e n∧0 < h1.refs n))) :
  Collected h e (h1.free (h1.nums.filter p)).1∧(h1.free (h1.nums.filter p)).2=(h1.nums.filter p).length∧(h1.free (h1.nums.filter p)).1.all.length + (h1.nums.filter p).length=h1.all.length:=by
 have hg:∀ n∈h1.nums.filter p,h1.has n=true:=fun n hn=>(mem_nums h1 n).1 (List.mem_filter.1 hn).1
 obtain ⟨f1,f2,f3,f4,f5⟩:=free_cons (h1.nums.filter p) h1 s.cons hv ((nums_nodup s.cons.nd).filter _) hg
 obtain ⟨q1,q2⟩:=s.reach hnd
 obtain ⟨T,hT⟩:=s.sub
 refine ⟨⟨⟨fun n=>T n && !(h1.nums.filter p).contains n,?_,fun n hn=>?_⟩,f3,f4.trans s.last⟩,f2,f5⟩
 ·rw [f1,hT,List.filter_filter]
  refine List.filter_congr fun p _=>Bool.and_comm _ _
 ·obtain ⟨o,ho⟩:=Option.isSome_iff_exists.1 hn
  have hT1:T n=true↔h1.has n=true:=by
   unfold Hp.has
   rw [hT]
   constructor
   ·intro ht;rw [(get_filter hnd T).2 ⟨ho,ht⟩];rfl
   ·intro hs
    obtain ⟨o2,ho2⟩:=Option.isSome_iff_exists.1 hs
    exact ((get_filter hnd T).1 ho2).2
  rw [Bool.and_eq_true,hT1,Bool.not_eq_true',← Bool.not_eq_true,List.contains_iff_mem,List.mem_filter,mem_nums]
  constructor
  ·rintro ⟨h2,h3⟩
   by_cases hr:Reach h1 e n
   ·exact (q2 n).1 hr
   ·exfalso
    refine h3 ⟨h2,(hp n h2).2 ⟨hr,?_⟩⟩
    obtain ⟨o1,ho1⟩:=Option.isSome_iff_exists.1 h2
    have hr2:=s.cons.refs n
    rcases s.tight n o1 ho1 with h4 | h4
    ·exact absurd (Reach.base h2 h4) hr
    ·omega
  ·intro hr
   have h2:=q1 n hr
   exact ⟨h2,fun ⟨_,h4⟩=>((hp n h2).1 h4).1 ((q2 n).2 hr)⟩
end
section
open Go.RowKit
theorem vals_filter (T:Int→Bool):∀ l:List (Int × Ob),((l.filter fun p=>T p.1).flatMap fun p=>p.2.values).length≤(l.flatMap fun p=>p.2.values).length
 | []=>by simp
 | p :: t=>by
  have ih:=vals_filter T t
  rw [List.filter_cons]
  split
  ·rw [List.flatMap_cons,List.flatMap_cons,List.length_append,List.length_append];omega
  ·rw [List.flatMap_cons,List.length_append];omega
theorem live_le (h:Hp) (k:Int):h.live k≤h.all.length:=by unfold Hp.live;exact List.length_filter_le _ _
theorem Own.ix {F:Foot} {W:World} {base:Nat} {v:Value} {l:List Int} (h:Own W base v l) (hF:∀ b,F b→b < base):Ix F W v l:=by
 rcases h.2 with ⟨rfl,hz⟩ | ⟨g,cap,cur,rfl,h0,hg,h1,h2,-⟩
 ·exact ⟨.inl ⟨rfl,List.eq_nil_of_length_eq_zero hz⟩,fun b o n c e=>by cases e⟩
 ·refine ⟨.inr ⟨g,0,cap,rfl,(zN hg).1,h1,h2,fun j n hj=>?_⟩,fun b o n c e hf=>by cases e;have:=hF g hf;omega⟩
  have hlt:=(List.getElem?_eq_some_iff.1 hj).1
  have e1:=World.ownsRow.cellAt h j (by omega)
  rw [Nat.zero_add,e1]
  simp [ints,List.getElem?_map,hj]
set_option maxRecDepth 100000 in
set_option maxHeartbeats 8000000 in
theorem collect_any (w:World) (hp:Nat) (h:Hp) (F:Foot) (r:HR w hp h F) (x:Value) (e:List V) (hx:Vx F w x e) (hf:Few h e) (hroot:∃ n,h.has n=true∧0 < occ n e) :
  Calls Tryz.prog 135 #[.pointer (some ⟨hp,0,none⟩),x] w fun en w'=>∃ h',en=.returned (.tuple #[.int .i64 ((h.all.length:Int) - h'.all.length),.int .i64 ((h.live 6:Int) - h'.live 6)])∧HStep w hp F h' w'∧Collected h e h':=by
 have cl:=live_any w hp h F r 6
 have hlv:=live_le h 6
 have hsm:=hf.sm
 replace hsm:h.all.length≤1048576:=hsm
 have hw1:wrap64 (h.live 6:Int)=h.live 6:=by unfold wrap64;omega
 rw [hw1] at cl
 have HH:=zH (And.intro r (And.intro hx (And.intro hf (And.intro hroot hlv))))
 obtain ⟨lv,hl⟩:∃ lv,lv=h.live 6:=⟨_,rfl⟩
 rw [← hl] at cl ⊢
 have HLV:=zH hl
 clear r hx hf hroot hlv hw1 hl
 go_enter Tryz.func135,Tryz.ntmps135
 go_wp2_with fail
 refine cl.mono ?_
 rintro en W1 ⟨rfl,hb1⟩
 have cs:=sweep_any W1 hp h F (HH.out.1.bl hb1) x e (HH.out.2.1.bl hb1) HH.out.2.2.1.few HH.out.2.2.1.cons HH.out.2.2.1.sm
 have HB1:=zH hb1
 clear hb1 cl
 go_wp2_with fail
 refine cs.mono ?_
 rintro en W2 ⟨h1,rfl,⟨F2,r2,st2⟩,sw⟩
 have hsub:h1.all.length≤h.all.length∧h1.vals.length≤h.vals.length:=by
  obtain ⟨T,hT⟩:=sw.sub
  refine ⟨by rw [hT];exact List.length_filter_le _ _,?_⟩
  unfold Hp.vals;rw [hT];exact vals_filter T _
 have hnd:=HH.out.2.2.1.cons.nd
 have hf1:Few h1 e:=by
  refine ⟨HH.out.2.2.1.few,Nat.le_trans hsub.1 HH.out.2.2.1.sm,?_,sw.cons,fun n o ho=>HH.out.2.2.1.kind n o (sw.get hnd ho),by have:=HH.out.2.2.1.vals;omega⟩
  obtain ⟨n,q1,q2⟩:=HH.out.2.2.2.1
  have:=(sw.reach hnd).1 n (.base q1 q2)
  intro h0
  unfold Hp.has at this
  rw [h0] at this;cases this
 have hx2:=(HH.out.2.1.bl HB1.out).step st2
 have cg:=garbage_any W2 hp h1 F2 r2 x e hx2.vs hf1
 have HS:=zH (And.intro r2 (And.intro st2 (And.intro sw (And.intro hsub hf1.vals))))
 have hle:=hsub.1
 clear cs r2 st2 sw hsub hf1 hx2 hnd
 go_wp2_with fail
 refine cg.mono ?_
 rintro en W3 ⟨y,p,rfl,hp1,hoy,hb3⟩
 have hIx:Ix F2 W3 y (h1.nums.filter p):=Own.ix hoy HS.out.1.lt
 have hgl:(h1.nums.filter p).length≤1048576:=by
  have:=List.length_filter_le p h1.nums
  rw [nums_len] at this;omega
 have cf:=free_any W3 hp h1 F2 (HS.out.1.bl hb3) y _ hIx hgl
 obtain ⟨hco,hc2,hc3⟩:=HS.out.2.2.1.collected HH.out.2.2.1.cons.nd (by have:=HS.out.2.2.2.2;omega) hp1
 rw [hc2] at cf
 obtain ⟨gl,hgl2⟩:∃ gl,gl=(h1.nums.filter p).length:=⟨_,rfl⟩
 rw [← hgl2] at cf hc3 hgl
 obtain ⟨h2,hh2⟩:∃ h2,h2=(h1.free (h1.nums.filter p)).1:=⟨_,rfl⟩
 rw [← hh2] at cf hc3 hco
 have HC:=zH (And.intro hco (And.intro hb3 hc3))
 clear hp1 hoy hIx cg hco hc2 hgl2 hh2 hb3
 go_wp2_with fail
 refine cf.mono ?_
 rintro en W4 ⟨rfl,F4,r4,st4⟩
 have cl2:=live_any W4 hp h2 F4 r4 6
 have hlv2:=live_le h2 6
 have hw2:wrap64 (h2.live 6:Int)=h2.live 6:=by unfold wrap64;omega
 rw [hw2] at cl2
 have H4:=zH (And.intro r4 (And.intro st4 hlv2))
 clear r4 st4 hlv2 hw2 cf
 go_wp2_with fail
 refine cl2.mono ?_
 rintro en W5 ⟨rfl,hb5⟩
 have HB5:=zH hb5
 clear hb5 cl2
 go_wp2
 go_ret2
 refine ⟨h2,?_,?_,HC.out.1⟩
 ·have h3:=HC.out.2.2
  have h4:=H4.out.2.2
  have h5:=HH.out.2.2.2.2
  have h6:=HLV.out
  have e1:wrap64 ((lv:Int) - (h2.live 6:Int))=(lv:Int) - (h2.live 6:Int):=by unfold wrap64;omega
  have e2:(h.all.length:Int) - h1.all.length + gl=(h.all.length:Int) - h2.all.length:=by omega
  simp only [e1,e2]
  rfl
 ·refine ⟨F4,H4.out.1.bl HB5.out,?_⟩
  have s1:=HB1.out.sz
  have s2:=HS.out.2.1.size
  have s3:=HC.out.2.1.sz
  have s4:=H4.out.2.1.size
  exact (((((Step.of_bl HB1.out HH.out.1.lt).call HB1.out.sz HS.out.2.1).bl HC.out.2.1 (by omega)).call (by omega) H4.out.2.1)).bl HB5.out (by omega)
end
end Go.Proofs.YtlbcbikplfocfaaGreatDoor.W
namespace Go.Proofs.YtlbcbikplfocfaaGreatDoor.W.E
section
open Go.RowKit
def growS (e:List V) (a s:Objs):Objs:=a.filter (supB e (s.flatMap fun p=>p.2.values))
def growL (e:List V) (a:Objs):Nat→Objs→Objs
 | 0,s=>s
 | k + 1,s=>bif Nat.beq (growS e a s).length s.length then s else growL e a k (growS e a s)
def hasB (n:Int):Objs→Bool
 | []=>false
 | p :: t=>decide (p.1=n) || hasB n t
theorem hasB_ok (n:Int):∀ s:Objs,hasB n s=true→∃ p∈s,p.1=n
 | [],h=>by cases h
 | p :: t,h=>by
  rw [hasB,Bool.or_eq_true,decide_eq_true_eq] at h
  rcases h with h | h
  ·exact ⟨p,List.mem_cons_self,h⟩
  ·obtain ⟨q,hq,e⟩:=hasB_ok n t h
   exact ⟨q,List.mem_cons_of_mem _ hq,e⟩
def reachM (h:Hp) (e:List V):Objs:=growL e h.all (h.all.length + 1) []
def closedB (h:Hp) (e:List V):Bool:=(growS e h.all (reachM h e)).all fun p=>hasB p.1 (reachM h e)
def collectM (h:Hp) (e:List V):Hp:=⟨reachM h e,fun n=>(occ n ((reachM h e).flatMap fun p=>p.2.values):Int),h.last⟩
theorem growL_filter (e:List V) (a:Objs):∀ (k:Nat) (s:Objs),(∃ q:Int × Ob→Bool,s=a.filter q)→∃ q:Int × Ob→Bool,growL e a k s=a.filter q
 | 0,s,h=>h
 | k + 1,s,h=>by
  unfold growL
  cases hb:Nat.beq (growS e a s).length s.length with
  | true=>exact h
  | false=>rw [cond_false];exact growL_filter e a k _ ⟨_,rfl⟩
theorem growS_sound {h:Hp} {e:List V} (hnd:(h.all.map (·.1)).Nodup) {s:Objs} (hs:∀ p∈s,p∈h.all∧Reach h e p.1):∀ p∈growS e h.all s,p∈h.all∧Reach h e p.1:=fun p hp=>by
 obtain ⟨h1,h2⟩:=List.mem_filter.1 hp
 have hh:h.has p.1=true:=Option.isSome_iff_exists.2 ⟨p.2,mem_get hnd h1⟩
 unfold supB at h2
 rw [Bool.or_eq_true] at h2
 refine ⟨h1,?_⟩
 rcases h2 with h2 | h2
 ·exact .base hh ((heldB_occ _ _).1 h2)
 ·obtain ⟨r,hr,h3⟩:=held_of h2
  exact .step (hs r hr).2 ((refsOf_mem (mem_get hnd (hs r hr).1)).2 ⟨h3,hh⟩)
theorem growL_sound {h:Hp} {e:List V} (hnd:(h.all.map (·.1)).Nodup):∀ (k:Nat) (s:Objs),(∀ p∈s,p∈h.all∧Reach h e p.1)→∀ p∈growL e h.all k s,p∈h.all∧Reach h e p.1
 | 0,s,hs=>hs
 | k + 1,s,hs=>by
  unfold growL
  cases hb:Nat.beq (growS e h.all s).length s.length with
  | true=>exact hs
  | false=>rw [cond_false];exact growL_sound hnd k _ (growS_sound hnd hs)
theorem reachM_iff {h:Hp} {e:List V} (hnd:(h.all.map (·.1)).Nodup) (hc:closedB h e=true) (p:Int × Ob) (hp:p∈h.all):p∈reachM h e↔Reach h e p.1:=by
 have hsound:=growL_sound hnd (h.all.length + 1) [] (fun p hp=>by cases hp) (e:=e)
 refine ⟨fun hm=>(hsound p hm).2,fun hr=>?_⟩
 have key:∀ n,Reach h e n→∃ q∈reachM h e,q.1=n:=fun n hn=>by
  have hcl:∀ q∈h.all,supB e ((reachM h e).flatMap fun p=>p.2.values) q=true→∃ r∈reachM h e,r.1=q.1:=fun q hq hs =>
   hasB_ok _ _ (List.all_eq_true.1 hc q (List.mem_filter.2 ⟨hq,hs⟩))
  induction hn with
  | base h1 h2 =>
   obtain ⟨o,ho⟩:=Option.isSome_iff_exists.1 h1
   exact hcl _ (get_mem ho) (by unfold supB;rw [(heldB_occ _ _).2 h2];rfl)
  | step hk hn ih =>
   obtain ⟨q,hq,e1⟩:=ih
   obtain ⟨o,ho⟩:=Option.isSome_iff_exists.1 (refs_has hn)
   have hq2:=(hsound q hq).1
   obtain ⟨h3,-⟩:=(refsOf_mem (o:=q.2) (by rw [← e1];exact mem_get hnd hq2)).1 hn
   refine hcl _ (get_mem ho) ?_
   unfold supB
   rw [Bool.or_eq_true]
   obtain ⟨x,hx,h4⟩:=occ_pos.1 h3
   exact .inr ((heldB_occ _ _).2 (occ_pos.2 ⟨x,List.mem_flatMap.2 ⟨q,hq,hx⟩,h4⟩))
 obtain ⟨q,hq,e1⟩:=key p.1 hr
 have h1:=mem_get hnd (show (q.1,q.2)∈h.all from (hsound q hq).1)
 have h2:=mem_get hnd (show (p.1,p.2)∈h.all from hp)
 rw [e1,h2] at h1
 have:q=p:=by
  obtain ⟨q1,q2⟩:=q
  obtain ⟨p1,p2⟩:=p
  simp only at e1 h1
  cases h1;rw [e1]
 rw [← this];exact hq
theorem collected_eq {h h':Hp} {e:List V} (s:Collected h e h') (hnd:(h.all.map (·.1)).Nodup) (hc:closedB h e=true):h'=collectM h e:=by
 obtain ⟨T,hT,hTr⟩:=s.sub
 obtain ⟨q,hq⟩:=growL_filter e h.all (h.all.length + 1) [] ⟨fun _=>false,by simp⟩
 have hall:h'.all=reachM h e:=by
  rw [hT]
  show _=growL e h.all (h.all.length + 1) []
  rw [hq]
  refine List.filter_congr fun p hp=>?_
  have m2:q p=true↔p∈reachM h e:=by
   show _↔p∈growL e h.all (h.all.length + 1) []
   rw [hq,List.mem_filter];exact ⟨fun h=>⟨hp,h⟩,fun h=>h.2⟩
  rw [Bool.eq_iff_iff,hTr p.1 (Option.isSome_iff_exists.2 ⟨p.2,mem_get hnd hp⟩),m2,reachM_iff hnd hc p hp]
 have hrefs:h'.refs=fun n=>(occ n ((reachM h e).flatMap fun p=>p.2.values):Int):=by
  funext n
  have:=s.cons.refs n
  rw [this]
  show ((occ n h'.vals:Nat):Int) + _=_
  simp only [occ,Hp.vals,hall]
  simp
 obtain ⟨a1,a2,a3⟩:=h'
 have hlast:=s.last
 simp only at hall hrefs hlast
 subst hall hrefs hlast
 rfl
def collOk (h:Hp) (e:List V):Bool:=Nat.ble h.all.length 1048576 && (closedB h e && (h.all.any (fun p=>heldB p.1 e) && h.all.all fun p=>!decide (p.2.kind=0)))
def xCollect:ExtF:=fun vs st=>match vs with
 | [p,x]=>match heapAt st.x p with
  | some h=>match rowV st.m x with
   | some e=>bif collOk h e then some (.tup [.int .i64 ((h.all.length:Int) - ((collectM h e).all.length:Int)),.int .i64 ((h.live 6:Int) - ((collectM h e).live 6:Int))],st.wh (hnum st.x) (collectM h e)) else none
   | none=>none
  | none=>none
 | _=>none
theorem xCollect_ok:ExtOk 135 xCollect:=fun w0 vs st v st' h=>by
 unfold xCollect at h
 split at h
 ·rename_i p x
  split at h
  ·rename_i hh hq
   split at h
   ·rename_i l hl
    cases hc:collOk hh l with
    | false=>rw [hc] at h;cases h
    | true =>
     rw [hc,cond_true] at h;cases h
     unfold collOk at hc
     rw [Bool.and_eq_true,Bool.and_eq_true,Bool.and_eq_true] at hc
     obtain ⟨c1,c2,c3,c4⟩:=hc
     have c1:=zB c1
     refine ext_writer (heapAt_x hq) fun e w F us c F0 hR hvs k=>?_
     obtain ⟨u,us,rfl,hu,hvs⟩:=vrs_cons hvs
     obtain ⟨u2,us,rfl,hu2,hvs⟩:=vrs_cons hvs
     cases vrs_nil hvs
     obtain ⟨b',c',F1,g1,k',rfl⟩:=heapAt_ok hq hR hu
     rw [heapAt_x hq] at g1;cases g1
     obtain ⟨z1,a1⟩:=k.at_;obtain ⟨z2,a2⟩:=k'.at_
     rw [a1] at a2;cases a2
     obtain ⟨r0,m0⟩:=rowV_ok hl hR hu2
     have hnd:=HR.nd k.hr
     have hrt:∃ n,hh.has n=true∧0 < occ n l:=by
      obtain ⟨p,hp,h1⟩:=List.any_eq_true.1 c3
      exact ⟨p.1,Option.isSome_iff_exists.2 ⟨p.2,mem_get hnd hp⟩,(heldB_occ _ _).1 h1⟩
     have hfw:Few hh l:=by
      refine ⟨m0,c1,fun h0=>?_,⟨fun n=>by rw [k.ok n];simp [occ],hnd⟩,fun n o ho=>?_,small_vals (r:=hh.refs) k.hr c1 m0⟩
      ·rw [h0] at c3;cases c3
      ·have:=List.all_eq_true.1 c4 _ (get_mem ho)
       simpa using this
     refine ⟨fun n=>rfl,.tuple #[.int .i64 _,.int .i64 _],.tup (.cons (.int _ _) (.cons (.int _ _) .nil)),(collect_any w c hh F0 k.hr u2 l (Vx.less r0 k.sub) hfw hrt).mono fun en w' ⟨h',q1,q2,q3⟩=>?_⟩
     have:=collected_eq q3 hnd c2
     subst this
     exact ⟨q1,q2⟩
   ·cases h
  ·cases h
 ·cases h
end
end Go.Proofs.YtlbcbikplfocfaaGreatDoor.W.E
