/- EvR2 -/
import Derived.Test.YtbbokgpklihkoaaGreatDoorPart4
set_option linter.unusedVariables false
set_option linter.unusedSimpArgs false
namespace Go.Proofs.YtbbokgpklihkoaaGreatDoor.W.E
section
open Go.RowKit
section
variable {X:Type} {val:VF X} {P:Program} {L:EL X} {good:X→Prop} {call:Nat→List SV→St X→Option (SV × St X)}
def Pend (val:VF X) (P:Program) (opl:List Oper) (N B:Nat) (tm:T SV) (st:St X) (lds:List LdE) (e:Env) (oid:Option Nat) (i:Nat) (o:Oper):Prop :=
  ∃ tmc:T SV,(∀ t,Operand.tmp t∈looksO opl o→∀ v,tmc.get t=some v→tm.get t=some v)∧(∀ d,o.dst=some d→d < N∧d < TMax) ∧
    ((wantS opl tmc o=some false∧∀ d,o.dst=some d→tm.get d=some (.tup [])) ∨
     (wantS opl tmc o=some true∧∃ v,(∀ d,o.dst=some d→tm.get d=some v) ∧
       ((opPure P tmc o.op=some v∨val.look tmc o.op=some v)∨(LdE.mk i o.op tmc v∈lds∧opLoad P st.m tmc o.op=some v) ∨
        (∃ id cs ty mk,oid=some id∧opAlloc P tmc o.op=some (cs,ty,mk)∧v=mk id∧e id=none∧B≤id∧id < st.nx∧st.m.get id=some (.cells cs false [] (some ty))))))
structure Inv (val:VF X) (P:Program) (L:EL X) (opl:List Oper) (pl:Plan) (N:Nat) (ds:List Deferred) (e0:Env) (st0:St X) (w0:World) (F0:FootE)
  (rest:Plan) (done:Nat) (tm:T SV) (st:St X) (lds:List LdE) (D:Nat→Prop) (a:Go.Act) (w:World) (e:Env) (F:FootE) (idf:Nat→Option Nat):Prop where
 R:Rl L e st w F
 nxt:Nxt st0.nx e0 st0 w0 F0 e st w F
 size:N≤a.tmps.size
 ds:a.defers=ds
 plan:planGo opl (idxs opl 0) rest done=true
 hpl:∀ j,flagged pl j=true→tb done j=true∨(j,true)∈rest
 sub:∀ i,D i→tb done i=true
 clo:∀ i o,D i→opl[i]?=some o→∀ x∈o.after,Region.binds .any x=true→D x.on
 dclo:∀ i o,tb done i=true→opl[i]?=some o→∀ x∈o.after,Region.binds .any x=true→tb done x.on=true
 eff:∀ i,tb done i=true→flagged pl i=true→D i
 tmps:∀ t v,tm.get t=some v→(∃ i o,tb done i=true∧¬ D i∧opl[i]?=some o∧o.dst=some t)∨∃ u,a.tmps[t]?=some u∧VR e v u
 pend:∀ i o,opl[i]?=some o→tb done i=true→¬ D i→Pend val P opl N st0.nx tm st lds e (idf i) i o
 inj:∀ i j id,tb done i=true→tb done j=true→idf i=some id→idf j=some id→i=j
 idlt:∀ i id,tb done i=true→idf i=some id→id < st.nx
variable {ops:Array Oper} {pl rest:Plan} {N:Nat} {ds:List Deferred} {e0 e:Env} {st0 st:St X} {w0 w:World} {F0 F:FootE} {done:Nat} {tm:T SV} {lds:List LdE} {D:Nat→Prop} {a:Go.Act} {idf:Nat→Option Nat}
theorem planGo_fresh {opl:List Oper} {il:List (Nat × Oper)}:∀ {t:Plan} {done:Nat},planGo opl il t done=true→∀ p∈t,tb done p.1=false
 | [],_,_,p,hp=>by cases hp
 | (i,fl) :: t,done,h,p,hp=>by
  unfold planGo at h
  split at h
  ·simp only [Bool.and_eq_true,Bool.not_eq_true'] at h
   obtain ⟨⟨⟨h1,h2⟩,h3⟩,h4⟩:=h
   rcases List.mem_cons.1 hp with rfl | hp
   ·exact h1
   ·have:=planGo_fresh h4 p hp
    rw [tb_add,Bool.or_eq_false_iff] at this
    exact this.1
  ·cases h
theorem opl_get (i:Nat):ops.toList[i]?=ops[i]?:=by simp
theorem Inv.as (hp:PlanOk ops.toList pl) (I:Inv val P L ops.toList pl N ds e0 st0 w0 F0 rest done tm st lds D a w e F idf) {i:Nat} {o:Oper} (ho:ops.toList[i]?=some o)
  (hd:∀ x∈o.after,Region.binds .any x=true→D x.on) {tmc:T SV} (ht:∀ t,Operand.tmp t∈looksO ops.toList o→∀ v,tmc.get t=some v→tm.get t=some v):AS e tmc a (looksO ops.toList o):=by
 intro x hx v hv
 cases x with
 | tmp t =>
  have h1:=ht t hx v hv
  rcases I.tmps t v h1 with ⟨j,p,h2,h3,h4,h5⟩ | ⟨u,h2,h3⟩
  ·rcases hp.reads j p i o t h4 ho h5 hx with h6 | h6
   ·obtain ⟨x,x1,x2,rfl⟩:=depM_mem.1 h6
    exact absurd (hd x x1 x2) h3
   ·exact absurd (I.eff j h2 h6.1) h3
  ·simpa [Act.eval,Array.getD_eq_getD_getElem?,h2] using h3
 | const c=>exact svOf_ok hv e
 | global g=>cases hv
 | func f=>cases hv;exact .fn .nil .nil
theorem Inv.put_tmps (hp:PlanOk ops.toList pl) (I:Inv val P L ops.toList pl N ds e0 st0 w0 F0 rest done tm st lds D a w e F idf) {i:Nat} {o:Oper} (ho:ops.toList[i]?=some o)
  {v:SV} {u:Value} {e':Env} (hl:e.le e') (hdst:∀ d,o.dst=some d→d < N∧tm.get d=some v) (hv:VR e' v u) :
  ∀ t v,tm.get t=some v→(∃ j p,tb done j=true∧¬ (D j∨j=i)∧ops.toList[j]?=some p∧p.dst=some t)∨∃ u',(a.put o.dst u).tmps[t]?=some u'∧VR e' v u':=by
 intro t v' hv'
 cases hd:o.dst with
 | none =>
  rcases I.tmps t v' hv' with ⟨j,p,h2,h3,h4,h5⟩ | ⟨u,h2,h3⟩
  ·refine .inl ⟨j,p,h2,fun hh=>hh.elim h3 (fun hji=>?_),h4,h5⟩
   subst hji
   rw [ho] at h4;cases h4
   rw [hd] at h5;cases h5
  ·exact .inr ⟨u,h2,h3.mono hl⟩
 | some d =>
  obtain ⟨hdN,hdv⟩:=hdst d hd
  by_cases htd:t=d
  ·subst htd
   rw [hdv] at hv';cases hv'
   refine .inr ⟨u,?_,hv⟩
   have:t < a.tmps.size:=Nat.lt_of_lt_of_le hdN I.size
   simp [Act.put,this]
  ·rcases I.tmps t v' hv' with ⟨j,p,h2,h3,h4,h5⟩ | ⟨u',h2,h3⟩
   ·refine .inl ⟨j,p,h2,fun hh=>hh.elim h3 (fun hji=>?_),h4,h5⟩
    subst hji
    rw [ho] at h4;cases h4
    rw [hd] at h5;cases h5
    exact htd rfl
   ·refine .inr ⟨u',?_,h3.mono hl⟩
    simp only [Act.put]
    rw [Array.getElem?_setIfInBounds_ne (Ne.symm htd)]
    exact h2
theorem put_size (a:Go.Act) (d:Option Tmp) (u:Value):(a.put d u).tmps.size=a.tmps.size∧(a.put d u).defers=a.defers:=by
 cases d<;>simp [Act.put]
theorem Inv.float (hval:ValOk P L good val) (hp:PlanOk ops.toList pl) (I:Inv val P L ops.toList pl N ds e0 st0 w0 F0 rest done tm st lds D a w e F idf) {i:Nat} {o:Oper} (ho:ops.toList[i]?=some o)
  (hi:tb done i=true) (hni:¬ D i) (hd:∀ x∈o.after,Region.binds .any x=true→D x.on) {K:Go.Act→World→Prop} {Q:Exit→Go.Act→World→Prop}
  (hK:∀ a' w' e',Inv val P L ops.toList pl N ds e0 st0 w0 F0 rest done tm st lds (fun j=>D j∨j=i) a' w' e' F idf→K a' w'):wpOp P ops Q i K a w:=by
 obtain ⟨tmc,p1,p2,p3⟩:=I.pend i o ho hi hni
 have hAS:=I.as hp ho hd p1
 have hAS2:AS e tmc a o.op.operands.toList:=fun x hx=>hAS x (looks_ops hx)
 have ho':ops[i]?=some o:=by rw [← opl_get];exact ho
 -- all but the value
 have next:∀ (u:Value) (v:SV) (w':World) (e':Env),e.le e'→(∀ d,o.dst=some d→tm.get d=some v)→VR e' v u→Rl L e' st w' F→Nxt st0.nx e st w F e' st w' F →
   (∀ j p,ops.toList[j]?=some p→tb done j=true→¬ (D j∨j=i)→Pend val P ops.toList N st0.nx tm st lds e' (idf j) j p) →
   Inv val P L ops.toList pl N ds e0 st0 w0 F0 rest done tm st lds (fun j=>D j∨j=i) (a.put o.dst u) w' e' F idf:=fun u v w' e' hl hv hu hR hN hP=>by
  refine ⟨hR,I.nxt.trans hN,by rw [(put_size a o.dst u).1];exact I.size,by rw [(put_size a o.dst u).2];exact I.ds,I.plan,I.hpl,fun j hj=>hj.elim (I.sub j) (fun h=>by rw [h];exact hi),fun j p hj hp2 x hx hb=>?_,I.dclo,
   fun j h1 h2=>.inl (I.eff j h1 h2),I.put_tmps hp ho hl (fun d hd=>⟨(p2 d hd).1,hv d hd⟩) hu,hP,I.inj,I.idlt⟩
  rcases hj with hj | rfl
  ·exact .inl (I.clo j p hj hp2 x hx hb)
  ·rw [ho] at hp2;cases hp2
   exact .inl (hd x hx hb)
 have pend0:∀ j p,ops.toList[j]?=some p→tb done j=true→¬ (D j∨j=i)→Pend val P ops.toList N st0.nx tm st lds e (idf j) j p:=fun j p h1 h2 h3=>I.pend j p h1 h2 fun h=>h3 (.inl h)
 unfold wpOp
 rw [ho']
 simp only
 rcases p3 with ⟨q1,q2⟩ | ⟨q1,v,q2,q3⟩
 ·rw [wantS_ok q1 hAS]
  simp only [Bool.false_eq_true,if_false]
  exact hK _ _ e (next undef (.tup []) w e (.refl e) q2 (.tup .nil) I.R (.refl ..) pend0)
 ·rw [wantS_ok q1 hAS]
  simp only [if_true]
  refine .inl ?_
  rcases q3 with (q3 | q3) | ⟨-,q3⟩ | ⟨id,cs,ty,mk,q0,q3,rfl,q4,q5,q6,q7⟩
  ·exact (opPure_ok q3 hAS2 w).wp fun u hu=>hK _ _ e (next u v w e (.refl e) q2 hu I.R (.refl ..) pend0)
  ·exact (hval.look _ _ _ q3 e _ w F a I.R.ext hAS2).wp fun u hu=>hK _ _ e (next u v w e (.refl e) q2 hu I.R (.refl ..) pend0)
  ·exact (opLoad_ok q3 hAS2 I.R).wp fun u hu=>hK _ _ e (next u v w e (.refl e) q2 hu I.R (.refl ..) pend0)
  ·refine (opAlloc_ok q3 hAS2 q4 w).wp fun u obj z hB hu=>hK _ _ _ (next u (mk id) _ _ (Env.le_put q4 _) q2 hu (I.R.mat q4 q7 rfl hB) (Nxt.mat I.R q5 q4) fun j p h1 h2 h3=>?_)
   obtain ⟨tmc',r1,r2,r3⟩:=pend0 j p h1 h2 h3
   refine ⟨tmc',r1,r2,r3.imp _root_.id fun ⟨s1,v',s2,s3⟩=>⟨s1,v',s2,s3.imp _root_.id (Or.imp _root_.id fun ⟨id',cs',ty',mk',s4,s5,s6,s7,s8⟩=>⟨id',cs',ty',mk',s4,s5,s6,?_,s8⟩)⟩⟩
   rw [Env.put_ne _ _ fun hh=>h3 (.inr (I.inj j i id h2 hi (by rw [s4,hh]) q0))]
   exact s7
theorem recheck_ok (hval:ValOk P L good val) {m:T SB} {an:Nat} {x':X} (hg:good x'):∀ {lds:List LdE} {x:X},recheck P val m an lds x=some x' →
  good x∧(∀ l∈lds,tb an l.i=false→opLoad P m l.tm l.op=some l.v)∧∀ e w F,L.R e x w F→L.R e x' w F
 | [],x,h=>by cases h;exact ⟨hg,nofun,fun _ _ _ h=>h⟩
 | l :: t,x,h=>by
  unfold recheck at h
  split at h
  ·rename_i hb
   obtain ⟨g1,g2,g3⟩:=recheck_ok hval hg h
   refine ⟨g1,fun k hk hn=>?_,g3⟩
   rcases List.mem_cons.1 hk with rfl | hk
   ·rw [hb] at hn;cases hn
   ·exact g2 k hk hn
  ·split at h
   ·rename_i v hv
    split at h
    ·rename_i x1 hx
     obtain ⟨g1,g2,g3⟩:=recheck_ok hval hg h
     obtain ⟨k1,k2,k3⟩:=hval.same _ _ _ _ hx g1
     refine ⟨k1,fun k hk hn=>?_,fun e w F hR=>g3 e w F (k3 e w F hR)⟩
     rcases List.mem_cons.1 hk with rfl | hk
     ·rw [hv,k2]
     ·exact g2 k hk hn
    ·cases h
   ·cases h
theorem drawS_good (hval:ValOk P L good val) (hc:CallOk P L good call) {opl:List Oper} {N:Nat} {r:T SV × St X} (hg:good r.2.x):∀ {t:Plan} {tm:T SV} {st:St X} {lds:List LdE},drawS P val call opl N t tm st lds=some r→good st.x
 | [],tm,st,lds,h=>by cases h;exact hg
 | (i,fl) :: t,tm,st,lds,h=>by
  unfold drawS at h
  split at h
  ·cases h
  ·rename_i o ho
   split at h
   ·cases h
   ·split at h
    ·exact drawS_good hval hc hg h
    ·cases h
   ·split at h
    ·split at h
     ·rename_i p hp
      split at h
      ·split at h
       ·rename_i x1 hb
        refine (stepOp_ok hval hc (v:=p.1) (st':=p.2) hp ?_).1
        have hgx:good x1:=(drawS_good hval hc hg h:good (St.mk p.2.m p.2.nx x1).x)
        split at hb
        ·exact (recheck_ok hval hgx hb).1
        ·cases hb;exact hgx
       ·cases h
      ·cases h
     ·cases h
    ·split at h
     ·split at h
      ·rename_i v1 x1 hx
       split at h
       ·exact (hval.val _ _ _ _ _ hx (drawS_good hval hc hg h:good (St.mk st.m st.nx x1).x)).1
       ·cases h
      ·cases h
     ·split at h
      ·split at h
       ·exact drawS_good hval hc hg h
       ·cases h
      ·split at h
       ·rename_i v1 x1 hx
        split at h
        ·exact (hval.val _ _ _ _ _ hx (drawS_good hval hc hg h:good (St.mk st.m st.nx x1).x)).1
        ·cases h
       ·cases h
     ·split at h
      ·rename_i p hp
       cases hb:Nat.blt st.nx TMax with
       | false=>rw [hb] at h;cases h
       | true =>
        rw [hb,cond_true] at h
        split at h
        ·exact (drawS_good hval hc hg h:good (st.add _).x)
        ·cases h
      ·cases h
     ·cases h
theorem Inv.ahead (hval:ValOk P L good val) (hc:CallOk P L good call) {r:T SV × St X} (hg:good r.2.x) (hp:PlanOk ops.toList pl) {i:Nat} {t:Plan} (I:Inv val P L ops.toList pl N ds e0 st0 w0 F0 ((i,false) :: t) done tm st lds D a w e F idf)
  (h:drawS P val call ops.toList N ((i,false) :: t) tm st lds=some r) :
  ∃ tm' st' lds' idf',Inv val P L ops.toList pl N ds e0 st0 w0 F0 t (done ||| 2 ^ i) tm' st' lds' D a w e F idf'∧drawS P val call ops.toList N t tm' st' lds'=some r:=by
 have hpl:=I.plan
 unfold planGo at hpl
 unfold drawS at h
 split at h
 ·cases h
 ·rename_i o ho
  rw [ho] at hpl
  simp only [Bool.and_eq_true,Bool.not_eq_true'] at hpl
  obtain ⟨⟨⟨g1,g2⟩,g3⟩,g4⟩:=hpl
  have hnD:¬ D i:=fun hD=>by rw [I.sub i hD] at g1;cases g1
  have hdep:∀ x∈o.after,Region.binds .any x=true→tb done x.on=true:=fun x hx hb=>by
   have:=List.all_eq_true.1 g2 x (by simpa using hx)
   simpa [hb] using this
  have hnf:flagged pl i=true→False:=fun hf=>by
   rcases I.hpl i hf with h1 | h1
   ·rw [g1] at h1;cases h1
   ·rcases List.mem_cons.1 h1 with h1 | h1
    ·cases h1
    ·have:=planGo_fresh g4 _ h1
     rw [tb_add] at this
     simp at this
  have hne:∀ j,tb done j=true→j≠i:=fun j hj hh=>by rw [hh,g1] at hj;cases hj
  -- the step,whatever it is
  have go:∀ (tm':T SV) (st':St X) (lds':List LdE) (oid:Option Nat) (v:SV),(∀ d,o.dst=some d→d < N∧d < TMax∧tm'=tm.upd d (some v))→(o.dst=none→tm'=tm)→Rl L e st' w F→Nxt st0.nx e st w F e st' w F →
    (∀ l∈lds,l∈lds')→(∀ k tc v,opLoad P st.m tc k=some v→opLoad P st'.m tc k=some v)→(∀ b k,st.m.get b=some k→st'.m.get b=some k)→(∀ id,oid=some id→st.nx≤id∧id < st'.nx) →
    (Pend val P ops.toList N st0.nx tm' st' lds' e oid i o) →
    Inv val P L ops.toList pl N ds e0 st0 w0 F0 t (done ||| 2 ^ i) tm' st' lds' D a w e F (fun j=>if j=i then oid else idf j):=fun tm' st' lds' oid v hput hput0 hR hN hlds hload hm hid hP=>by
   -- what other operations look at,and leave,stands
   have tget:∀ t v',(∀ d,o.dst=some d→t≠d)→tm.get t=some v'→tm'.get t=some v':=fun t v' h1 h2=>by
    cases hd:o.dst with
    | none=>rw [hput0 hd];exact h2
    | some d=>rw [(hput d hd).2.2,T.upd_ne _ _ (h1 d hd)];exact h2
   refine ⟨hR,I.nxt.trans hN,I.size,I.ds,g4,fun j hj=>?_,fun j hj=>by rw [tb_add,I.sub j hj];rfl,I.clo,fun j p hj hpj x hx hb=>?_,fun j hj hf=>?_,fun t' v' hv'=>?_,fun j p hpj hj hnj=>?_,fun x y id h3 h4 h5 h6=>?_,fun x id h3 h5=>?_⟩
   ·rcases I.hpl j hj with h1 | h1
    ·exact .inl (by rw [tb_add,h1];rfl)
    ·rcases List.mem_cons.1 h1 with h1 | h1
     ·cases h1
     ·exact .inr h1
   ·rw [tb_add,Bool.or_eq_true,decide_eq_true_eq] at hj
    rw [tb_add]
    rcases hj with hj | rfl
    ·rw [I.dclo j p hj hpj x hx hb];rfl
    ·rw [ho] at hpj;cases hpj
     rw [hdep x hx hb];rfl
   ·rw [tb_add,Bool.or_eq_true,decide_eq_true_eq] at hj
    rcases hj with hj | rfl
    ·exact I.eff j hj hf
    ·exact (hnf hf).elim
   ·by_cases htd:o.dst=some t'
    ·exact .inl ⟨i,o,by rw [tb_add];simp,hnD,ho,htd⟩
    ·have:tm.get t'=some v':=by
      cases hd:o.dst with
      | none=>rw [hput0 hd] at hv';exact hv'
      | some d =>
       rw [(hput d hd).2.2,T.upd_ne _ _ (fun hh=>htd (by rw [hd,hh]))] at hv'
       exact hv'
     rcases I.tmps t' v' this with ⟨j,p,h2,h3,h4,h5⟩ | h2
     ·exact .inl ⟨j,p,by rw [tb_add,h2];rfl,h3,h4,h5⟩
     ·exact .inr h2
   ·rw [tb_add,Bool.or_eq_true,decide_eq_true_eq] at hj
    by_cases hji:j=i
    ·subst hji
     rw [ho] at hpj;cases hpj
     rw [if_pos rfl]
     exact hP
    ·have hj:tb done j=true:=hj.resolve_right (fun h=>hji h.symm)
     rw [if_neg hji]
     obtain ⟨tmc,r1,r2,r3⟩:=I.pend j p hpj hj hnj
     have hdst:∀ d,p.dst=some d→∀ d',o.dst=some d'→d≠d':=fun d h1 d' h2 hh=>hp.uniq j p i o d hpj ho hji h1 (by rw [h2,hh])
     refine ⟨tmc,fun u hu x hx=>tget u x (fun d hd hud=>?_) (r1 u hu x hx),r2,?_⟩
     ·subst hud
      rcases hp.reads i o j p u ho hpj hd hu with h6 | h6
      ·obtain ⟨y,y1,y2,y3⟩:=depM_mem.1 h6
       have:=I.dclo j p hj hpj y y1 y2
       rw [y3,g1] at this;cases this
      ·exact hnf h6.1
     ·rcases r3 with ⟨s1,s2⟩ | ⟨s1,x,s2,s3⟩
      ·exact .inl ⟨s1,fun d hd=>tget d _ (hdst d hd) (s2 d hd)⟩
      ·refine .inr ⟨s1,x,fun d hd=>tget d _ (hdst d hd) (s2 d hd),?_⟩
       rcases s3 with s3 | ⟨s3,s4⟩ | ⟨id,cs,ty,mk,s4,s5,s6,s7,s8,s9,s10⟩
       ·exact .inl s3
       ·exact .inr (.inl ⟨hlds _ s3,hload _ _ _ s4⟩)
       ·exact .inr (.inr ⟨id,cs,ty,mk,s4,s5,s6,s7,s8,Nat.lt_of_lt_of_le s9 hN.nx,hm _ _ s10⟩)
   ·rw [tb_add,Bool.or_eq_true,decide_eq_true_eq] at h3 h4
    by_cases hx:x=i
    ·by_cases hy:y=i
     ·rw [hx,hy]
     ·rw [if_pos hx] at h5;rw [if_neg hy] at h6
      have:=I.idlt y id (h4.resolve_right fun h=>hy h.symm) h6
      have:=(hid id h5).1
      omega
    ·rw [if_neg hx] at h5
     by_cases hy:y=i
     ·rw [if_pos hy] at h6
      have:=I.idlt x id (h3.resolve_right fun h=>hx h.symm) h5
      have:=(hid id h6).1
      omega
     ·rw [if_neg hy] at h6
      exact I.inj x y id (h3.resolve_right fun h=>hx h.symm) (h4.resolve_right fun h=>hy h.symm) h5 h6
   ·rw [tb_add,Bool.or_eq_true,decide_eq_true_eq] at h3
    by_cases hx:x=i
    ·rw [if_pos hx] at h5;exact (hid id h5).2
    ·rw [if_neg hx] at h5
     exact Nat.lt_of_lt_of_le (I.idlt x id (h3.resolve_right fun h=>hx h.symm) h5) hN.nx
  have putok:∀ {v:SV} {tm':T SV},putS N tm o.dst v=some tm'→(∀ d,o.dst=some d→d < N∧d < TMax∧tm'=tm.upd d (some v))∧(o.dst=none→tm'=tm):=fun {v tm'} hq=>by
   unfold putS at hq
   cases hd:o.dst with
   | none=>rw [hd] at hq;cases hq;exact ⟨nofun,fun _=>rfl⟩
   | some d =>
    rw [hd] at hq
    simp only at hq
    cases hb:Nat.blt d N && Nat.blt d TMax with
    | false=>rw [hb] at hq;cases hq
    | true =>
     rw [hb] at hq;cases hq
     simp only [Bool.and_eq_true,Nat.blt_eq] at hb
     exact ⟨fun d' hd'=>by cases hd';exact ⟨hb.1,hb.2,rfl⟩,nofun⟩
  -- what it looks at is not what it leaves
  have own:∀ {v:SV} {tm':T SV},putS N tm o.dst v=some tm'→(∀ u,Operand.tmp u∈looksO ops.toList o→∀ x,tm.get u=some x→tm'.get u=some x)∧(∀ d,o.dst=some d→d < N∧d < TMax)∧∀ d,o.dst=some d→tm'.get d=some v:=fun {v tm'} hq=>by
   obtain ⟨k1,k2⟩:=putok hq
   refine ⟨fun u hu x hx=>?_,fun d hd=>⟨(k1 d hd).1,(k1 d hd).2.1⟩,fun d hd=>?_⟩
   ·cases hd:o.dst with
    | none=>rw [k2 hd];exact hx
    | some d =>
     rw [(k1 d hd).2.2,T.upd_ne _ _ fun hh=>?_]
     ·exact hx
     ·subst hh
      rcases hp.reads i o i o u ho ho hd hu with h6 | h6
      ·obtain ⟨y,y1,y2,y3⟩:=depM_mem.1 h6
       have:=hp.lt i o ho y y1 y2
       omega
      ·exact hnf h6.1
   ·rw [(k1 d hd).2.2,T.upd_same _ _ (k1 d hd).2.1]
  split at h
  ·cases h
  ·rename_i hw
   split at h
   ·rename_i tm' hput
    obtain ⟨o1,o2,o3⟩:=own hput
    obtain ⟨k1,k2⟩:=putok hput
    exact ⟨tm',st,lds,_,go tm' st lds none _ k1 k2 I.R (.refl ..) (fun _ h=>h) (fun _ _ _ h=>h) (fun _ _ h=>h) nofun ⟨tm,o1,o2,.inl ⟨hw,o3⟩⟩,h⟩
   ·cases h
  ·rename_i hw
   simp only at h
   split at h
   ·split at h
    ·rename_i v1 x1 hx
     split at h
     ·rename_i tm' hput
      obtain ⟨g1,hv,g2⟩:=hval.val _ _ _ _ _ hx (drawS_good hval hc hg h:good (St.mk st.m st.nx x1).x)
      obtain ⟨o1,o2,o3⟩:=own hput
      obtain ⟨k1,k2⟩:=putok hput
      exact ⟨tm',_,lds,_,go tm' ⟨st.m,st.nx,x1⟩ lds none _ k1 k2 (I.R.setx (g2 _ _ _ I.R.ext)) ((Nxt.refl _ e st w F).setx st.x x1) (fun _ h=>h) (fun _ _ _ h=>h) (fun _ _ h=>h) nofun ⟨tm,o1,o2,.inr ⟨hw,_,o3,.inl (.inl hv)⟩⟩,h⟩
     ·cases h
    ·cases h
   ·split at h
    ·rename_i v hv
     split at h
     ·rename_i tm' hput
      obtain ⟨o1,o2,o3⟩:=own hput
      obtain ⟨k1,k2⟩:=putok hput
      exact ⟨tm',st,_,_,go tm' st (⟨i,o.op,tm,v⟩ :: lds) none _ k1 k2 I.R (.refl ..) (fun _ h=>List.mem_cons_of_mem _ h) (fun _ _ _ h=>h) (fun _ _ h=>h) nofun ⟨tm,o1,o2,.inr ⟨hw,v,o3,.inr (.inl ⟨List.mem_cons_self ..,hv⟩)⟩⟩,h⟩
     ·cases h
    ·split at h
     ·rename_i v1 x1 hx
      split at h
      ·rename_i tm' hput
       obtain ⟨g1,hv,g2⟩:=hval.val _ _ _ _ _ hx (drawS_good hval hc hg h:good (St.mk st.m st.nx x1).x)
       obtain ⟨o1,o2,o3⟩:=own hput
       obtain ⟨k1,k2⟩:=putok hput
       exact ⟨tm',_,lds,_,go tm' ⟨st.m,st.nx,x1⟩ lds none _ k1 k2 (I.R.setx (g2 _ _ _ I.R.ext)) ((Nxt.refl _ e st w F).setx st.x x1) (fun _ h=>h) (fun _ _ _ h=>h) (fun _ _ h=>h) nofun ⟨tm,o1,o2,.inr ⟨hw,_,o3,.inl (.inr hv)⟩⟩,h⟩
      ·cases h
     ·cases h
   ·split at h
    ·rename_i p hv
     obtain ⟨cs,ty,mk⟩:=p
     cases hb:Nat.blt st.nx TMax with
     | false=>rw [hb] at h;cases h
     | true =>
      rw [hb,cond_true] at h
      have hn:st.nx < TMax:=by simpa [Nat.blt_eq] using hb
      split at h
      ·rename_i tm' hput
       obtain ⟨o1,o2,o3⟩:=own hput
       obtain ⟨k1,k2⟩:=putok hput
       have hnn:st.m.get st.nx=none:=by
        cases hq:st.m.get st.nx with
        | none=>rfl
        | some k=>exact absurd (I.R.old _ _ hq) (Nat.lt_irrefl _)
       refine ⟨tm',_,lds,_,go tm' (st.add (.cells cs false [] (some ty))) lds (some st.nx) _ k1 k2 (I.R.add hn _) ((Nxt.add I.R _).less I.nxt.nx) (fun _ h=>h) (fun _ _ _ h=>opLoad_add h hnn) (fun b k hbk=>?_) (fun id hid=>?_) ⟨tm,o1,o2,.inr ⟨hw,_,o3,.inr (.inr ⟨st.nx,cs,ty,mk,rfl,hv,rfl,I.R.none,I.nxt.nx,Nat.lt_succ_self _,T.upd_same _ _ hn⟩)⟩⟩,h⟩
       ·rw [St.add,T.upd_ne _ _ (fun hh=>by rw [hh,hnn] at hbk;cases hbk)];exact hbk
       ·cases hid;exact ⟨Nat.le_refl _,Nat.lt_succ_self _⟩
      ·cases h
    ·cases h
   ·cases h
theorem Inv.aheads (hval:ValOk P L good val) (hc:CallOk P L good call) {r:T SV × St X} (hg:good r.2.x) (hp:PlanOk ops.toList pl):∀ {rest:Plan} {done:Nat} {tm:T SV} {st:St X} {lds:List LdE} {idf:Nat→Option Nat},Inv val P L ops.toList pl N ds e0 st0 w0 F0 rest done tm st lds D a w e F idf→drawS P val call ops.toList N rest tm st lds=some r →
  ∃ rest' done' tm' st' lds' idf',(rest'=[]∨∃ i t,rest'=(i,true) :: t)∧Inv val P L ops.toList pl N ds e0 st0 w0 F0 rest' done' tm' st' lds' D a w e F idf'∧drawS P val call ops.toList N rest' tm' st' lds'=some r
 | [],done,tm,st,lds,idf,I,h=>⟨[],done,tm,st,lds,idf,.inl rfl,I,h⟩
 | (i,true) :: t,done,tm,st,lds,idf,I,h=>⟨_,done,tm,st,lds,idf,.inr ⟨i,t,rfl⟩,I,h⟩
 | (i,false) :: t,done,tm,st,lds,idf,I,h=>by
  obtain ⟨tm',st',lds',idf',I',h'⟩:=I.ahead hval hc hg hp h
  exact Inv.aheads hval hc hg hp I' h'
theorem stepOp_load {tm:T SV} {st st':St X} {o:Op} {v:SV} (h:stepOp P val call tm st o=some (v,st')) (h3:cls o≠3) (hn:st.m.get st.nx=none) {tc:T SV} {k:Op} {x:SV} (hl:opLoad P st.m tc k=some x):opLoad P st'.m tc k=some x:=by
 unfold stepOp at h
 split at h
 ·split at h
  ·cases h;exact hl
  ·cases h
 ·split at h
  ·cases h;exact hl
  ·split at h
   ·cases h;exact hl
   ·cases h
 ·split at h
  ·rename_i p hp
   cases hb:Nat.blt st.nx TMax with
   | false=>rw [hb] at h;cases h
   | true=>rw [hb] at h;cases h;exact opLoad_add hl hn
  ·cases h
 ·rename_i n1 n2 n3
  have:cls o=0∨cls o=1∨cls o=2∨cls o=3:=by
   unfold cls
   repeat' (first | (split) | simp)
  rcases this with h | h | h | h
  ·exact absurd h n1
  ·exact absurd h n2
  ·exact absurd h n3
  ·exact absurd h h3
theorem Inv.effect (hval:ValOk P L good val) (hc:CallOk P L good call) (hp:PlanOk ops.toList pl) {i:Nat} {t:Plan} (I:Inv val P L ops.toList pl N ds e0 st0 w0 F0 ((i,true) :: t) done tm st lds D a w e F idf) {r:T SV × St X} (hg:good r.2.x)
  (h:drawS P val call ops.toList N ((i,true) :: t) tm st lds=some r) {o:Oper} (ho:ops.toList[i]?=some o) (hd:∀ x∈o.after,Region.binds .any x=true→D x.on) {K:Go.Act→World→Prop} {Q:Exit→Go.Act→World→Prop}
  (hK:∀ a' w' e' F' tm' st' idf',Inv val P L ops.toList pl N ds e0 st0 w0 F0 t (done ||| 2 ^ i) tm' st' lds (fun j=>D j∨j=i) a' w' e' F' idf'→drawS P val call ops.toList N t tm' st' lds=some r→K a' w'):wpOp P ops Q i K a w:=by
 have hpl:=I.plan
 unfold planGo at hpl
 unfold drawS at h
 rw [ho] at hpl h
 simp only [Bool.and_eq_true,Bool.not_eq_true'] at hpl h
 obtain ⟨⟨⟨g1,g2⟩,g3⟩,g4⟩:=hpl
 have hnD:¬ D i:=fun hD=>by rw [I.sub i hD] at g1;cases g1
 have hdep:∀ x∈o.after,Region.binds .any x=true→tb done x.on=true:=fun x hx hb=>I.sub _ (hd x hx hb)
 have hAS:=I.as hp ho hd (tmc:=tm) (fun _ _ _ h=>h)
 have hAS2:AS e tm a o.op.operands.toList:=fun x hx=>hAS x (looks_ops hx)
 have ho':ops[i]?=some o:=by rw [← opl_get];exact ho
 have hanc:∀ j,tb (anc ops.toList i) j=true→D j:=anc_sub I.clo ho hd
 have hnn:st.m.get st.nx=none:=by
  cases hq:st.m.get st.nx with
  | none=>rfl
  | some k=>exact absurd (I.R.old _ _ hq) (Nat.lt_irrefl _)
 -- the next state
 have next:∀ (tm':T SV) (st':St X) (v:SV) (u:Value) (w':World) (e':Env) (F':FootE),putS N tm o.dst v=some tm'→VR e' v u→Rl L e' st' w' F'→Nxt st.nx e st w F e' st' w' F' →
   (∀ l∈lds,tb (anc ops.toList i) l.i=false→opLoad P st.m l.tm l.op=some l.v→opLoad P st'.m l.tm l.op=some l.v) →
   Inv val P L ops.toList pl N ds e0 st0 w0 F0 t (done ||| 2 ^ i) tm' st' lds (fun j=>D j∨j=i) (a.put o.dst u) w' e' F' (fun j=>if j=i then none else idf j):=fun tm' st' v u w' e' F' hq hu hR hN hload=>by
  have k1:(∀ d,o.dst=some d→d < N∧d < TMax∧tm'=tm.upd d (some v))∧(o.dst=none→tm'=tm):=by
   unfold putS at hq
   cases hd:o.dst with
   | none=>rw [hd] at hq;cases hq;exact ⟨nofun,fun _=>rfl⟩
   | some d =>
    rw [hd] at hq
    simp only at hq
    cases hb:Nat.blt d N && Nat.blt d TMax with
    | false=>rw [hb] at hq;cases hq
    | true =>
     rw [hb] at hq;cases hq
     simp only [Bool.and_eq_true,Nat.blt_eq] at hb
     exact ⟨fun d' hd'=>by cases hd';exact ⟨hb.1,hb.2,rfl⟩,nofun⟩
  obtain ⟨hput,hput0⟩:=k1
  have tget:∀ t v',(∀ d,o.dst=some d→t≠d)→tm.get t=some v'→tm'.get t=some v':=fun t v' h1 h2=>by
   cases hd:o.dst with
   | none=>rw [hput0 hd];exact h2
   | some d=>rw [(hput d hd).2.2,T.upd_ne _ _ (h1 d hd)];exact h2
  refine ⟨hR,I.nxt.trans (hN.less I.nxt.nx),by rw [(put_size a o.dst u).1];exact I.size,by rw [(put_size a o.dst u).2];exact I.ds,g4,fun j hj=>?_,fun j hj=>?_,fun j p hj hpj x hx hb=>?_,fun j p hj hpj x hx hb=>?_,fun j hj hf=>?_,fun t' v' hv'=>?_,fun j p hpj hj hnj=>?_,fun x y id h3 h4 h5 h6=>?_,fun x id h3 h5=>?_⟩
  ·rcases I.hpl j hj with h1 | h1
   ·exact .inl (by rw [tb_add,h1];rfl)
   ·rcases List.mem_cons.1 h1 with h1 | h1
    ·cases h1;exact .inl (by rw [tb_add];simp)
    ·exact .inr h1
  ·rcases hj with hj | rfl
   ·rw [tb_add,I.sub j hj];rfl
   ·rw [tb_add];simp
  ·rcases hj with hj | rfl
   ·exact .inl (I.clo j p hj hpj x hx hb)
   ·rw [ho] at hpj;cases hpj
    exact .inl (hd x hx hb)
  ·rw [tb_add,Bool.or_eq_true,decide_eq_true_eq] at hj
   rw [tb_add]
   rcases hj with hj | rfl
   ·rw [I.dclo j p hj hpj x hx hb];rfl
   ·rw [ho] at hpj;cases hpj
    rw [hdep x hx hb];rfl
  ·rw [tb_add,Bool.or_eq_true,decide_eq_true_eq] at hj
   rcases hj with hj | rfl
   ·exact .inl (I.eff j hj hf)
   ·exact .inr rfl
  ·by_cases htd:o.dst=some t'
   ·obtain ⟨q1,q2,q3⟩:=hput t' htd
    rw [q3,T.upd_same _ _ q2] at hv';cases hv'
    refine .inr ⟨u,?_,hu⟩
    have:t' < a.tmps.size:=Nat.lt_of_lt_of_le q1 I.size
    simp [htd,Act.put,this]
   ·have:tm.get t'=some v':=by
     cases hd:o.dst with
     | none=>rw [hput0 hd] at hv';exact hv'
     | some d =>
      rw [(hput d hd).2.2,T.upd_ne _ _ (fun hh=>htd (by rw [hd,hh]))] at hv'
      exact hv'
    rcases I.tmps t' v' this with ⟨j,p,h2,h3,h4,h5⟩ | ⟨u',h2,h3⟩
    ·exact .inl ⟨j,p,by rw [tb_add,h2];rfl,fun hh=>hh.elim h3 (fun hji=>by rw [hji,g1] at h2;cases h2),h4,h5⟩
    ·refine .inr ⟨u',?_,h3.mono hN.le⟩
     cases hd:o.dst with
     | none=>simpa [Act.put] using h2
     | some d =>
      simp only [Act.put]
      rw [Array.getElem?_setIfInBounds_ne (fun hh=>htd (by rw [hd,hh]))]
      exact h2
  ·rw [tb_add,Bool.or_eq_true,decide_eq_true_eq] at hj
   have hji:j≠i:=fun hh=>hnj (.inr hh)
   have hnDj:¬ D j:=fun hh=>hnj (.inl hh)
   have hj:tb done j=true:=hj.resolve_right (fun h=>hji h.symm)
   obtain ⟨tmc,r1,r2,r3⟩:=I.pend j p hpj hj hnDj
   rw [if_neg hji]
   have hdst:∀ d,p.dst=some d→∀ d',o.dst=some d'→d≠d':=fun d h1 d' h2 hh=>hp.uniq j p i o d hpj ho hji h1 (by rw [h2,hh])
   refine ⟨tmc,fun u' hu' x hx=>tget u' x (fun d hd' hud=>?_) (r1 u' hu' x hx),r2,?_⟩
   ·subst hud
    rcases hp.reads i o j p u' ho hpj hd' hu' with h6 | h6
    ·obtain ⟨y,y1,y2,y3⟩:=depM_mem.1 h6
     have:=I.dclo j p hj hpj y y1 y2
     rw [y3,g1] at this;cases this
    ·exact hnDj (hanc j h6.2)
   ·rcases r3 with ⟨s1,s2⟩ | ⟨s1,x,s2,s3⟩
    ·exact .inl ⟨s1,fun d hd=>tget d _ (hdst d hd) (s2 d hd)⟩
    ·refine .inr ⟨s1,x,fun d hd=>tget d _ (hdst d hd) (s2 d hd),?_⟩
     rcases s3 with s3 | ⟨s3,s4⟩ | ⟨id,cs,ty,mk,s4,s5,s6,s7,s8,s9,s10⟩
     ·exact .inl s3
     ·refine .inr (.inl ⟨s3,hload _ s3 ?_ s4⟩)
      cases hq:tb (anc ops.toList i) j with
      | false=>rfl
      | true=>exact absurd (hanc j hq) hnDj
     ·obtain ⟨z1,z2⟩:=hN.und id s9 s7
      exact .inr (.inr ⟨id,cs,ty,mk,s4,s5,s6,z1,s8,Nat.lt_of_lt_of_le s9 hN.nx,by rw [z2 (by rw [s10];nofun)];exact s10⟩)
  ·rw [tb_add,Bool.or_eq_true,decide_eq_true_eq] at h3 h4
   by_cases hx:x=i
   ·rw [if_pos hx] at h5;cases h5
   ·by_cases hy:y=i
    ·rw [if_pos hy] at h6;cases h6
    ·rw [if_neg hx] at h5;rw [if_neg hy] at h6
     exact I.inj x y id (h3.resolve_right fun h=>hx h.symm) (h4.resolve_right fun h=>hy h.symm) h5 h6
  ·rw [tb_add,Bool.or_eq_true,decide_eq_true_eq] at h3
   by_cases hx:x=i
   ·rw [if_pos hx] at h5;cases h5
   ·rw [if_neg hx] at h5
    exact Nat.lt_of_lt_of_le (I.idlt x id (h3.resolve_right fun h=>hx h.symm) h5) hN.nx
 unfold wpOp
 rw [ho']
 simp only
 split at h
 ·cases h
 ·rename_i hw
  split at h
  ·rename_i tm' hput
   rw [wantS_ok hw hAS]
   simp only [Bool.false_eq_true,if_false]
   exact hK _ _ _ _ _ _ _ (next tm' st (.tup []) undef w e F hput (.tup .nil) I.R (.refl ..) fun _ _ _ h=>h) h
  ·cases h
 ·rename_i hw
  split at h
  ·rename_i q hq
   split at h
   ·rename_i tm' hput
    split at h
    ·rename_i x1 hb
     have hgx:good x1:=(drawS_good hval hc hg h:good (St.mk q.2.m q.2.nx x1).x)
     have hk:good q.2.x∧(∀ e w F,L.R e q.2.x w F→L.R e x1 w F)∧(cls o.op=3→∀ l∈lds,tb (anc ops.toList i) l.i=false→opLoad P q.2.m l.tm l.op=some l.v):=by
      split at hb
      ·obtain ⟨g1,g2,g3⟩:=recheck_ok hval hgx hb
       exact ⟨g1,g3,fun _=>g2⟩
      ·rename_i h3
       cases hb
       exact ⟨hgx,fun _ _ _ h=>h,fun h3'=>by rw [h3'] at h3;cases h3⟩
     rw [wantS_ok hw hAS]
     simp only [if_true]
     refine .inl ((stepOp_ok hval hc (v:=q.1) (st':=q.2) hq hk.1).2 e w F a _ Q I.R hAS2 fun u w' e' F' hu hR hN=>?_)
     refine hK _ _ _ _ _ _ _ (next tm' ⟨q.2.m,q.2.nx,x1⟩ q.1 u w' e' F' hput hu (hR.setx (hk.2.1 _ _ _ hR.ext)) (hN.setx st.x x1) fun l hl hn hld=>?_) h
     by_cases h3:cls o.op=3
     ·exact hk.2.2 h3 l hl hn
     ·exact stepOp_load (v:=q.1) (st':=q.2) hq h3 hnn hld
    ·cases h
   ·cases h
  ·cases h
def unl (n:Nat) (listed:Array Bool):Nat:=((List.range n).filter fun i=>!listed.getD i true).length
theorem unl_set {n i:Nat} {listed:Array Bool} (hi:i < n) (hu:listed.getD i true=false):unl n (listed.setIfInBounds i true) < unl n listed:=by
 unfold unl
 have hsub:∀ l:List Nat,(l.filter fun j=>!(listed.setIfInBounds i true).getD j true).length≤(l.filter fun j=>!listed.getD j true).length∧(i∈l→(l.filter fun j=>!(listed.setIfInBounds i true).getD j true).length < (l.filter fun j=>!listed.getD j true).length):=by
  intro l
  induction l with
  | nil=>simp
  | cons x t ih =>
   have hx:x≠i→(listed.setIfInBounds i true).getD x true=listed.getD x true:=fun hx=>by
    simp only [Array.getD_eq_getD_getElem?]
    rw [Array.getElem?_setIfInBounds_ne (Ne.symm hx)]
   have hxi:(listed.setIfInBounds i true).getD i true=true:=by
    simp only [Array.getD_eq_getD_getElem?]
    rcases Nat.lt_or_ge i listed.size with h | h
    ·simp [h]
    ·rw [Array.getElem?_eq_none (by simpa using h)];rfl
   by_cases hxe:x=i
   ·subst hxe
    rw [List.filter_cons,List.filter_cons,hxi,hu]
    simp only [Bool.not_true,Bool.false_eq_true,if_false,Bool.not_false,if_true,List.length_cons]
    exact ⟨by omega,fun _=>by omega⟩
   ·rw [List.filter_cons,List.filter_cons,hx hxe]
    by_cases hl:listed.getD x true=true
    ·rw [hl]
     simp only [Bool.not_true,Bool.false_eq_true,if_false]
     exact ⟨ih.1,fun h=>ih.2 ((List.mem_cons.1 h).resolve_left (Ne.symm hxe))⟩
    ·have hl:listed.getD x true=false:=by simpa using hl
     rw [hl]
     simp only [Bool.not_false,if_true,List.length_cons]
     exact ⟨by omega,fun h=>by have:=ih.2 ((List.mem_cons.1 h).resolve_left (Ne.symm hxe));omega⟩
 exact (hsub _).2 (List.mem_range.2 hi)
theorem all_listed {opl:List Oper} {pl:Plan} (hp:PlanOk ops.toList pl) {listed:Array Bool} (hsz:listed.size=ops.size) (hr:Region.ready .any ops listed=[]):∀ i,i < ops.size→listed.getD i true=true:=by
 intro i
 induction i using Nat.strongRecOn with
 | _ i ih =>
  intro hi
  cases hq:listed.getD i true with
  | true=>rfl
  | false =>
   exfalso
   have:i∈Region.ready .any ops listed:=mem_ready.2 ⟨hq,ops[i],Array.getElem?_eq_getElem hi,fun e he hb=>by
    have hlt:=hp.lt i ops[i] (by rw [opl_get];exact Array.getElem?_eq_getElem hi) e he hb
    have h1:=ih e.on hlt (by omega)
    rw [Array.getD_eq_getD_getElem?,Array.getElem?_eq_getElem (by omega)] at h1 ⊢
    exact h1⟩
   rw [hr] at this;cases this
theorem wpAny_run (hval:ValOk P L good val) (hc:CallOk P L good call) (hp:PlanOk ops.toList pl) {r:T SV × St X} (hg:good r.2.x) {Q:Exit→Go.Act→World→Prop}
  (hQ:∀ a w e F,AR e r.1 a.tmps→N≤a.tmps.size→a.defers=ds→Rl L e r.2 w F→Nxt st0.nx e0 st0 w0 F0 e r.2 w F→Q .normal a w) :
  ∀ (k:Nat) (listed:Array Bool) (rest:Plan) (done:Nat) (tm:T SV) (st:St X) (lds:List LdE) (a:Go.Act) (w:World) (e:Env) (F:FootE) (idf:Nat→Option Nat),listed.size=ops.size→unl ops.size listed≤k →
   Inv val P L ops.toList pl N ds e0 st0 w0 F0 rest done tm st lds (fun i=>listed.getD i false=true) a w e F idf→drawS P val call ops.toList N rest tm st lds=some r→wpAny P .any ops Q k listed a w:=by
 -- at the end
 have fin:∀ (listed:Array Bool) (rest:Plan) (done:Nat) (tm:T SV) (st:St X) (lds:List LdE) (a:Go.Act) (w:World) (e:Env) (F:FootE) (idf:Nat→Option Nat),listed.size=ops.size→Region.ready .any ops listed=[] →
   Inv val P L ops.toList pl N ds e0 st0 w0 F0 rest done tm st lds (fun i=>listed.getD i false=true) a w e F idf→drawS P val call ops.toList N rest tm st lds=some r→Q .normal a w:=fun listed rest done tm st lds a w e F idf hsz hr I h=>by
  have hall:∀ i,i < ops.size→listed.getD i false=true:=fun i hi=>by
   have:=all_listed (opl:=ops.toList) hp hsz hr i hi
   rw [Array.getD_eq_getD_getElem?,Array.getElem?_eq_getElem (by omega)] at this ⊢
   exact this
  obtain ⟨rest',done',tm',st',lds',idf',hrest,I',h'⟩:=I.aheads hval hc hg hp h
  have hnil:rest'=[]:=by
   rcases hrest with h1 | ⟨i,t,rfl⟩
   ·exact h1
   ·have hpl:=I'.plan
    unfold planGo at hpl
    split at hpl
    ·rename_i o ho
     simp only [Bool.and_eq_true,Bool.not_eq_true'] at hpl
     have hi:i < ops.size:=by have:=(List.getElem?_eq_some_iff.1 ho).1;simpa using this
     have:=I'.sub i (hall i hi)
     rw [hpl.1.1.1] at this;cases this
    ·cases hpl
  subst hnil
  cases h'
  refine hQ a w e F (fun t v hv=>?_) I'.size I'.ds I'.R I'.nxt
  rcases I'.tmps t v hv with ⟨j,p,h2,h3,h4,h5⟩ | h2
  ·exact absurd (hall j (by have:=(List.getElem?_eq_some_iff.1 h4).1;simpa using this)) h3
  ·exact h2
 intro k
 induction k with
 | zero =>
  intro listed rest done tm st lds a w e F idf hsz hk I h
  have hr:Region.ready .any ops listed=[]:=by
   rw [List.eq_nil_iff_forall_not_mem]
   intro i hi
   obtain ⟨h1,o,h2,h3⟩:=mem_ready.1 hi
   have:=unl_set (zN h2).1 h1
   omega
  exact ⟨hr,fin listed rest done tm st lds a w e F idf hsz hr I h⟩
 | succ k ih =>
  intro listed rest done tm st lds a w e F idf hsz hk I h
  refine ⟨fun hr=>fin listed rest done tm st lds a w e F idf hsz hr I h,fun i hi=>?_⟩
  obtain ⟨h1,o,h2,h3⟩:=mem_ready.1 hi
  have hilt:=(zN h2).1
  have ho:ops.toList[i]?=some o:=by rw [opl_get];exact h2
  have hu:=unl_set hilt h1
  have hnD:¬ (listed.getD i false=true):=fun hh=>by
   rw [Array.getD_eq_getD_getElem?,Array.getElem?_eq_getElem (by omega)] at h1 hh
   rw [Option.getD_some] at h1 hh
   rw [h1] at hh;cases hh
  have hsz2:(listed.setIfInBounds i true).size=ops.size:=by simpa using hsz
  have hD:∀ j,(listed.getD j false=true∨j=i)↔(listed.setIfInBounds i true).getD j false=true:=fun j=>by
   by_cases hji:j=i
   ·subst hji
    have:j < listed.size:=by omega
    simp [Array.getD_eq_getD_getElem?,this]
   ·simp only [Array.getD_eq_getD_getElem?]
    rw [Array.getElem?_setIfInBounds_ne (Ne.symm hji)]
    simp [hji]
  have hDe:(fun j=>listed.getD j false=true∨j=i)=fun j=>(listed.setIfInBounds i true).getD j false=true:=funext fun j=>propext (hD j)
  obtain ⟨rest',done',tm',st',lds',idf',hrest,I',h'⟩:=I.aheads hval hc hg hp h
  by_cases hdn:tb done' i=true
  ·refine I'.float hval hp ho hdn hnD (fun x hx hb=>h3 x hx hb) fun a' w' e' I2=>?_
   rw [hDe] at I2
   exact ih _ _ _ _ _ _ _ _ _ _ _ hsz2 (by omega) I2 h'
  ·rcases hrest with rfl | ⟨j,t,rfl⟩
   ·have hpl:=I'.plan
    unfold planGo at hpl
    exact absurd (List.all_eq_true.1 hpl _ (idxs_mem0 ho)) hdn
   ·have hpl:=I'.plan
    unfold planGo at hpl
    split at hpl
    ·rename_i oj hoj
     simp only [Bool.and_eq_true,Bool.not_eq_true'] at hpl
     obtain ⟨⟨⟨g1,g2⟩,g3⟩,g4⟩:=hpl
     have:=List.all_eq_true.1 g3 _ (idxs_mem0 ho)
     simp only [Bool.or_eq_true,Bool.not_eq_true'] at this
     have hij:i=j:=by
      rcases this with (h5 | h5) | h5
      ·exact absurd h5 hdn
      ·exact Nat.eq_of_beq_eq_true h5
      ·exfalso
       have:depB o done'=true:=by
        refine List.all_eq_true.2 fun x hx=>?_
        cases hb:Region.binds .any x with
        | false=>rfl
        | true=>rw [I'.sub x.on (h3 x (by simpa using hx) hb)];rfl
       rw [this] at h5;cases h5
     subst hij
     refine I'.effect hval hc hp hg h' ho (fun x hx hb=>h3 x hx hb) fun a' w' e' F' tm2 st2 idf2 I2 h2'=>?_
     rw [hDe] at I2
     exact ih _ _ _ _ _ _ _ _ _ _ _ hsz2 (by omega) I2 h2'
    ·cases hpl
theorem draw_ok (hval:ValOk P L good val) (hm:P.follows .mixedOrders=true) (hc:CallOk P L good call) (hp:planOk ops.toList pl=true) {r:T SV × St X} (hg:good r.2.x) (h:drawS P val call ops.toList N pl tm st []=some r) {id:Nat} {Q:Exit→Go.Act→World→Prop} {e:Env} {w:World} {F:FootE} {a:Go.Act}
  (hR:Rl L e st w F) (ha:AR e tm a.tmps) (hN:N≤a.tmps.size)
  (hQ:∀ a' w' e' F',AR e' r.1 a'.tmps→N≤a'.tmps.size→a'.defers=a.defers→Rl L e' r.2 w' F'→Nxt st.nx e st w F e' r.2 w' F'→Q .normal a' w'):(Code.region id ops true).wp P Q a w:=by
 have hp':=planOk_ok hp
 refine wp_region_any hm ?_
 have hR':Rl L e st { w with drawn:=w.drawn + 1 } F:=hR.same rfl
 refine wpAny_run (pl:=pl) (N:=N) (ds:=a.defers) (e0:=e) (st0:=st) (w0:={ w with drawn:=w.drawn + 1 }) (F0:=F) hval hc hp' hg (fun a' w' e' F' h1 h2 h3 h4 h5=>hQ a' w' e' F' h1 h2 h3 h4 (Nxt.trans (Nxt.same (w:=w) (w':={ w with drawn:=w.drawn + 1 }) st.nx rfl rfl rfl rfl) h5)) ops.size _ pl 0 tm st [] a _ e F (fun _=>none) (by simp) ?_ ?_ h
 ·unfold unl
  exact Nat.le_trans (List.length_filter_le _ _) (by simp)
 ·have hno:∀ i,¬ ((Array.replicate ops.size false).getD i false=true):=fun i hi=>by
   rw [Array.getD_eq_getD_getElem?,Array.getElem?_replicate] at hi
   split at hi<;>simp at hi
  refine ⟨hR',.refl ..,hN,rfl,hp'.go,fun j hj=>?_,fun i hi=>absurd hi (hno i),fun i o hi=>absurd hi (hno i),fun i o hi=>?_,fun i hi=>?_,fun t v hv=>.inr (ha t v hv),fun i o ho hi=>?_,nofun,nofun⟩
  ·obtain ⟨p,h1,h2⟩:=List.any_eq_true.1 hj
   simp only [Bool.and_eq_true] at h2
   have:=Nat.eq_of_beq_eq_true h2.1
   exact .inr (by rw [← this,← h2.2];exact h1)
  ·rw [tb_zero] at hi;cases hi
  ·rw [tb_zero] at hi;cases hi
  ·rw [tb_zero] at hi;cases hi
end
end
end Go.Proofs.YtbbokgpklihkoaaGreatDoor.W.E
