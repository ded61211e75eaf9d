/- EvR2 -/
import Derived.Test.YtmelcflkbfhohaaGreatDoorEvR
set_option linter.unusedVariables false
set_option linter.unusedSimpArgs false
namespace Go.Proofs.YtmelcflkbfhohaaGreatDoor.W.E
section
open Go.RowKit
section
variable {X:Type} {val:VF X} {P:Program} {L:EL X} {good:X→Prop} {call:Nat→List SV→St X→Option (SV × St X)}
def Pend (val:VF X) (P:Program) (opl:List Oper) (N B:Nat) (tm:T SV) (st:St X) (lds:List LdE) (fm:Option Fill) (e:Env) (oid:Option Nat) (i:Nat) (o:Oper):Prop :=
  ∃ tmc:T SV,(∀ t,Operand.tmp t∈looksO opl o→∀ v,tmc.get t=some v→tm.get t=some v)∧(∀ d,o.dst=some d→d < N∧d < TMax) ∧
    ((wantS opl tmc o=some false∧∀ d,o.dst=some d→tm.get d=some (.tup [])) ∨
     (wantS opl tmc o=some true∧∃ v,(∀ d,o.dst=some d→tm.get d=some v) ∧
       ((opPure P tmc o.op=some v∨val.look tmc o.op=some v)∨(LdE.mk i o.op tmc v∈lds∧opLoad P st.m tmc o.op=some v) ∨
        (∃ id kk mk,oid=some id∧opNew P tmc o.op=some (kk,mk)∧v=mk id∧e id=none∧B≤id∧id < st.nx∧st.m.get id=some kk) ∨
        (∃ f,fm=some f∧f.mi=i∧o.op=.makeMap f.ty none∧v=.map f.id∧e f.id=none))))
def PendI (opl:List Oper) (N:Nat) (tm:T SV) (f:Fill) (p:Nat × SV × SV):Prop :=
 ∃ (o:Oper) (tmc:T SV) (x k y:Operand),opl[p.1]?=some o∧(∀ t,Operand.tmp t∈looksO opl o→∀ v,tmc.get t=some v→tm.get t=some v)∧(∀ d,o.dst=some d→d < N∧d < TMax∧tm.get d=some (.tup [])) ∧
  wantS opl tmc o=some true∧o.op=.insert f.ty x k y∧evx tmc x=some (.map f.id)∧evx tmc k=some p.2.1∧evx tmc y=some p.2.2
def NotIns (fm:Option Fill) (i:Nat):Prop:=∀ f,fm=some f→∀ p∈f.ins,p.1≠i
structure FillOk (P:Program) (done:Nat) (B S:Nat) (f:Fill) (D:Nat→Prop) (st:St X) (w:World) (e:Env) (F:FootE):Prop where
 lo:B≤f.id
 hi:f.id < st.nx
 ty:∃ el,P.underlying f.ty=some (.map f.kt el)
 kd:P.underlying f.kt=some f.d
 mi:tb done f.mi=true
 insd:∀ p∈f.ins,tb done p.1=true∧p.1≠f.mi∧keyOk f.d p.2.1=true
 fn:∀ p∈f.ins,∀ q∈f.ins,p.1=q.1→p=q
 ne:∀ p∈f.ins,∀ q∈f.ins,p.1≠q.1→eqKey f.d p.2.1 q.2.1=some false
 mem:(e f.id=none∧st.m.get f.id=none∧∀ p∈f.ins,¬ D p.1) ∨
  ∃ c o z es ck,e f.id=some (c,o,z)∧S≤c∧¬ Im e st F c∧w.heap[c]?=some (.map es ck)∧(∀ p∈f.ins,D p.1→∃ x∈es.toList,VR e p.2.1 x.key∧VR e p.2.2 x.val) ∧
   ∀ x∈es.toList,∃ p∈f.ins,D p.1∧VR e p.2.1 x.key∧VR e p.2.2 x.val
structure Inv (val:VF X) (P:Program) (L:EL X) (opl:List Oper) (pl:Plan) (N:Nat) (ds:List Deferred) (e0:Env) (st0:St X) (w0:World) (F0:FootE)
  (rest:Plan) (done:Nat) (tm:T SV) (st:St X) (lds:List LdE) (fm:Option Fill) (D:Nat→Prop) (a:Go.Act) (w:World) (e:Env) (F:FootE) (idf:Nat→Option Nat):Prop where
 R:Rl L e st w F
 nxt:Nxt st0.nx e0 st0 w0 F0 e st w F
 size:N≤a.tmps.size
 ds:a.defers=ds
 plan:planGo opl (idxs opl 0) rest done=true
 hpl:∀ j,flagged pl j=true→tb done j=true∨(j,true)∈rest
 sub:∀ i,D i→tb done i=true
 clo:∀ i o,D i→opl[i]?=some o→∀ x∈o.after,Region.binds .any x=true→D x.on
 dclo:∀ i o,tb done i=true→opl[i]?=some o→∀ x∈o.after,Region.binds .any x=true→tb done x.on=true
 eff:∀ i,tb done i=true→flagged pl i=true→D i
 tmps:∀ t v,tm.get t=some v→(∃ i o,tb done i=true∧¬ D i∧opl[i]?=some o∧o.dst=some t)∨∃ u,a.tmps[t]?=some u∧VR e v u
 pend:∀ i o,opl[i]?=some o→tb done i=true→¬ D i→NotIns fm i→Pend val P opl N st0.nx tm st lds fm e (idf i) i o
 pins:∀ f,fm=some f→∀ p∈f.ins,¬ D p.1→PendI opl N tm f p
 fill:∀ f,fm=some f→FillOk P done st0.nx w0.heap.size f D st w e F
 inj:∀ i j id,tb done i=true→tb done j=true→idf i=some id→idf j=some id→i=j
 idlt:∀ i id,tb done i=true→idf i=some id→id < st.nx
theorem Rl.matN {e:Env} {st:St X} {w:World} {F:FootE} (h:Rl L e st w F) {k:Nat} {obj:Obj} {z:Nat} (hk:e k=.none) (hm:st.m.get k=.none) (hn:k < st.nx):Rl L (e.put k (w.heap.size,0,z)) st (w.alloc obj) F:=by
 have hl:=Env.le_put hk (w.heap.size,0,z)
 have hkeep:∀ c,c < w.heap.size→(w.alloc obj).heap[c]?=w.heap[c]?:=fun c hc=>Below.heap_alloc w obj c hc
 have hF:=L.lt _ _ _ _ h.ext
 have ne:∀ {b q},st.m.get b=some q→b≠k:=fun h1 hb=>by rw [hb,hm] at h1;cases h1
 have old:∀ {b q c o z'},st.m.get b=some q→(e.put k (w.heap.size,0,z)) b=some (c,o,z')→e b=some (c,o,z')∧c < w.heap.size:=fun {b q c o z'} h1 h3=>by
  rw [Env.put_ne _ _ (ne h1)] at h3;exact ⟨h3,(h.blk b q c o z' h1 h3).2.lt⟩
 refine ⟨fun b q' c o z' h1 h2=>?_,fun x y bx by_ c o z1 c' o' z2 h1 h2 h3 h4 h5 h6=>?_,h.old,fun b x hb=>?_,fun x bx h1 h2 y hy=>?_,?_⟩
 ·obtain ⟨h3,h4⟩:=old h1 h2
  exact ⟨(h.blk b q' c o z' h1 h3).1,(h.blk b q' c o z' h1 h3).2.keep hl (hkeep c h4)⟩
 ·exact h.dis x y bx by_ c o z1 c' o' z2 h1 h2 h3 h4 (old h1 h5).1 (old h2 h6).1
 ·by_cases hbk:b=k
  ·subst hbk;exact hn
  ·rw [Env.put_ne _ _ hbk] at hb;exact h.dom b x hb
 ·rw [Env.put_ne _ _ (ne h1)] at h2
  have:=h.sib x bx h1 h2 y hy
  intro hn
  cases hy2:e y with
  | none=>exact this hy2
  | some v=>rw [hl y v hy2] at hn;cases hn
 ·exact L.mono _ _ _ _ _ (L.keep _ _ _ _ _ h.ext (by rw [zL];exact Nat.le_succ _) fun b hb=>hkeep b (hF b hb)) hl
theorem Rl.out {e:Env} {st:St X} {w w':World} {F:FootE} (h:Rl L e st w F) {c:Nat} (hc:¬ Im e st F c) (hs:w.heap.size≤w'.heap.size) (hk:∀ d,d < w.heap.size→d≠c→w'.heap[d]?=w.heap[d]?):Rl L e st w' F:=by
 refine ⟨fun b q c1 o z h1 h2=>?_,h.dis,h.old,h.dom,h.sib,?_⟩
 ·obtain ⟨g1,g2⟩:=h.blk b q c1 o z h1 h2
  exact ⟨g1,g2.keep (.refl e) (hk c1 g2.lt fun hh=>hc (.inr ⟨b,q,o,z,h1,by rw [← hh];exact h2⟩))⟩
 ·exact L.keep _ _ _ _ _ h.ext hs fun d hd=>hk d (L.lt _ _ _ _ h.ext d hd) fun hh=>hc (.inl (by rw [← hh];exact hd))
theorem findNow_no {d:TypeDesc} {y:Value}:∀ {es:List MapEntry} {i:Nat},(∀ x∈es,Instr.sameNow d y x.key=some false)→Instr.findNow d y es i=some none
 | [],_,_=>rfl
 | x :: t,i,h=>by
  have h1:=h x (List.mem_cons_self ..)
  unfold Instr.findNow
  rw [h1]
  exact findNow_no fun z hz=>h z (List.mem_cons_of_mem _ hz)
theorem findNow_yes {d:TypeDesc} {y:Value} {G:MapEntry→Prop}:∀ {es:List MapEntry} {i:Nat},(∀ x∈es,∃ b,Instr.sameNow d y x.key=some b∧(b=true→G x))→(∃ x∈es,Instr.sameNow d y x.key=some true)→∃ j x,Instr.findNow d y es i=some (some (j,x.val))∧G x
 | [],_,_,h=>by obtain ⟨x,hx,_⟩:=h;cases hx
 | x :: t,i,h,h2=>by
  obtain ⟨b,h3,h4⟩:=h x (List.mem_cons_self ..)
  unfold Instr.findNow
  rw [h3]
  cases b with
  | true=>exact ⟨i,x,rfl,h4 rfl⟩
  | false =>
   refine findNow_yes (fun z hz=>h z (List.mem_cons_of_mem _ hz)) ?_
   obtain ⟨z,hz,hz2⟩:=h2
   rcases List.mem_cons.1 hz with rfl | hz
   ·rw [h3] at hz2;cases hz2
   ·exact ⟨z,hz,hz2⟩
theorem FillOk.grow {done done' B S:Nat} {f:Fill} {D:Nat→Prop} {st st':St X} {w:World} {e:Env} {F:FootE} (h:FillOk P done B S f D st w e F) (hd:∀ i,tb done i=true→tb done' i=true) (hn:st.nx≤st'.nx) (hm:∀ b,b < st.nx→st'.m.get b=st.m.get b)
  (hi:∀ c,c < w.heap.size→Im e st' F c→Im e st F c):FillOk P done' B S f D st' w e F:=by
 refine ⟨h.lo,Nat.lt_of_lt_of_le h.hi hn,h.ty,h.kd,hd _ h.mi,fun p hp=>⟨hd _ (h.insd p hp).1,(h.insd p hp).2⟩,h.fn,h.ne,?_⟩
 rcases h.mem with ⟨a,b,c⟩ | ⟨c,o,z,es,ck,a1,a2,a3,a4,a5⟩
 ·exact .inl ⟨a,by rw [hm _ h.hi];exact b,c⟩
 ·exact .inr ⟨c,o,z,es,ck,a1,a2,fun hh=>a3 (hi c (zN a4).1 hh),a4,a5⟩
theorem FillOk.other {done B S:Nat} {f:Fill} {D:Nat→Prop} {st:St X} {w:World} {e:Env} {F:FootE} (h:FillOk P done B S f D st w e F) {i:Nat} (hi:∀ p∈f.ins,p.1≠i) {e':Env} {w':World} (hl:e.le e') (hn:e f.id=none→e' f.id=none)
  (hw:∀ c,c < w.heap.size→w'.heap[c]?=w.heap[c]?) (him:∀ c,c < w.heap.size→Im e' st F c→Im e st F c):FillOk P done B S f (fun j=>D j∨j=i) st w' e' F:=by
 refine ⟨h.lo,h.hi,h.ty,h.kd,h.mi,h.insd,h.fn,h.ne,?_⟩
 rcases h.mem with ⟨a,b,c⟩ | ⟨c,o,z,es,ck,a1,a2,a3,a4,a5,a6⟩
 ·exact .inl ⟨hn a,b,fun p hp hh=>hh.elim (c p hp) (hi p hp)⟩
 ·have hc:=(zN a4).1
  refine .inr ⟨c,o,z,es,ck,hl _ _ a1,a2,fun hh=>a3 (him c hc hh),(hw c hc).trans a4,fun p hp hh=>?_,fun x hx=>?_⟩
  ·obtain ⟨x,h1,h2,h3⟩:=a5 p hp (hh.resolve_right (hi p hp))
   exact ⟨x,h1,h2.mono hl,h3.mono hl⟩
  ·obtain ⟨p,h1,h2,h3,h4⟩:=a6 x hx
   exact ⟨p,h1,.inl h2,h3.mono hl,h4.mono hl⟩
variable {fm:Option Fill} {ops:Array Oper} {pl rest:Plan} {N:Nat} {ds:List Deferred} {e0 e:Env} {st0 st:St X} {w0 w:World} {F0 F:FootE} {done:Nat} {tm:T SV} {lds:List LdE} {D:Nat→Prop} {a:Go.Act} {idf:Nat→Option Nat}
theorem planGo_fresh {opl:List Oper} {il:List (Nat × Oper)}:∀ {t:Plan} {done:Nat},planGo opl il t done=true→∀ p∈t,tb done p.1=false
 | [],_,_,p,hp=>by cases hp
 | (i,fl) :: t,done,h,p,hp=>by
  unfold planGo at h
  split at h
  ·simp only [Bool.and_eq_true,Bool.not_eq_true'] at h
   obtain ⟨⟨⟨h1,h2⟩,h3⟩,h4⟩:=h
   rcases List.mem_cons.1 hp with rfl | hp
   ·exact h1
   ·have:=planGo_fresh h4 p hp
    rw [tb_add,Bool.or_eq_false_iff] at this
    exact this.1
  ·cases h
theorem opl_get (i:Nat):ops.toList[i]?=ops[i]?:=by simp
theorem Inv.as (hp:PlanOk ops.toList pl) (I:Inv val P L ops.toList pl N ds e0 st0 w0 F0 rest done tm st lds fm D a w e F idf) {i:Nat} {o:Oper} (ho:ops.toList[i]?=some o)
  (hd:∀ x∈o.after,Region.binds .any x=true→D x.on) {tmc:T SV} (ht:∀ t,Operand.tmp t∈looksO ops.toList o→∀ v,tmc.get t=some v→tm.get t=some v):AS e tmc a (looksO ops.toList o):=by
 intro x hx v hv
 cases x with
 | tmp t =>
  have h1:=ht t hx v hv
  rcases I.tmps t v h1 with ⟨j,p,h2,h3,h4,h5⟩ | ⟨u,h2,h3⟩
  ·rcases hp.reads j p i o t h4 ho h5 hx with h6 | h6
   ·obtain ⟨x,x1,x2,rfl⟩:=depM_mem.1 h6
    exact absurd (hd x x1 x2) h3
   ·exact absurd (I.eff j h2 h6.1) h3
  ·simpa [Act.eval,Array.getD_eq_getD_getElem?,h2] using h3
 | const c=>exact svOf_ok hv e
 | global g=>cases hv
 | func f=>cases hv;exact .fn .nil .nil
theorem Inv.put_tmps (hp:PlanOk ops.toList pl) (I:Inv val P L ops.toList pl N ds e0 st0 w0 F0 rest done tm st lds fm D a w e F idf) {i:Nat} {o:Oper} (ho:ops.toList[i]?=some o)
  {v:SV} {u:Value} {e':Env} (hl:e.le e') (hdst:∀ d,o.dst=some d→d < N∧tm.get d=some v) (hv:VR e' v u) :
  ∀ t v,tm.get t=some v→(∃ j p,tb done j=true∧¬ (D j∨j=i)∧ops.toList[j]?=some p∧p.dst=some t)∨∃ u',(a.put o.dst u).tmps[t]?=some u'∧VR e' v u':=by
 intro t v' hv'
 cases hd:o.dst with
 | none =>
  rcases I.tmps t v' hv' with ⟨j,p,h2,h3,h4,h5⟩ | ⟨u,h2,h3⟩
  ·refine .inl ⟨j,p,h2,fun hh=>hh.elim h3 (fun hji=>?_),h4,h5⟩
   subst hji
   rw [ho] at h4;cases h4
   rw [hd] at h5;cases h5
  ·exact .inr ⟨u,h2,h3.mono hl⟩
 | some d =>
  obtain ⟨hdN,hdv⟩:=hdst d hd
  by_cases htd:t=d
  ·subst htd
   rw [hdv] at hv';cases hv'
   refine .inr ⟨u,?_,hv⟩
   have:t < a.tmps.size:=Nat.lt_of_lt_of_le hdN I.size
   simp [Act.put,this]
  ·rcases I.tmps t v' hv' with ⟨j,p,h2,h3,h4,h5⟩ | ⟨u',h2,h3⟩
   ·refine .inl ⟨j,p,h2,fun hh=>hh.elim h3 (fun hji=>?_),h4,h5⟩
    subst hji
    rw [ho] at h4;cases h4
    rw [hd] at h5;cases h5
    exact htd rfl
   ·refine .inr ⟨u',?_,h3.mono hl⟩
    simp only [Act.put]
    rw [Array.getElem?_setIfInBounds_ne (Ne.symm htd)]
    exact h2
theorem put_size (a:Go.Act) (d:Option Tmp) (u:Value):(a.put d u).tmps.size=a.tmps.size∧(a.put d u).defers=a.defers:=by
 cases d<;>simp [Act.put]
theorem Inv.float (hval:ValOk P L good val) (hp:PlanOk ops.toList pl) (I:Inv val P L ops.toList pl N ds e0 st0 w0 F0 rest done tm st lds fm D a w e F idf) {i:Nat} {o:Oper} (ho:ops.toList[i]?=some o)
  (hi:tb done i=true) (hni:¬ D i) (hd:∀ x∈o.after,Region.binds .any x=true→D x.on) {K:Go.Act→World→Prop} {Q:Exit→Go.Act→World→Prop}
  (hK:∀ a' w' e',Inv val P L ops.toList pl N ds e0 st0 w0 F0 rest done tm st lds fm (fun j=>D j∨j=i) a' w' e' F idf→K a' w'):wpOp P ops Q i K a w:=by
 have ho':ops[i]?=some o:=by rw [← opl_get];exact ho
 -- all but the value
 have next:∀ (u:Value) (v:SV) (w':World) (e':Env),e.le e'→(∀ d,o.dst=some d→d < N∧tm.get d=some v)→VR e' v u→Rl L e' st w' F→Nxt st0.nx e0 st0 w0 F0 e' st w' F →
   (∀ j p,ops.toList[j]?=some p→tb done j=true→¬ (D j∨j=i)→NotIns fm j→Pend val P ops.toList N st0.nx tm st lds fm e' (idf j) j p) →
   (∀ f,fm=some f→FillOk P done st0.nx w0.heap.size f (fun j=>D j∨j=i) st w' e' F) →
   Inv val P L ops.toList pl N ds e0 st0 w0 F0 rest done tm st lds fm (fun j=>D j∨j=i) (a.put o.dst u) w' e' F idf:=fun u v w' e' hl hv hu hR hN hP hF=>by
  refine ⟨hR,hN,by rw [(put_size a o.dst u).1];exact I.size,by rw [(put_size a o.dst u).2];exact I.ds,I.plan,I.hpl,fun j hj=>hj.elim (I.sub j) (fun h=>by rw [h];exact hi),fun j p hj hp2 x hx hb=>?_,I.dclo,
   fun j h1 h2=>.inl (I.eff j h1 h2),I.put_tmps hp ho hl hv hu,hP,fun f hf p hp2 hh=>I.pins f hf p hp2 fun h=>hh (.inl h),hF,I.inj,I.idlt⟩
  rcases hj with hj | rfl
  ·exact .inl (I.clo j p hj hp2 x hx hb)
  ·rw [ho] at hp2;cases hp2
   exact .inl (hd x hx hb)
 have pend0:∀ j p,ops.toList[j]?=some p→tb done j=true→¬ (D j∨j=i)→NotIns fm j→Pend val P ops.toList N st0.nx tm st lds fm e (idf j) j p:=fun j p h1 h2 h3=>I.pend j p h1 h2 fun h=>h3 (.inl h)
 by_cases hins:NotIns fm i
 ·obtain ⟨tmc,p1,p2,p3⟩:=I.pend i o ho hi hni hins
  have hAS:=I.as hp ho hd p1
  have hAS2:AS e tmc a o.op.operands.toList:=fun x hx=>hAS x (looks_ops hx)
  have fill0:∀ f,fm=some f→FillOk P done st0.nx w0.heap.size f (fun j=>D j∨j=i) st w e F:=fun f hf=>(I.fill f hf).other (hins f hf) (.refl e) _root_.id (fun _ _=>rfl) (fun _ _ h=>h)
  -- the map that is being filled is not there: neither is its block
  have noB:∀ f,fm=some f→e f.id=none→st.m.get f.id=none∧∀ p∈f.ins,¬ D p.1:=fun f hf hen=>by
   rcases (I.fill f hf).mem with ⟨_,b,c⟩ | ⟨c,o',z,es,ck,a1,_⟩
   ·exact ⟨b,c⟩
   ·rw [hen] at a1;cases a1
  unfold wpOp
  rw [ho']
  simp only
  rcases p3 with ⟨q1,q2⟩ | ⟨q1,v,q2,q3⟩
  ·rw [wantS_ok q1 hAS]
   simp only [Bool.false_eq_true,if_false]
   exact hK _ _ e (next undef (.tup []) w e (.refl e) (fun d hd=>⟨(p2 d hd).1,q2 d hd⟩) (.tup .nil) I.R I.nxt pend0 fill0)
  ·have q2:∀ d,o.dst=some d→d < N∧tm.get d=some v:=fun d hd=>⟨(p2 d hd).1,q2 d hd⟩
   rw [wantS_ok q1 hAS]
   simp only [if_true]
   refine .inl ?_
   rcases q3 with (q3 | q3) | ⟨-,q3⟩ | ⟨id,kk,mk,q0,q3,rfl,q4,q5,q6,q7⟩ | ⟨f,hf,hmi,hop,rfl,hen⟩
   ·exact (opPure_ok q3 hAS2 w).wp fun u hu=>hK _ _ e (next u v w e (.refl e) q2 hu I.R I.nxt pend0 fill0)
   ·exact (hval.look _ _ _ q3 e _ w F a I.R.ext hAS2).wp fun u hu=>hK _ _ e (next u v w e (.refl e) q2 hu I.R I.nxt pend0 fill0)
   ·exact (opLoad_ok q3 hAS2 I.R).wp fun u hu=>hK _ _ e (next u v w e (.refl e) q2 hu I.R I.nxt pend0 fill0)
   ·have hid:∀ f,fm=some f→e f.id=none→f.id≠id:=fun f hf hen hh=>by
     have:=(noB f hf hen).1
     rw [hh,q7] at this;cases this
    refine (opNew_ok q3 hAS2 q4 w).wp fun u obj z hB hu=>hK _ _ _ (next u (mk id) _ _ (Env.le_put q4 _) q2 hu (I.R.mat q4 q7 (opNew_k q3).1 hB) (I.nxt.trans (Nxt.mat I.R q5 q4)) (fun j p h1 h2 h3 h4=>?_) fun f hf =>
     (I.fill f hf).other (hins f hf) (Env.le_put q4 _) (fun hen=>by rw [Env.put_ne _ _ (hid f hf hen)];exact hen) (fun c hc=>Below.heap_alloc w obj c hc) (fun c hc hh=>(Nxt.mat (obj:=obj) I.R q5 q4).img c hc hh))
    obtain ⟨tmc',r1,r2,r3⟩:=pend0 j p h1 h2 h3 h4
    refine ⟨tmc',r1,r2,r3.imp _root_.id fun ⟨s1,v',s2,s3⟩=>⟨s1,v',s2,s3.imp _root_.id (Or.imp _root_.id (Or.imp (fun ⟨id',kk',mk',s4,s5,s6,s7,s8⟩=>⟨id',kk',mk',s4,s5,s6,?_,s8⟩) fun ⟨f,s4,s5,s6,s7,s8⟩=>⟨f,s4,s5,s6,s7,?_⟩))⟩⟩
    ·rw [Env.put_ne _ _ fun hh=>h3 (.inr (I.inj j i id h2 hi (by rw [s4,hh]) q0))]
     exact s7
    ·rw [Env.put_ne _ _ (hid f s4 s8)];exact s8
   ·have FO:=I.fill f hf
    obtain ⟨hm,hnD⟩:=noB f hf hen
    have hN1:opNew P tmc o.op=some (.map [],fun k=>.map k):=by rw [hop];rfl
    refine (opNew_ok hN1 hAS2 hen w).wp fun u obj z hB hu=>hK _ _ _ (next u (.map f.id) _ _ (Env.le_put hen _) q2 hu (I.R.matN hen hm FO.hi) (I.nxt.trans (Nxt.mat I.R FO.lo hen)) (fun j p h1 h2 h3 h4=>?_) fun f2 hf2=>?_)
    ·obtain ⟨tmc',r1,r2,r3⟩:=pend0 j p h1 h2 h3 h4
     refine ⟨tmc',r1,r2,r3.imp _root_.id fun ⟨s1,v',s2,s3⟩=>⟨s1,v',s2,s3.imp _root_.id (Or.imp _root_.id (Or.imp (fun ⟨id',kk',mk',s4,s5,s6,s7,s8,s9,s10⟩=>⟨id',kk',mk',s4,s5,s6,?_,s8,s9,s10⟩) fun ⟨f2,s4,s5,s6,s7,s8⟩=>?_))⟩⟩
     ·rw [Env.put_ne _ _ fun hh=>by rw [hh,hm] at s10;cases s10]
      exact s7
     ·rw [hf] at s4;cases s4
      exact absurd (.inr (s5.symm.trans hmi)) h3
    ·rw [hf] at hf2;cases hf2
     obtain ⟨es',ck,b1,b2,b3⟩:=hB
     have hes:es'.toList=[]:=by
      have:=b2.length
      simp only [List.map_nil,List.length_nil,List.length_map] at this
      exact List.length_eq_zero_iff.1 this.symm
     refine ⟨FO.lo,FO.hi,FO.ty,FO.kd,FO.mi,FO.insd,FO.fn,FO.ne,.inr ⟨w.heap.size,0,z,es',ck,Env.put_same _ _ _,I.nxt.size,fun hh=>?_,b1,fun p hp hh=>?_,fun x hx=>by rw [hes] at hx;cases hx⟩⟩
     ·rcases hh with hh | ⟨b,q,o1,z1,h1,h2⟩
      ·exact Nat.lt_irrefl _ (L.lt _ _ _ _ I.R.ext _ hh)
      ·by_cases hb:b=f.id
       ·rw [hb,hm] at h1;cases h1
       ·rw [Env.put_ne _ _ hb] at h2
        exact Nat.lt_irrefl _ (I.R.blk b q _ o1 z1 h1 h2).2.lt
     ·rcases hh with hh | hh
      ·exact absurd hh (hnD p hp)
      ·exact absurd (hh.trans hmi.symm) (FO.insd p hp).2.1
 ·obtain ⟨f,p,hf,hpm,hpi⟩:∃ f p,fm=some f∧p∈f.ins∧p.1=i:=Classical.byContradiction fun hc=>hins fun f hf p hp hpi=>hc ⟨f,p,hf,hp,hpi⟩
  have FO:=I.fill f hf
  obtain ⟨o2,tmc,x,k,y,h1,h2,h3,h4,h5,h6,h7,h8⟩:=I.pins f hf p hpm (by rw [hpi];exact hni)
  rw [hpi,ho] at h1;cases h1
  have hAS:=I.as hp ho hd h2
  have hAS2:AS e tmc a o.op.operands.toList:=fun x hx=>hAS x (looks_ops hx)
  unfold wpOp
  rw [ho']
  simp only
  rw [wantS_ok h4 hAS]
  simp only [if_true]
  refine .inl ?_
  have vx:=hAS2 x (by rw [h5];simp [Op.operands]) _ h6
  have vk:=hAS2 k (by rw [h5];simp [Op.operands]) _ h7
  have vy:=hAS2 y (by rw [h5];simp [Op.operands]) _ h8
  obtain ⟨c,o1,z1,hb,hx⟩:∃ c o1 z1,e f.id=some (c,o1,z1)∧a.eval x=.map (some c):=by
   generalize a.eval x=u at vx
   cases vx with
   | map hb=>exact ⟨_,_,_,hb,rfl⟩
  obtain ⟨es,ck,g2,g3,g4,g5,g6⟩:∃ es ck,w0.heap.size≤c∧¬ Im e st F c∧w.heap[c]?=some (.map es ck)∧(∀ p∈f.ins,D p.1→∃ x∈es.toList,VR e p.2.1 x.key∧VR e p.2.2 x.val) ∧
    ∀ x∈es.toList,∃ p∈f.ins,D p.1∧VR e p.2.1 x.key∧VR e p.2.2 x.val:=by
   rcases FO.mem with ⟨a1,_⟩ | ⟨c2,o2,z2,es,ck,a1,a2,a3,a4,a5,a6⟩
   ·rw [hb] at a1;cases a1
   ·rw [hb] at a1;cases a1
    exact ⟨es,ck,a2,a3,a4,a5,a6⟩
  obtain ⟨el,hty⟩:=FO.ty
  have hclt:c < w.heap.size:=(zN g4).1
  have hck:=keyOk_ok (FO.insd p hpm).2.2 vk FO.kd false 9999 w
  have hget:(getObj c).run P w=.ok (.map es ck) w:=by simp [getObj,Sem.run,g4]
  have hfk:=run_findKey FO.kd (findNow_no (y:=a.eval k) (i:=0) fun x hx=>by
   obtain ⟨p',k1,k2,k3,k4⟩:=g6 x hx
   have hne:p.1≠p'.1:=fun hh=>hni (by rw [← hpi,hh];exact k2)
   exact (eqKey_ok (FO.ne p hpm p' k1 hne) vk k3).1) w
  have hrun:(Instr.mapUpdate f.ty (a.eval x) (a.eval k) (a.eval y)).run P w=.ok () { w with heap:=w.heap.setIfInBounds c (.map (es.push { key:=a.eval k,val:=a.eval y,born:=ck }) (ck + 1)) }:=by
   rw [hx]
   unfold Instr.mapUpdate
   simp only [Sem.run_bind,Sem.run_pure,run_underlying hty,Result.andThen_ok,hget,hck,hfk]
   exact setObj_world g4 nofun
  have hoth:∀ q,q < w.heap.size→q≠c→(w.heap.setIfInBounds c (.map (es.push { key:=a.eval k,val:=a.eval y,born:=ck }) (ck + 1)))[q]?=w.heap[q]?:=fun q _ hq=>Array.getElem?_setIfInBounds_ne (Ne.symm hq)
  unfold Oper.wp
  have hex:(execOp a.eval o).run P w=.ok .skip { w with heap:=w.heap.setIfInBounds c (.map (es.push { key:=a.eval k,val:=a.eval y,born:=ck }) (ck + 1)) }:=by
   simp only [execOp,h5,Sem.run_bind,hrun,Result.andThen_ok]
   rfl
  rw [hex]
  refine hK _ _ e (next undef (.tup []) _ e (.refl e) (fun d hd=>⟨(h3 d hd).1,(h3 d hd).2.2⟩) (.tup .nil) (I.R.out g3 (by simp) hoth) ?_ pend0 fun f2 hf2=>?_)
  ·have n:=I.nxt
   exact ⟨n.le,n.os,n.tape,n.output,by simpa using n.size,fun q h1 h2=>(hoth q (Nat.lt_of_lt_of_le h1 n.size) (by omega)).trans (n.frame q h1 h2),n.img,n.und,n.nx⟩
  ·rw [hf] at hf2;cases hf2
   refine ⟨FO.lo,FO.hi,FO.ty,FO.kd,FO.mi,FO.insd,FO.fn,FO.ne,.inr ⟨c,o1,z1,es.push { key:=a.eval k,val:=a.eval y,born:=ck },ck + 1,hb,g2,g3,by simp [hclt],fun p' hp' hh=>?_,fun x hx=>?_⟩⟩
   ·rcases hh with hh | hh
    ·obtain ⟨x,k1,k2⟩:=g5 p' hp' hh
     exact ⟨x,by simp only [Array.toList_push,List.mem_append];exact .inl k1,k2⟩
    ·have:=FO.fn p' hp' p hpm (hh.trans hpi.symm)
     subst this
     exact ⟨_,by simp only [Array.toList_push,List.mem_append,List.mem_singleton];exact .inr rfl,vk,vy⟩
   ·simp only [Array.toList_push,List.mem_append,List.mem_singleton] at hx
    rcases hx with hx | rfl
    ·obtain ⟨p',k1,k2,k3⟩:=g6 x hx
     exact ⟨p',k1,.inl k2,k3⟩
    ·exact ⟨p,hpm,.inr hpi,vk,vy⟩
theorem recheck_ok (hval:ValOk P L good val) {m:T SB} {an:Nat} {x':X} (hg:good x'):∀ {lds:List LdE} {x:X},recheck P val m an lds x=some x' →
  good x∧(∀ l∈lds,tb an l.i=false→opLoad P m l.tm l.op=some l.v)∧∀ e w F,L.R e x w F→L.R e x' w F
 | [],x,h=>by cases h;exact ⟨hg,nofun,fun _ _ _ h=>h⟩
 | l :: t,x,h=>by
  unfold recheck at h
  split at h
  ·rename_i hb
   obtain ⟨g1,g2,g3⟩:=recheck_ok hval hg h
   refine ⟨g1,fun k hk hn=>?_,g3⟩
   rcases List.mem_cons.1 hk with rfl | hk
   ·rw [hb] at hn;cases hn
   ·exact g2 k hk hn
  ·split at h
   ·rename_i v hv
    split at h
    ·rename_i x1 hx
     obtain ⟨g1,g2,g3⟩:=recheck_ok hval hg h
     obtain ⟨k1,k2,k3⟩:=hval.same _ _ _ _ hx g1
     refine ⟨k1,fun k hk hn=>?_,fun e w F hR=>g3 e w F (k3 e w F hR)⟩
     rcases List.mem_cons.1 hk with rfl | hk
     ·rw [hv,k2]
     ·exact g2 k hk hn
    ·cases h
   ·cases h
theorem drawF_good (hval:ValOk P L good val) (hc:CallOk P L good call) {opl:List Oper} {N:Nat} {r:T SV × St X} (hg:good r.2.x):∀ {t:Plan} {tm:T SV} {st:St X} {lds:List LdE} {fm:Option Fill},drawF P val call opl N t tm st lds fm=some r→good st.x
 | [],tm,st,lds,fm,h=>by cases h;exact hg
 | (i,fl) :: t,tm,st,lds,fm,h=>by
  unfold drawF at h
  split at h
  ·cases h
  ·rename_i o ho
   split at h
   ·cases h
   ·split at h
    ·exact drawF_good hval hc hg h
    ·cases h
   ·split at h
    ·split at h
     ·split at h
      ·exact drawF_good hval hc hg h
      ·cases h
     ·split at h
      ·rename_i p hp
       split at h
       ·split at h
        ·rename_i x1 hb
         refine (stepOp_ok hval hc (v:=p.1) (st':=p.2) hp ?_).1
         have hgx:good x1:=(drawF_good hval hc hg h:good (St.mk p.2.m p.2.nx x1).x)
         split at hb
         ·exact (recheck_ok hval hgx hb).1
         ·cases hb;exact hgx
        ·cases h
       ·cases h
      ·cases h
    ·split at h
     ·split at h
      ·rename_i v1 x1 hx
       split at h
       ·exact (hval.val _ _ _ _ _ hx (drawF_good hval hc hg h:good (St.mk st.m st.nx x1).x)).1
       ·cases h
      ·cases h
     ·split at h
      ·split at h
       ·exact drawF_good hval hc hg h
       ·cases h
      ·split at h
       ·rename_i v1 x1 hx
        split at h
        ·exact (hval.val _ _ _ _ _ hx (drawF_good hval hc hg h:good (St.mk st.m st.nx x1).x)).1
        ·cases h
       ·cases h
     ·split at h
      ·split at h
       ·split at h
        ·split at h
         ·exact (drawF_good hval hc hg h:good (St.mk st.m (st.nx + 1) st.x).x)
         ·cases h
        ·cases h
       ·cases h
      ·split at h
       ·rename_i p hp
        cases hb:Nat.blt st.nx TMax with
        | false=>rw [hb] at h;cases h
        | true =>
         rw [hb,cond_true] at h
         split at h
         ·exact (drawF_good hval hc hg h:good (st.add _).x)
         ·cases h
       ·cases h
     ·split at h
      ·cases h
      ·split at h
       ·split at h
        ·exact drawF_good hval hc hg h
        ·cases h
       ·cases h
theorem drawS_good (hval:ValOk P L good val) (hc:CallOk P L good call) {opl:List Oper} {N:Nat} {r:T SV × St X} (hg:good r.2.x) {t:Plan} {tm:T SV} {st:St X} {lds:List LdE} (h:drawS P val call opl N t tm st lds=some r):good st.x:=drawF_good hval hc hg (show drawF P val call opl N t tm st lds none=some r from h)
theorem Inv.ahead (hval:ValOk P L good val) (hc:CallOk P L good call) {r:T SV × St X} (hg:good r.2.x) (hp:PlanOk ops.toList pl) {i:Nat} {t:Plan} (I:Inv val P L ops.toList pl N ds e0 st0 w0 F0 ((i,false) :: t) done tm st lds fm D a w e F idf)
  (h:drawF P val call ops.toList N ((i,false) :: t) tm st lds fm=some r) :
  ∃ tm' st' lds' fm' idf',Inv val P L ops.toList pl N ds e0 st0 w0 F0 t (done ||| 2 ^ i) tm' st' lds' fm' D a w e F idf'∧drawF P val call ops.toList N t tm' st' lds' fm'=some r:=by
 have hpl:=I.plan
 unfold planGo at hpl
 unfold drawF at h
 split at h
 ·cases h
 ·rename_i o ho
  rw [ho] at hpl
  simp only [Bool.and_eq_true,Bool.not_eq_true'] at hpl
  obtain ⟨⟨⟨g1,g2⟩,g3⟩,g4⟩:=hpl
  have hnD:¬ D i:=fun hD=>by rw [I.sub i hD] at g1;cases g1
  have hdep:∀ x∈o.after,Region.binds .any x=true→tb done x.on=true:=fun x hx hb=>by
   have:=List.all_eq_true.1 g2 x (by simpa using hx)
   simpa [hb] using this
  have hnf:flagged pl i=true→False:=fun hf=>by
   rcases I.hpl i hf with h1 | h1
   ·rw [g1] at h1;cases h1
   ·rcases List.mem_cons.1 h1 with h1 | h1
    ·cases h1
    ·have:=planGo_fresh g4 _ h1
     rw [tb_add] at this
     simp at this
  have hne:∀ j,tb done j=true→j≠i:=fun j hj hh=>by rw [hh,g1] at hj;cases hj
  -- the step,whatever it is
  have go:∀ (tm':T SV) (st':St X) (lds':List LdE) (fm':Option Fill) (oid:Option Nat) (v:SV),(∀ d,o.dst=some d→d < N∧d < TMax∧tm'=tm.upd d (some v))→(o.dst=none→tm'=tm)→Rl L e st' w F→Nxt st0.nx e st w F e st' w F →
    (∀ l∈lds,l∈lds')→(∀ k tc v,opLoad P st.m tc k=some v→opLoad P st'.m tc k=some v)→(∀ b k,st.m.get b=some k→st'.m.get b=some k)→(∀ id,oid=some id→st.nx≤id∧id < st'.nx) →
    (NotIns fm' i→Pend val P ops.toList N st0.nx tm' st' lds' fm' e oid i o) →
    (∀ f,fm=some f→∃ f',fm'=some f'∧f'.mi=f.mi∧f'.ty=f.ty∧f'.id=f.id∧∀ p∈f.ins,p∈f'.ins) →
    (∀ f',fm'=some f'→∀ p∈f'.ins,(∃ f,fm=some f∧p∈f.ins∧f'.ty=f.ty∧f'.id=f.id)∨PendI ops.toList N tm' f' p) →
    (∀ f',fm'=some f'→FillOk P (done ||| 2 ^ i) st0.nx w0.heap.size f' D st' w e F) →
    Inv val P L ops.toList pl N ds e0 st0 w0 F0 t (done ||| 2 ^ i) tm' st' lds' fm' D a w e F (fun j=>if j=i then oid else idf j):=fun tm' st' lds' fm' oid v hput hput0 hR hN hlds hload hm hid hP hfm hpi hfl=>by
   -- what other operations look at,and leave,stands
   have tget:∀ t v',(∀ d,o.dst=some d→t≠d)→tm.get t=some v'→tm'.get t=some v':=fun t v' h1 h2=>by
    cases hd:o.dst with
    | none=>rw [hput0 hd];exact h2
    | some d=>rw [(hput d hd).2.2,T.upd_ne _ _ (h1 d hd)];exact h2
   refine ⟨hR,I.nxt.trans hN,I.size,I.ds,g4,fun j hj=>?_,fun j hj=>by rw [tb_add,I.sub j hj];rfl,I.clo,fun j p hj hpj x hx hb=>?_,fun j hj hf=>?_,fun t' v' hv'=>?_,fun j p hpj hj hnj hji0=>?_,fun f' hf' p hp' hnD'=>?_,hfl,fun x y id h3 h4 h5 h6=>?_,fun x id h3 h5=>?_⟩
   ·rcases I.hpl j hj with h1 | h1
    ·exact .inl (by rw [tb_add,h1];rfl)
    ·rcases List.mem_cons.1 h1 with h1 | h1
     ·cases h1
     ·exact .inr h1
   ·rw [tb_add,Bool.or_eq_true,decide_eq_true_eq] at hj
    rw [tb_add]
    rcases hj with hj | rfl
    ·rw [I.dclo j p hj hpj x hx hb];rfl
    ·rw [ho] at hpj;cases hpj
     rw [hdep x hx hb];rfl
   ·rw [tb_add,Bool.or_eq_true,decide_eq_true_eq] at hj
    rcases hj with hj | rfl
    ·exact I.eff j hj hf
    ·exact (hnf hf).elim
   ·by_cases htd:o.dst=some t'
    ·exact .inl ⟨i,o,by rw [tb_add];simp,hnD,ho,htd⟩
    ·have:tm.get t'=some v':=by
      cases hd:o.dst with
      | none=>rw [hput0 hd] at hv';exact hv'
      | some d =>
       rw [(hput d hd).2.2,T.upd_ne _ _ (fun hh=>htd (by rw [hd,hh]))] at hv'
       exact hv'
     rcases I.tmps t' v' this with ⟨j,p,h2,h3,h4,h5⟩ | h2
     ·exact .inl ⟨j,p,by rw [tb_add,h2];rfl,h3,h4,h5⟩
     ·exact .inr h2
   ·rw [tb_add,Bool.or_eq_true,decide_eq_true_eq] at hj
    by_cases hji:j=i
    ·subst hji
     rw [ho] at hpj;cases hpj
     rw [if_pos rfl]
     exact hP hji0
    ·have hj:tb done j=true:=hj.resolve_right (fun h=>hji h.symm)
     rw [if_neg hji]
     obtain ⟨tmc,r1,r2,r3⟩:=I.pend j p hpj hj hnj fun f hf q hq=>by
      obtain ⟨f',k1,_,_,_,k2⟩:=hfm f hf
      exact hji0 f' k1 q (k2 q hq)
     have hdst:∀ d,p.dst=some d→∀ d',o.dst=some d'→d≠d':=fun d h1 d' h2 hh=>hp.uniq j p i o d hpj ho hji h1 (by rw [h2,hh])
     refine ⟨tmc,fun u hu x hx=>tget u x (fun d hd hud=>?_) (r1 u hu x hx),r2,?_⟩
     ·subst hud
      rcases hp.reads i o j p u ho hpj hd hu with h6 | h6
      ·obtain ⟨y,y1,y2,y3⟩:=depM_mem.1 h6
       have:=I.dclo j p hj hpj y y1 y2
       rw [y3,g1] at this;cases this
      ·exact hnf h6.1
     ·rcases r3 with ⟨s1,s2⟩ | ⟨s1,x,s2,s3⟩
      ·exact .inl ⟨s1,fun d hd=>tget d _ (hdst d hd) (s2 d hd)⟩
      ·refine .inr ⟨s1,x,fun d hd=>tget d _ (hdst d hd) (s2 d hd),?_⟩
       rcases s3 with s3 | ⟨s3,s4⟩ | ⟨id,kk,mk,s4,s5,s6,s7,s8,s9,s10⟩ | ⟨f,s4,s5,s6,s7,s8⟩
       ·exact .inl s3
       ·exact .inr (.inl ⟨hlds _ s3,hload _ _ _ s4⟩)
       ·exact .inr (.inr (.inl ⟨id,kk,mk,s4,s5,s6,s7,s8,Nat.lt_of_lt_of_le s9 hN.nx,hm _ _ s10⟩))
       ·obtain ⟨f',k1,k2,k3,k4,_⟩:=hfm f s4
        exact .inr (.inr (.inr ⟨f',k1,k2.trans s5,by rw [k3];exact s6,by rw [k4];exact s7,by rw [k4];exact s8⟩))
   ·rcases hpi f' hf' p hp' with ⟨f,k1,k2,k3,k4⟩ | k1
    ·obtain ⟨o2,tmc,x,k,y,h1,h2,h3,h4,h5,h6,h7,h8⟩:=I.pins f k1 p k2 hnD'
     have hpj:=((I.fill f k1).insd p k2).1
     have hji:p.1≠i:=hne p.1 hpj
     refine ⟨o2,tmc,x,k,y,h1,fun u hu x' hx=>tget u x' (fun d hd hud=>?_) (h2 u hu x' hx),fun d hd=>⟨(h3 d hd).1,(h3 d hd).2.1,tget d _ (fun d' hd' hh=>hp.uniq p.1 o2 i o d h1 ho hji hd (by rw [hd',hh])) (h3 d hd).2.2⟩,h4,by rw [k3];exact h5,by rw [k4];exact h6,h7,h8⟩
     subst hud
     rcases hp.reads i o p.1 o2 u ho h1 hd hu with h6 | h6
     ·obtain ⟨y,y1,y2,y3⟩:=depM_mem.1 h6
      have:=I.dclo p.1 o2 hpj h1 y y1 y2
      rw [y3,g1] at this;cases this
     ·exact hnf h6.1
    ·exact k1
   ·rw [tb_add,Bool.or_eq_true,decide_eq_true_eq] at h3 h4
    by_cases hx:x=i
    ·by_cases hy:y=i
     ·rw [hx,hy]
     ·rw [if_pos hx] at h5;rw [if_neg hy] at h6
      have:=I.idlt y id (h4.resolve_right fun h=>hy h.symm) h6
      have:=(hid id h5).1
      omega
    ·rw [if_neg hx] at h5
     by_cases hy:y=i
     ·rw [if_pos hy] at h6
      have:=I.idlt x id (h3.resolve_right fun h=>hx h.symm) h5
      have:=(hid id h6).1
      omega
     ·rw [if_neg hy] at h6
      exact I.inj x y id (h3.resolve_right fun h=>hx h.symm) (h4.resolve_right fun h=>hy h.symm) h5 h6
   ·rw [tb_add,Bool.or_eq_true,decide_eq_true_eq] at h3
    by_cases hx:x=i
    ·rw [if_pos hx] at h5;exact (hid id h5).2
    ·rw [if_neg hx] at h5
     exact Nat.lt_of_lt_of_le (I.idlt x id (h3.resolve_right fun h=>hx h.symm) h5) hN.nx
  have putok:∀ {v:SV} {tm':T SV},putS N tm o.dst v=some tm'→(∀ d,o.dst=some d→d < N∧d < TMax∧tm'=tm.upd d (some v))∧(o.dst=none→tm'=tm):=fun {v tm'} hq=>by
   unfold putS at hq
   cases hd:o.dst with
   | none=>rw [hd] at hq;cases hq;exact ⟨nofun,fun _=>rfl⟩
   | some d =>
    rw [hd] at hq
    simp only at hq
    cases hb:Nat.blt d N && Nat.blt d TMax with
    | false=>rw [hb] at hq;cases hq
    | true =>
     rw [hb] at hq;cases hq
     simp only [Bool.and_eq_true,Nat.blt_eq] at hb
     exact ⟨fun d' hd'=>by cases hd';exact ⟨hb.1,hb.2,rfl⟩,nofun⟩
  -- what it looks at is not what it leaves
  have own:∀ {v:SV} {tm':T SV},putS N tm o.dst v=some tm'→(∀ u,Operand.tmp u∈looksO ops.toList o→∀ x,tm.get u=some x→tm'.get u=some x)∧(∀ d,o.dst=some d→d < N∧d < TMax)∧∀ d,o.dst=some d→tm'.get d=some v:=fun {v tm'} hq=>by
   obtain ⟨k1,k2⟩:=putok hq
   refine ⟨fun u hu x hx=>?_,fun d hd=>⟨(k1 d hd).1,(k1 d hd).2.1⟩,fun d hd=>?_⟩
   ·cases hd:o.dst with
    | none=>rw [k2 hd];exact hx
    | some d =>
     rw [(k1 d hd).2.2,T.upd_ne _ _ fun hh=>?_]
     ·exact hx
     ·subst hh
      rcases hp.reads i o i o u ho ho hd hu with h6 | h6
      ·obtain ⟨y,y1,y2,y3⟩:=depM_mem.1 h6
       have:=hp.lt i o ho y y1 y2
       omega
      ·exact hnf h6.1
   ·rw [(k1 d hd).2.2,T.upd_same _ _ (k1 d hd).2.1]
  have fm1:∀ f,fm=some f→∃ f',fm=some f'∧f'.mi=f.mi∧f'.ty=f.ty∧f'.id=f.id∧∀ p∈f.ins,p∈f'.ins:=fun f hf=>⟨f,hf,rfl,rfl,rfl,fun _ h=>h⟩
  have fm2:∀ (tm':T SV) f',fm=some f'→∀ p∈f'.ins,(∃ f,fm=some f∧p∈f.ins∧f'.ty=f.ty∧f'.id=f.id)∨PendI ops.toList N tm' f' p:=fun tm' f hf p hp=>.inl ⟨f,hf,hp,rfl,rfl⟩
  have mono:∀ j,tb done j=true→tb (done ||| 2 ^ i) j=true:=fun j hj=>by rw [tb_add,hj];rfl
  have fm3:∀ (st':St X),st.nx≤st'.nx→(∀ b,b < st.nx→st'.m.get b=st.m.get b)→Nxt st0.nx e st w F e st' w F→∀ f',fm=some f'→FillOk P (done ||| 2 ^ i) st0.nx w0.heap.size f' D st' w e F:=fun st' h1 h2 h3 f hf=>(I.fill f hf).grow mono h1 h2 h3.img
  have fm4:∀ x,∀ f',fm=some f'→FillOk P (done ||| 2 ^ i) st0.nx w0.heap.size f' D ⟨st.m,st.nx,x⟩ w e F:=fun x=>fm3 ⟨st.m,st.nx,x⟩ (Nat.le_refl _) (fun _ _=>rfl) ((Nxt.refl _ e st w F).setx st.x x)
  split at h
  ·cases h
  ·rename_i hw
   split at h
   ·rename_i tm' hput
    obtain ⟨o1,o2,o3⟩:=own hput
    obtain ⟨k1,k2⟩:=putok hput
    exact ⟨tm',st,lds,fm,_,go tm' st lds fm none _ k1 k2 I.R (.refl ..) (fun _ h=>h) (fun _ _ _ h=>h) (fun _ _ h=>h) nofun (fun _=>⟨tm,o1,o2,.inl ⟨hw,o3⟩⟩) fm1 (fm2 _) (fm4 st.x),h⟩
   ·cases h
  ·rename_i hw
   simp only at h
   split at h
   ·split at h
    ·rename_i v1 x1 hx
     split at h
     ·rename_i tm' hput
      obtain ⟨g1,hv,g2⟩:=hval.val _ _ _ _ _ hx (drawF_good hval hc hg h:good (St.mk st.m st.nx x1).x)
      obtain ⟨o1,o2,o3⟩:=own hput
      obtain ⟨k1,k2⟩:=putok hput
      exact ⟨tm',_,lds,fm,_,go tm' ⟨st.m,st.nx,x1⟩ lds fm none _ k1 k2 (I.R.setx (g2 _ _ _ I.R.ext)) ((Nxt.refl _ e st w F).setx st.x x1) (fun _ h=>h) (fun _ _ _ h=>h) (fun _ _ h=>h) nofun (fun _=>⟨tm,o1,o2,.inr ⟨hw,_,o3,.inl (.inl hv)⟩⟩) fm1 (fm2 _) (fm4 x1),h⟩
     ·cases h
    ·cases h
   ·split at h
    ·rename_i v hv
     split at h
     ·rename_i tm' hput
      obtain ⟨o1,o2,o3⟩:=own hput
      obtain ⟨k1,k2⟩:=putok hput
      exact ⟨tm',st,_,fm,_,go tm' st (⟨i,o.op,tm,v⟩ :: lds) fm none _ k1 k2 I.R (.refl ..) (fun _ h=>List.mem_cons_of_mem _ h) (fun _ _ _ h=>h) (fun _ _ h=>h) nofun (fun _=>⟨tm,o1,o2,.inr ⟨hw,v,o3,.inr (.inl ⟨List.mem_cons_self ..,hv⟩)⟩⟩) fm1 (fm2 _) (fm4 st.x),h⟩
     ·cases h
    ·split at h
     ·rename_i v1 x1 hx
      split at h
      ·rename_i tm' hput
       obtain ⟨g1,hv,g2⟩:=hval.val _ _ _ _ _ hx (drawF_good hval hc hg h:good (St.mk st.m st.nx x1).x)
       obtain ⟨o1,o2,o3⟩:=own hput
       obtain ⟨k1,k2⟩:=putok hput
       exact ⟨tm',_,lds,fm,_,go tm' ⟨st.m,st.nx,x1⟩ lds fm none _ k1 k2 (I.R.setx (g2 _ _ _ I.R.ext)) ((Nxt.refl _ e st w F).setx st.x x1) (fun _ h=>h) (fun _ _ _ h=>h) (fun _ _ h=>h) nofun (fun _=>⟨tm,o1,o2,.inr ⟨hw,_,o3,.inl (.inr hv)⟩⟩) fm1 (fm2 _) (fm4 x1),h⟩
      ·cases h
     ·cases h
   ·split at h
    ·-- a map that is to be filled
     obtain hfm0 | ⟨f0,hfm0⟩:fm=none∨∃ f,fm=some f:=by cases fm<;>simp
     ·rw [hfm0] at h
      simp only at h
      split at h
      ·rename_i f hf
       split at h
       ·rename_i tm' hput
        obtain ⟨o1,o2,o3⟩:=own hput
        obtain ⟨k1,k2⟩:=putok hput
        have hnn:st.m.get st.nx=none:=by
         cases hq:st.m.get st.nx with
         | none=>rfl
         | some k=>exact absurd (I.R.old _ _ hq) (Nat.lt_irrefl _)
        obtain ⟨t1,kt,d,el,e1,e2,e3,rfl⟩:∃ t1 kt d el,o.op=.makeMap t1 none∧P.underlying t1=some (.map kt el)∧P.underlying kt=some d∧f=⟨i,st.nx,t1,kt,d,[]⟩:=by
         unfold fillNew at hf
         split at hf
         ·rename_i t1 ho1
          split at hf
          ·rename_i kt el hk
           split at hf
           ·rename_i d hd
            cases hf
            exact ⟨t1,kt,d,el,ho1,hk,hd,rfl⟩
           ·cases hf
          ·cases hf
         ·cases hf
        have hR2:Rl L e ⟨st.m,st.nx + 1,st.x⟩ w F:=⟨I.R.blk,I.R.dis,fun b k h=>Nat.lt_succ_of_lt (I.R.old b k h),fun b x h=>Nat.lt_succ_of_lt (I.R.dom b x h),I.R.sib,I.R.ext⟩
        have hN2:Nxt st0.nx e st w F e ⟨st.m,st.nx + 1,st.x⟩ w F:=⟨.refl e,rfl,rfl,rfl,Nat.le_refl _,fun _ _ _=>rfl,fun _ _ h=>h,fun _ _ h=>⟨h,fun _=>rfl⟩,Nat.le_succ _⟩
        refine ⟨tm',_,lds,_,_,go tm' ⟨st.m,st.nx + 1,st.x⟩ lds (some ⟨i,st.nx,t1,kt,d,[]⟩) none _ k1 k2 hR2 hN2 (fun _ h=>h) (fun _ _ _ h=>h) (fun _ _ h=>h) nofun
         (fun _=>⟨tm,o1,o2,.inr ⟨hw,_,o3,.inr (.inr (.inr ⟨_,rfl,rfl,e1,rfl,I.R.none⟩))⟩⟩) (fun f2 hf2=>by rw [hfm0] at hf2;cases hf2) (fun f2 hf2 p hp2=>by cases hf2;cases hp2) (fun f2 hf2=>?_),h⟩
        cases hf2
        exact ⟨I.nxt.nx,Nat.lt_succ_self _,⟨el,e2⟩,e3,by rw [tb_add];simp,nofun,nofun,nofun,.inl ⟨I.R.none,hnn,nofun⟩⟩
       ·cases h
      ·cases h
     ·rw [hfm0] at h;cases h
    ·split at h
     ·rename_i p hv
      obtain ⟨kk,mk⟩:=p
      cases hb:Nat.blt st.nx TMax with
      | false=>rw [hb] at h;cases h
      | true =>
       rw [hb,cond_true] at h
       have hn:st.nx < TMax:=by simpa [Nat.blt_eq] using hb
       split at h
       ·rename_i tm' hput
        obtain ⟨o1,o2,o3⟩:=own hput
        obtain ⟨k1,k2⟩:=putok hput
        have hnn:st.m.get st.nx=none:=by
         cases hq:st.m.get st.nx with
         | none=>rfl
         | some k=>exact absurd (I.R.old _ _ hq) (Nat.lt_irrefl _)
        have hN2:Nxt st0.nx e st w F e (st.add kk) w F:=(Nxt.add I.R _).less I.nxt.nx
        refine ⟨tm',_,lds,fm,_,go tm' (st.add kk) lds fm (some st.nx) _ k1 k2 (I.R.add hn _) hN2 (fun _ h=>h) (fun _ _ _ h=>opLoad_add h hnn) (fun b k hbk=>?_) (fun id hid=>?_) (fun _=>⟨tm,o1,o2,.inr ⟨hw,_,o3,.inr (.inr (.inl ⟨st.nx,kk,mk,rfl,hv,rfl,I.R.none,I.nxt.nx,Nat.lt_succ_self _,T.upd_same _ _ hn⟩))⟩⟩) fm1 (fm2 _) (fm3 (st.add kk) (Nat.le_succ _) (fun b hb=>T.upd_ne _ _ (Nat.ne_of_lt hb)) hN2),h⟩
        ·rw [St.add,T.upd_ne _ _ (fun hh=>by rw [hh,hnn] at hbk;cases hbk)];exact hbk
        ·cases hid;exact ⟨Nat.le_refl _,Nat.lt_succ_self _⟩
       ·cases h
     ·cases h
   ·obtain hfm0 | ⟨f,hfm0⟩:fm=none∨∃ f,fm=some f:=by cases fm<;>simp
    ·rw [hfm0] at h;cases h
    ·rw [hfm0] at h
     simp only at h
     split at h
     ·rename_i f' hf'
      split at h
      ·rename_i tm' hput
       obtain ⟨o1,o2,o3⟩:=own hput
       obtain ⟨k1,k2⟩:=putok hput
       have FO:=I.fill f hfm0
       obtain ⟨x,k,y,q,v,e1,e2,e3,e4,e5,e6,rfl⟩:∃ x k y q v,o.op=.insert f.ty x k y∧evx tm x=some (.map f.id)∧evx tm k=some q∧evx tm y=some v∧keyOk f.d q=true∧(∀ p∈f.ins,eqKey f.d q p.2.1=some false∧eqKey f.d p.2.1 q=some false)∧f'=⟨f.mi,f.id,f.ty,f.kt,f.d,(i,q,v) :: f.ins⟩:=by
        unfold fillPut at hf'
        split at hf'
        ·rename_i t1 x k y ho1
         split at hf'
         ·rename_i b hb
          split at hf'
          ·rename_i q hq
           split at hf'
           ·rename_i v hv
            cases hcn:Nat.beq b f.id && Nat.beq t1 f.ty && keyOk f.d q && f.ins.all (fun p=>isF (eqKey f.d q p.2.1) && isF (eqKey f.d p.2.1 q)) with
            | false=>rw [hcn] at hf';cases hf'
            | true =>
             rw [hcn] at hf';cases hf'
             simp only [Bool.and_eq_true,List.all_eq_true] at hcn
             obtain ⟨⟨⟨c1,c2⟩,c3⟩,c4⟩:=hcn
             have c1:=Nat.eq_of_beq_eq_true c1
             have c2:=Nat.eq_of_beq_eq_true c2
             subst c2
             exact ⟨x,k,y,q,v,ho1,by rw [hb,c1],hq,hv,c3,fun p hp2=>⟨isF_ok (c4 p hp2).1,isF_ok (c4 p hp2).2⟩,rfl⟩
           ·cases hf'
          ·cases hf'
         ·cases hf'
        ·cases hf'
       have hni:∀ p∈f.ins,p.1≠i:=fun p hp2=>hne p.1 (FO.insd p hp2).1
       refine ⟨tm',st,lds,_,_,go tm' st lds (some ⟨f.mi,f.id,f.ty,f.kt,f.d,(i,q,v) :: f.ins⟩) none _ k1 k2 I.R (.refl ..) (fun _ h=>h) (fun _ _ _ h=>h) (fun _ _ h=>h) nofun
        (fun hno=>absurd rfl (hno _ rfl _ (List.mem_cons_self ..))) (fun f2 hf2=>?_) (fun f2 hf2 p hp2=>?_) (fun f2 hf2=>?_),h⟩
       ·rw [hfm0] at hf2;cases hf2
        exact ⟨_,rfl,rfl,rfl,rfl,fun p hp2=>List.mem_cons_of_mem _ hp2⟩
       ·cases hf2
        rcases List.mem_cons.1 hp2 with rfl | hp2
        ·exact .inr ⟨o,tm,x,k,y,ho,o1,fun d hd=>⟨(o2 d hd).1,(o2 d hd).2,o3 d hd⟩,hw,e1,e2,e3,e4⟩
        ·exact .inl ⟨f,hfm0,hp2,rfl,rfl⟩
       ·cases hf2
        have G:=FO.grow (st':=st) mono (Nat.le_refl _) (fun _ _=>rfl) (fun _ _ h=>h)
        refine ⟨G.lo,G.hi,G.ty,G.kd,G.mi,fun p hp2=>?_,fun p hp2 p' hp3 hh=>?_,fun p hp2 p' hp3 hh=>?_,?_⟩
        ·rcases List.mem_cons.1 hp2 with rfl | hp2
         ·exact ⟨by rw [tb_add];simp,fun hh=>hne f.mi FO.mi hh.symm,e5⟩
         ·exact G.insd p hp2
        ·rcases List.mem_cons.1 hp2 with rfl | hp2<;>rcases List.mem_cons.1 hp3 with rfl | hp3
         ·rfl
         ·exact absurd hh.symm (hni p' hp3)
         ·exact absurd hh (hni p hp2)
         ·exact G.fn p hp2 p' hp3 hh
        ·rcases List.mem_cons.1 hp2 with rfl | hp2<;>rcases List.mem_cons.1 hp3 with rfl | hp3
         ·exact absurd rfl hh
         ·exact (e6 p' hp3).1
         ·exact (e6 p hp2).2
         ·exact G.ne p hp2 p' hp3 hh
        ·rcases G.mem with ⟨m1,m2,m3⟩ | ⟨c,o1',z,es,ck,m1,m2,m3,m4,m5,m6⟩
         ·refine .inl ⟨m1,m2,fun p hp2=>?_⟩
          rcases List.mem_cons.1 hp2 with rfl | hp2
          ·exact hnD
          ·exact m3 p hp2
         ·refine .inr ⟨c,o1',z,es,ck,m1,m2,m3,m4,fun p hp2 hh=>?_,fun x hx=>?_⟩
          ·rcases List.mem_cons.1 hp2 with rfl | hp2
           ·exact absurd hh hnD
           ·exact m5 p hp2 hh
          ·obtain ⟨p,n1,n2⟩:=m6 x hx
           exact ⟨p,List.mem_cons_of_mem _ n1,n2⟩
      ·cases h
     ·cases h
theorem Inv.aheads (hval:ValOk P L good val) (hc:CallOk P L good call) {r:T SV × St X} (hg:good r.2.x) (hp:PlanOk ops.toList pl):∀ {rest:Plan} {done:Nat} {tm:T SV} {st:St X} {lds:List LdE} {fm:Option Fill} {idf:Nat→Option Nat},Inv val P L ops.toList pl N ds e0 st0 w0 F0 rest done tm st lds fm D a w e F idf→drawF P val call ops.toList N rest tm st lds fm=some r →
  ∃ rest' done' tm' st' lds' fm' idf',(rest'=[]∨∃ i t,rest'=(i,true) :: t)∧Inv val P L ops.toList pl N ds e0 st0 w0 F0 rest' done' tm' st' lds' fm' D a w e F idf'∧drawF P val call ops.toList N rest' tm' st' lds' fm'=some r
 | [],done,tm,st,lds,fm,idf,I,h=>⟨[],done,tm,st,lds,fm,idf,.inl rfl,I,h⟩
 | (i,true) :: t,done,tm,st,lds,fm,idf,I,h=>⟨_,done,tm,st,lds,fm,idf,.inr ⟨i,t,rfl⟩,I,h⟩
 | (i,false) :: t,done,tm,st,lds,fm,idf,I,h=>by
  obtain ⟨tm',st',lds',fm',idf',I',h'⟩:=I.ahead hval hc hg hp h
  exact Inv.aheads hval hc hg hp I' h'
theorem stepOp_load {tm:T SV} {st st':St X} {o:Op} {v:SV} (h:stepOp P val call tm st o=some (v,st')) (h3:cls o≠3) (hn:st.m.get st.nx=none) {tc:T SV} {k:Op} {x:SV} (hl:opLoad P st.m tc k=some x):opLoad P st'.m tc k=some x:=by
 unfold stepOp at h
 split at h
 ·split at h
  ·cases h;exact hl
  ·cases h
 ·split at h
  ·cases h;exact hl
  ·split at h
   ·cases h;exact hl
   ·cases h
 ·split at h
  ·rename_i p hp
   cases hb:Nat.blt st.nx TMax with
   | false=>rw [hb] at h;cases h
   | true=>rw [hb] at h;cases h;exact opLoad_add hl hn
  ·cases h
 ·rename_i n1 n2 n3
  have:cls o=0∨cls o=1∨cls o=2∨cls o=3:=by
   unfold cls
   repeat' (first | (split) | simp)
  rcases this with h | h | h | h
  ·exact absurd h n1
  ·exact absurd h n2
  ·exact absurd h n3
  ·exact absurd h h3
theorem Inv.effect (hval:ValOk P L good val) (hc:CallOk P L good call) (hp:PlanOk ops.toList pl) {i:Nat} {t:Plan} (I:Inv val P L ops.toList pl N ds e0 st0 w0 F0 ((i,true) :: t) done tm st lds fm D a w e F idf) {r:T SV × St X} (hg:good r.2.x)
  (h:drawF P val call ops.toList N ((i,true) :: t) tm st lds fm=some r) {o:Oper} (ho:ops.toList[i]?=some o) (hd:∀ x∈o.after,Region.binds .any x=true→D x.on) {K:Go.Act→World→Prop} {Q:Exit→Go.Act→World→Prop}
  (hK:∀ a' w' e' F' tm' st' idf',Inv val P L ops.toList pl N ds e0 st0 w0 F0 t (done ||| 2 ^ i) tm' st' lds fm (fun j=>D j∨j=i) a' w' e' F' idf'→drawF P val call ops.toList N t tm' st' lds fm=some r→K a' w'):wpOp P ops Q i K a w:=by
 have hpl:=I.plan
 unfold planGo at hpl
 unfold drawF at h
 rw [ho] at hpl h
 simp only [Bool.and_eq_true,Bool.not_eq_true'] at hpl h
 obtain ⟨⟨⟨g1,g2⟩,g3⟩,g4⟩:=hpl
 have hnD:¬ D i:=fun hD=>by rw [I.sub i hD] at g1;cases g1
 have hdep:∀ x∈o.after,Region.binds .any x=true→tb done x.on=true:=fun x hx hb=>I.sub _ (hd x hx hb)
 have hAS:=I.as hp ho hd (tmc:=tm) (fun _ _ _ h=>h)
 have hAS2:AS e tm a o.op.operands.toList:=fun x hx=>hAS x (looks_ops hx)
 have ho':ops[i]?=some o:=by rw [← opl_get];exact ho
 have hanc:∀ j,tb (anc ops.toList i) j=true→D j:=anc_sub I.clo ho hd
 have hnn:st.m.get st.nx=none:=by
  cases hq:st.m.get st.nx with
  | none=>rfl
  | some k=>exact absurd (I.R.old _ _ hq) (Nat.lt_irrefl _)
 -- the next state
 have next:∀ (tm':T SV) (st':St X) (v:SV) (u:Value) (w':World) (e':Env) (F':FootE),putS N tm o.dst v=some tm'→VR e' v u→Rl L e' st' w' F'→Nxt st.nx e st w F e' st' w' F' →
   (∀ l∈lds,tb (anc ops.toList i) l.i=false→opLoad P st.m l.tm l.op=some l.v→opLoad P st'.m l.tm l.op=some l.v) →
   Inv val P L ops.toList pl N ds e0 st0 w0 F0 t (done ||| 2 ^ i) tm' st' lds fm (fun j=>D j∨j=i) (a.put o.dst u) w' e' F' (fun j=>if j=i then none else idf j):=fun tm' st' v u w' e' F' hq hu hR hN hload=>by
  have k1:(∀ d,o.dst=some d→d < N∧d < TMax∧tm'=tm.upd d (some v))∧(o.dst=none→tm'=tm):=by
   unfold putS at hq
   cases hd:o.dst with
   | none=>rw [hd] at hq;cases hq;exact ⟨nofun,fun _=>rfl⟩
   | some d =>
    rw [hd] at hq
    simp only at hq
    cases hb:Nat.blt d N && Nat.blt d TMax with
    | false=>rw [hb] at hq;cases hq
    | true =>
     rw [hb] at hq;cases hq
     simp only [Bool.and_eq_true,Nat.blt_eq] at hb
     exact ⟨fun d' hd'=>by cases hd';exact ⟨hb.1,hb.2,rfl⟩,nofun⟩
  obtain ⟨hput,hput0⟩:=k1
  have tget:∀ t v',(∀ d,o.dst=some d→t≠d)→tm.get t=some v'→tm'.get t=some v':=fun t v' h1 h2=>by
   cases hd:o.dst with
   | none=>rw [hput0 hd];exact h2
   | some d=>rw [(hput d hd).2.2,T.upd_ne _ _ (h1 d hd)];exact h2
  refine ⟨hR,I.nxt.trans (hN.less I.nxt.nx),by rw [(put_size a o.dst u).1];exact I.size,by rw [(put_size a o.dst u).2];exact I.ds,g4,fun j hj=>?_,fun j hj=>?_,fun j p hj hpj x hx hb=>?_,fun j p hj hpj x hx hb=>?_,fun j hj hf=>?_,fun t' v' hv'=>?_,fun j p hpj hj hnj hji0=>?_,fun f hf p hp' hnD'=>?_,fun f hf=>?_,fun x y id h3 h4 h5 h6=>?_,fun x id h3 h5=>?_⟩
  ·rcases I.hpl j hj with h1 | h1
   ·exact .inl (by rw [tb_add,h1];rfl)
   ·rcases List.mem_cons.1 h1 with h1 | h1
    ·cases h1;exact .inl (by rw [tb_add];simp)
    ·exact .inr h1
  ·rcases hj with hj | rfl
   ·rw [tb_add,I.sub j hj];rfl
   ·rw [tb_add];simp
  ·rcases hj with hj | rfl
   ·exact .inl (I.clo j p hj hpj x hx hb)
   ·rw [ho] at hpj;cases hpj
    exact .inl (hd x hx hb)
  ·rw [tb_add,Bool.or_eq_true,decide_eq_true_eq] at hj
   rw [tb_add]
   rcases hj with hj | rfl
   ·rw [I.dclo j p hj hpj x hx hb];rfl
   ·rw [ho] at hpj;cases hpj
    rw [hdep x hx hb];rfl
  ·rw [tb_add,Bool.or_eq_true,decide_eq_true_eq] at hj
   rcases hj with hj | rfl
   ·exact .inl (I.eff j hj hf)
   ·exact .inr rfl
  ·by_cases htd:o.dst=some t'
   ·obtain ⟨q1,q2,q3⟩:=hput t' htd
    rw [q3,T.upd_same _ _ q2] at hv';cases hv'
    refine .inr ⟨u,?_,hu⟩
    have:t' < a.tmps.size:=Nat.lt_of_lt_of_le q1 I.size
    simp [htd,Act.put,this]
   ·have:tm.get t'=some v':=by
     cases hd:o.dst with
     | none=>rw [hput0 hd] at hv';exact hv'
     | some d =>
      rw [(hput d hd).2.2,T.upd_ne _ _ (fun hh=>htd (by rw [hd,hh]))] at hv'
      exact hv'
    rcases I.tmps t' v' this with ⟨j,p,h2,h3,h4,h5⟩ | ⟨u',h2,h3⟩
    ·exact .inl ⟨j,p,by rw [tb_add,h2];rfl,fun hh=>hh.elim h3 (fun hji=>by rw [hji,g1] at h2;cases h2),h4,h5⟩
    ·refine .inr ⟨u',?_,h3.mono hN.le⟩
     cases hd:o.dst with
     | none=>simpa [Act.put] using h2
     | some d =>
      simp only [Act.put]
      rw [Array.getElem?_setIfInBounds_ne (fun hh=>htd (by rw [hd,hh]))]
      exact h2
  ·rw [tb_add,Bool.or_eq_true,decide_eq_true_eq] at hj
   have hji:j≠i:=fun hh=>hnj (.inr hh)
   have hnDj:¬ D j:=fun hh=>hnj (.inl hh)
   have hj:tb done j=true:=hj.resolve_right (fun h=>hji h.symm)
   obtain ⟨tmc,r1,r2,r3⟩:=I.pend j p hpj hj hnDj hji0
   rw [if_neg hji]
   have hdst:∀ d,p.dst=some d→∀ d',o.dst=some d'→d≠d':=fun d h1 d' h2 hh=>hp.uniq j p i o d hpj ho hji h1 (by rw [h2,hh])
   refine ⟨tmc,fun u' hu' x hx=>tget u' x (fun d hd' hud=>?_) (r1 u' hu' x hx),r2,?_⟩
   ·subst hud
    rcases hp.reads i o j p u' ho hpj hd' hu' with h6 | h6
    ·obtain ⟨y,y1,y2,y3⟩:=depM_mem.1 h6
     have:=I.dclo j p hj hpj y y1 y2
     rw [y3,g1] at this;cases this
    ·exact hnDj (hanc j h6.2)
   ·rcases r3 with ⟨s1,s2⟩ | ⟨s1,x,s2,s3⟩
    ·exact .inl ⟨s1,fun d hd=>tget d _ (hdst d hd) (s2 d hd)⟩
    ·refine .inr ⟨s1,x,fun d hd=>tget d _ (hdst d hd) (s2 d hd),?_⟩
     rcases s3 with s3 | ⟨s3,s4⟩ | ⟨id,kk,mk,s4,s5,s6,s7,s8,s9,s10⟩ | ⟨f,s4,s5,s6,s7,s8⟩
     ·exact .inl s3
     ·refine .inr (.inl ⟨s3,hload _ s3 ?_ s4⟩)
      cases hq:tb (anc ops.toList i) j with
      | false=>rfl
      | true=>exact absurd (hanc j hq) hnDj
     ·obtain ⟨z1,z2⟩:=hN.und id s9 s7
      exact .inr (.inr (.inl ⟨id,kk,mk,s4,s5,s6,z1,s8,Nat.lt_of_lt_of_le s9 hN.nx,by rw [z2 (by rw [s10];exact fun hh=>(opNew_k s5).2 (Option.some.inj hh))];exact s10⟩))
     ·exact .inr (.inr (.inr ⟨f,s4,s5,s6,s7,(hN.und f.id (I.fill f s4).hi s8).1⟩))
  ·obtain ⟨o2,tmc,x,k,y,h1,h2,h3,h4,h5,h6,h7,h8⟩:=I.pins f hf p hp' fun hh=>hnD' (.inl hh)
   have hpj:=((I.fill f hf).insd p hp').1
   have hji:p.1≠i:=fun hh=>by rw [hh,g1] at hpj;cases hpj
   refine ⟨o2,tmc,x,k,y,h1,fun u hu x' hx=>tget u x' (fun d hd hud=>?_) (h2 u hu x' hx),fun d hd=>⟨(h3 d hd).1,(h3 d hd).2.1,tget d _ (fun d' hd' hh=>hp.uniq p.1 o2 i o d h1 ho hji hd (by rw [hd',hh])) (h3 d hd).2.2⟩,h4,h5,h6,h7,h8⟩
   subst hud
   rcases hp.reads i o p.1 o2 u ho h1 hd hu with h6 | h6
   ·obtain ⟨y,y1,y2,y3⟩:=depM_mem.1 h6
    have:=I.dclo p.1 o2 hpj h1 y y1 y2
    rw [y3,g1] at this;cases this
   ·exact hnD' (.inl (hanc p.1 h6.2))
  ·have FO:=I.fill f hf
   refine ⟨FO.lo,Nat.lt_of_lt_of_le FO.hi hN.nx,FO.ty,FO.kd,by rw [tb_add,FO.mi];rfl,fun p hp2=>⟨by rw [tb_add,(FO.insd p hp2).1];rfl,(FO.insd p hp2).2⟩,FO.fn,FO.ne,?_⟩
   have hni:∀ p∈f.ins,p.1≠i:=fun p hp2 hh=>by have:=(FO.insd p hp2).1;rw [hh,g1] at this;cases this
   rcases FO.mem with ⟨m1,m2,m3⟩ | ⟨c,o',z,es,ck,m1,m2,m3,m4,m5,m6⟩
   ·obtain ⟨z1,z2⟩:=hN.und f.id FO.hi m1
    exact .inl ⟨z1,by rw [z2 (by rw [m2];nofun)];exact m2,fun p hp2 hh=>hh.elim (m3 p hp2) (hni p hp2)⟩
   ·have hc:=(zN m4).1
    refine .inr ⟨c,o',z,es,ck,hN.le _ _ m1,m2,fun hh=>m3 (hN.img c hc hh),(hN.frame c hc m3).trans m4,fun p hp2 hh=>?_,fun x hx=>?_⟩
    ·obtain ⟨x,n1,n2,n3⟩:=m5 p hp2 (hh.resolve_right (hni p hp2))
     exact ⟨x,n1,n2.mono hN.le,n3.mono hN.le⟩
    ·obtain ⟨p,n1,n2,n3,n4⟩:=m6 x hx
     exact ⟨p,n1,.inl n2,n3.mono hN.le,n4.mono hN.le⟩
  ·rw [tb_add,Bool.or_eq_true,decide_eq_true_eq] at h3 h4
   by_cases hx:x=i
   ·rw [if_pos hx] at h5;cases h5
   ·by_cases hy:y=i
    ·rw [if_pos hy] at h6;cases h6
    ·rw [if_neg hx] at h5;rw [if_neg hy] at h6
     exact I.inj x y id (h3.resolve_right fun h=>hx h.symm) (h4.resolve_right fun h=>hy h.symm) h5 h6
  ·rw [tb_add,Bool.or_eq_true,decide_eq_true_eq] at h3
   by_cases hx:x=i
   ·rw [if_pos hx] at h5;cases h5
   ·rw [if_neg hx] at h5
    exact Nat.lt_of_lt_of_le (I.idlt x id (h3.resolve_right fun h=>hx h.symm) h5) hN.nx
 unfold wpOp
 rw [ho']
 simp only
 split at h
 ·cases h
 ·rename_i hw
  split at h
  ·rename_i tm' hput
   rw [wantS_ok hw hAS]
   simp only [Bool.false_eq_true,if_false]
   exact hK _ _ _ _ _ _ _ (next tm' st (.tup []) undef w e F hput (.tup .nil) I.R (.refl ..) fun _ _ _ h=>h) h
  ·cases h
 ·rename_i hw
  rw [wantS_ok hw hAS]
  simp only [if_true]
  refine .inl ?_
  split at h
  ·rename_i v hv
   split at h
   ·rename_i tm' hput
    obtain ⟨f,x,k,q,p,hf,e1,e2,e3,e4,e5,e6,e7⟩:∃ f x k q p,fm=some f∧o.op=.lookup f.ty x k false∧evx tm x=some (.map f.id)∧evx tm k=some q∧f.ins.filter (fun p=>isTr (eqKey f.d q p.2.1))=[p]∧v=p.2.2∧keyOk f.d q=true ∧
      ∀ p∈f.ins,tb (anc ops.toList i) p.1=true∧(eqKey f.d q p.2.1).isSome=true:=by
     unfold fillLook at hv
     split at hv
     ·cases hv
     ·rename_i f
      split at hv
      ·rename_i t1 x k ho1
       split at hv
       ·rename_i b hb
        split at hv
        ·rename_i q hq
         split at hv
         ·rename_i p hpf
          cases hcn:Nat.beq b f.id && Nat.beq t1 f.ty && keyOk f.d q && f.ins.all (fun p=>tb (anc ops.toList i) p.1 && (eqKey f.d q p.2.1).isSome) with
          | false=>rw [hcn] at hv;cases hv
          | true =>
           rw [hcn] at hv;cases hv
           simp only [Bool.and_eq_true,List.all_eq_true] at hcn
           obtain ⟨⟨⟨c1,c2⟩,c3⟩,c4⟩:=hcn
           have c1:=Nat.eq_of_beq_eq_true c1
           have c2:=Nat.eq_of_beq_eq_true c2
           subst c2
           exact ⟨f,x,k,q,p,rfl,ho1,by rw [hb,c1],hq,hpf,rfl,c3,c4⟩
         ·cases hv
        ·cases hv
       ·cases hv
      ·cases hv
    subst e5
    have FO:=I.fill f hf
    have vx:=hAS2 x (by rw [e1];simp [Op.operands]) _ e2
    have vk:=hAS2 k (by rw [e1];simp [Op.operands]) _ e3
    obtain ⟨c,o1,z1,hb,hx⟩:∃ c o1 z1,e f.id=some (c,o1,z1)∧a.eval x=.map (some c):=by
     generalize a.eval x=u at vx
     cases vx with
     | map hb=>exact ⟨_,_,_,hb,rfl⟩
    obtain ⟨es,ck,m4,m5,m6⟩:∃ es ck,w.heap[c]?=some (.map es ck)∧(∀ p∈f.ins,D p.1→∃ x∈es.toList,VR e p.2.1 x.key∧VR e p.2.2 x.val) ∧
      ∀ x∈es.toList,∃ p∈f.ins,D p.1∧VR e p.2.1 x.key∧VR e p.2.2 x.val:=by
     rcases FO.mem with ⟨a1,_⟩ | ⟨c2,o2,z2,es,ck,a1,a2,a3,a4,a5,a6⟩
     ·rw [hb] at a1;cases a1
     ·rw [hb] at a1;cases a1
      exact ⟨es,ck,a4,a5,a6⟩
    obtain ⟨el,hty⟩:=FO.ty
    have hpm:p∈f.ins∧isTr (eqKey f.d q p.2.1)=true:=List.mem_filter.1 (by rw [e4];exact List.mem_singleton.2 rfl)
    have isTr_ok:∀ {x:Option Bool},isTr x=true→x=some true:=fun {x} h=>by
     unfold isTr at h
     split at h
     ·rfl
     ·cases h
    obtain ⟨j,x2,k1,k2⟩:=findNow_yes (d:=f.d) (y:=a.eval k) (G:=fun x=>VR e p.2.2 x.val) (es:=es.toList) (i:=0) (fun x hx=>by
     obtain ⟨p',n1,n2,n3,n4⟩:=m6 x hx
     obtain ⟨b,hb2⟩:=Option.isSome_iff_exists.1 ((e7 p' n1).2)
     refine ⟨b,(eqKey_ok hb2 vk n3).1,fun hbt=>?_⟩
     subst hbt
     have:p'∈f.ins.filter (fun p=>isTr (eqKey f.d q p.2.1)):=List.mem_filter.2 ⟨n1,by rw [hb2];rfl⟩
     rw [e4,List.mem_singleton] at this
     rw [← this];exact n4) (by
     obtain ⟨x,n1,n2,n3⟩:=m5 p hpm.1 (hanc _ ((e7 p hpm.1).1))
     exact ⟨x,n1,(eqKey_ok (isTr_ok hpm.2) vk n2).1⟩)
    have hck:=keyOk_ok e6 vk FO.kd es.isEmpty 9999 w
    have hget:(getObj c).run P w=.ok (.map es ck) w:=by simp [getObj,Sem.run,m4]
    have hfk:=run_findKey FO.kd k1 w
    have hrun:(Instr.lookup f.ty (a.eval x) (a.eval k) false).run P w=.ok x2.val w:=by
     rw [hx]
     unfold Instr.lookup
     simp only [Sem.run_bind,Sem.run_pure,run_underlying hty,Result.andThen_ok,hget,hck,hfk]
     rfl
    have hY:YieldsV P o a w e p.2.2:=yv (s:=Instr.lookup f.ty (a.eval x) (a.eval k) false) (by simp only [execOp,e1]) ⟨_,hrun,k2⟩
    exact hY.wp fun u hu=>hK _ _ _ _ _ _ _ (next tm' st p.2.2 u w e F hput hu I.R (.refl ..) fun _ _ _ h=>h) h
   ·cases h
  ·split at h
   ·rename_i q hq
    split at h
    ·rename_i tm' hput
     split at h
     ·rename_i x1 hb
      have hgx:good x1:=(drawF_good hval hc hg h:good (St.mk q.2.m q.2.nx x1).x)
      have hk:good q.2.x∧(∀ e w F,L.R e q.2.x w F→L.R e x1 w F)∧(cls o.op=3→∀ l∈lds,tb (anc ops.toList i) l.i=false→opLoad P q.2.m l.tm l.op=some l.v):=by
       split at hb
       ·obtain ⟨g1,g2,g3⟩:=recheck_ok hval hgx hb
        exact ⟨g1,g3,fun _=>g2⟩
       ·rename_i h3
        cases hb
        exact ⟨hgx,fun _ _ _ h=>h,fun h3'=>by rw [h3'] at h3;cases h3⟩
      refine (stepOp_ok hval hc (v:=q.1) (st':=q.2) hq hk.1).2 e w F a _ Q I.R hAS2 fun u w' e' F' hu hR hN=>?_
      refine hK _ _ _ _ _ _ _ (next tm' ⟨q.2.m,q.2.nx,x1⟩ q.1 u w' e' F' hput hu (hR.setx (hk.2.1 _ _ _ hR.ext)) (hN.setx st.x x1) fun l hl hn hld=>?_) h
      by_cases h3:cls o.op=3
      ·exact hk.2.2 h3 l hl hn
      ·exact stepOp_load (v:=q.1) (st':=q.2) hq h3 hnn hld
     ·cases h
    ·cases h
   ·cases h
def unl (n:Nat) (listed:Array Bool):Nat:=((List.range n).filter fun i=>!listed.getD i true).length
theorem unl_set {n i:Nat} {listed:Array Bool} (hi:i < n) (hu:listed.getD i true=false):unl n (listed.setIfInBounds i true) < unl n listed:=by
 unfold unl
 have hsub:∀ l:List Nat,(l.filter fun j=>!(listed.setIfInBounds i true).getD j true).length≤(l.filter fun j=>!listed.getD j true).length∧(i∈l→(l.filter fun j=>!(listed.setIfInBounds i true).getD j true).length < (l.filter fun j=>!listed.getD j true).length):=by
  intro l
  induction l with
  | nil=>simp
  | cons x t ih =>
   have hx:x≠i→(listed.setIfInBounds i true).getD x true=listed.getD x true:=fun hx=>by
    simp only [Array.getD_eq_getD_getElem?]
    rw [Array.getElem?_setIfInBounds_ne (Ne.symm hx)]
   have hxi:(listed.setIfInBounds i true).getD i true=true:=by
    simp only [Array.getD_eq_getD_getElem?]
    rcases Nat.lt_or_ge i listed.size with h | h
    ·simp [h]
    ·rw [Array.getElem?_eq_none (by simpa using h)];rfl
   by_cases hxe:x=i
   ·subst hxe
    rw [List.filter_cons,List.filter_cons,hxi,hu]
    simp only [Bool.not_true,Bool.false_eq_true,if_false,Bool.not_false,if_true,List.length_cons]
    exact ⟨by omega,fun _=>by omega⟩
   ·rw [List.filter_cons,List.filter_cons,hx hxe]
    by_cases hl:listed.getD x true=true
    ·rw [hl]
     simp only [Bool.not_true,Bool.false_eq_true,if_false]
     exact ⟨ih.1,fun h=>ih.2 ((List.mem_cons.1 h).resolve_left (Ne.symm hxe))⟩
    ·have hl:listed.getD x true=false:=by simpa using hl
     rw [hl]
     simp only [Bool.not_false,if_true,List.length_cons]
     exact ⟨by omega,fun h=>by have:=ih.2 ((List.mem_cons.1 h).resolve_left (Ne.symm hxe));omega⟩
 exact (hsub _).2 (List.mem_range.2 hi)
theorem all_listed {opl:List Oper} {pl:Plan} (hp:PlanOk ops.toList pl) {listed:Array Bool} (hsz:listed.size=ops.size) (hr:Region.ready .any ops listed=[]):∀ i,i < ops.size→listed.getD i true=true:=by
 intro i
 induction i using Nat.strongRecOn with
 | _ i ih =>
  intro hi
  cases hq:listed.getD i true with
  | true=>rfl
  | false =>
   exfalso
   have:i∈Region.ready .any ops listed:=mem_ready.2 ⟨hq,ops[i],Array.getElem?_eq_getElem hi,fun e he hb=>by
    have hlt:=hp.lt i ops[i] (by rw [opl_get];exact Array.getElem?_eq_getElem hi) e he hb
    have h1:=ih e.on hlt (by omega)
    rw [Array.getD_eq_getD_getElem?,Array.getElem?_eq_getElem (by omega)] at h1 ⊢
    exact h1⟩
   rw [hr] at this;cases this
theorem wpAny_run (hval:ValOk P L good val) (hc:CallOk P L good call) (hp:PlanOk ops.toList pl) {r:T SV × St X} (hg:good r.2.x) {Q:Exit→Go.Act→World→Prop}
  (hQ:∀ a w e F,AR e r.1 a.tmps→N≤a.tmps.size→a.defers=ds→Rl L e r.2 w F→Nxt st0.nx e0 st0 w0 F0 e r.2 w F→Q .normal a w) :
  ∀ (k:Nat) (listed:Array Bool) (rest:Plan) (done:Nat) (tm:T SV) (st:St X) (lds:List LdE) (fm:Option Fill) (a:Go.Act) (w:World) (e:Env) (F:FootE) (idf:Nat→Option Nat),listed.size=ops.size→unl ops.size listed≤k →
   Inv val P L ops.toList pl N ds e0 st0 w0 F0 rest done tm st lds fm (fun i=>listed.getD i false=true) a w e F idf→drawF P val call ops.toList N rest tm st lds fm=some r→wpAny P .any ops Q k listed a w:=by
 -- at the end
 have fin:∀ (listed:Array Bool) (rest:Plan) (done:Nat) (tm:T SV) (st:St X) (lds:List LdE) (fm:Option Fill) (a:Go.Act) (w:World) (e:Env) (F:FootE) (idf:Nat→Option Nat),listed.size=ops.size→Region.ready .any ops listed=[] →
   Inv val P L ops.toList pl N ds e0 st0 w0 F0 rest done tm st lds fm (fun i=>listed.getD i false=true) a w e F idf→drawF P val call ops.toList N rest tm st lds fm=some r→Q .normal a w:=fun listed rest done tm st lds fm a w e F idf hsz hr I h=>by
  have hall:∀ i,i < ops.size→listed.getD i false=true:=fun i hi=>by
   have:=all_listed (opl:=ops.toList) hp hsz hr i hi
   rw [Array.getD_eq_getD_getElem?,Array.getElem?_eq_getElem (by omega)] at this ⊢
   exact this
  obtain ⟨rest',done',tm',st',lds',fm',idf',hrest,I',h'⟩:=I.aheads hval hc hg hp h
  have hnil:rest'=[]:=by
   rcases hrest with h1 | ⟨i,t,rfl⟩
   ·exact h1
   ·have hpl:=I'.plan
    unfold planGo at hpl
    split at hpl
    ·rename_i o ho
     simp only [Bool.and_eq_true,Bool.not_eq_true'] at hpl
     have hi:i < ops.size:=by have:=(List.getElem?_eq_some_iff.1 ho).1;simpa using this
     have:=I'.sub i (hall i hi)
     rw [hpl.1.1.1] at this;cases this
    ·cases hpl
  subst hnil
  cases h'
  refine hQ a w e F (fun t v hv=>?_) I'.size I'.ds I'.R I'.nxt
  rcases I'.tmps t v hv with ⟨j,p,h2,h3,h4,h5⟩ | h2
  ·exact absurd (hall j (by have:=(List.getElem?_eq_some_iff.1 h4).1;simpa using this)) h3
  ·exact h2
 intro k
 induction k with
 | zero =>
  intro listed rest done tm st lds fm a w e F idf hsz hk I h
  have hr:Region.ready .any ops listed=[]:=by
   rw [List.eq_nil_iff_forall_not_mem]
   intro i hi
   obtain ⟨h1,o,h2,h3⟩:=mem_ready.1 hi
   have:=unl_set (zN h2).1 h1
   omega
  exact ⟨hr,fin listed rest done tm st lds fm a w e F idf hsz hr I h⟩
 | succ k ih =>
  intro listed rest done tm st lds fm a w e F idf hsz hk I h
  refine ⟨fun hr=>fin listed rest done tm st lds fm a w e F idf hsz hr I h,fun i hi=>?_⟩
  obtain ⟨h1,o,h2,h3⟩:=mem_ready.1 hi
  have hilt:=(zN h2).1
  have ho:ops.toList[i]?=some o:=by rw [opl_get];exact h2
  have hu:=unl_set hilt h1
  have hnD:¬ (listed.getD i false=true):=fun hh=>by
   rw [Array.getD_eq_getD_getElem?,Array.getElem?_eq_getElem (by omega)] at h1 hh
   rw [Option.getD_some] at h1 hh
   rw [h1] at hh;cases hh
  have hsz2:(listed.setIfInBounds i true).size=ops.size:=by simpa using hsz
  have hD:∀ j,(listed.getD j false=true∨j=i)↔(listed.setIfInBounds i true).getD j false=true:=fun j=>by
   by_cases hji:j=i
   ·subst hji
    have:j < listed.size:=by omega
    simp [Array.getD_eq_getD_getElem?,this]
   ·simp only [Array.getD_eq_getD_getElem?]
    rw [Array.getElem?_setIfInBounds_ne (Ne.symm hji)]
    simp [hji]
  have hDe:(fun j=>listed.getD j false=true∨j=i)=fun j=>(listed.setIfInBounds i true).getD j false=true:=funext fun j=>propext (hD j)
  obtain ⟨rest',done',tm',st',lds',fm',idf',hrest,I',h'⟩:=I.aheads hval hc hg hp h
  by_cases hdn:tb done' i=true
  ·refine I'.float hval hp ho hdn hnD (fun x hx hb=>h3 x hx hb) fun a' w' e' I2=>?_
   rw [hDe] at I2
   exact ih _ _ _ _ _ _ _ _ _ _ _ _ hsz2 (by omega) I2 h'
  ·rcases hrest with rfl | ⟨j,t,rfl⟩
   ·have hpl:=I'.plan
    unfold planGo at hpl
    exact absurd (List.all_eq_true.1 hpl _ (idxs_mem0 ho)) hdn
   ·have hpl:=I'.plan
    unfold planGo at hpl
    split at hpl
    ·rename_i oj hoj
     simp only [Bool.and_eq_true,Bool.not_eq_true'] at hpl
     obtain ⟨⟨⟨g1,g2⟩,g3⟩,g4⟩:=hpl
     have:=List.all_eq_true.1 g3 _ (idxs_mem0 ho)
     simp only [Bool.or_eq_true,Bool.not_eq_true'] at this
     have hij:i=j:=by
      rcases this with (h5 | h5) | h5
      ·exact absurd h5 hdn
      ·exact Nat.eq_of_beq_eq_true h5
      ·exfalso
       have:depB o done'=true:=by
        refine List.all_eq_true.2 fun x hx=>?_
        cases hb:Region.binds .any x with
        | false=>rfl
        | true=>rw [I'.sub x.on (h3 x (by simpa using hx) hb)];rfl
       rw [this] at h5;cases h5
     subst hij
     refine I'.effect hval hc hp hg h' ho (fun x hx hb=>h3 x hx hb) fun a' w' e' F' tm2 st2 idf2 I2 h2'=>?_
     rw [hDe] at I2
     exact ih _ _ _ _ _ _ _ _ _ _ _ _ hsz2 (by omega) I2 h2'
    ·cases hpl
theorem draw_ok (hval:ValOk P L good val) (hm:P.follows .mixedOrders=true) (hc:CallOk P L good call) (hp:planOk ops.toList pl=true) {r:T SV × St X} (hg:good r.2.x) (h:drawS P val call ops.toList N pl tm st []=some r) {id:Nat} {Q:Exit→Go.Act→World→Prop} {e:Env} {w:World} {F:FootE} {a:Go.Act}
  (hR:Rl L e st w F) (ha:AR e tm a.tmps) (hN:N≤a.tmps.size)
  (hQ:∀ a' w' e' F',AR e' r.1 a'.tmps→N≤a'.tmps.size→a'.defers=a.defers→Rl L e' r.2 w' F'→Nxt st.nx e st w F e' r.2 w' F'→Q .normal a' w'):(Code.region id ops true).wp P Q a w:=by
 have hp':=planOk_ok hp
 refine wp_region_any hm ?_
 have hR':Rl L e st { w with drawn:=w.drawn + 1 } F:=hR.same rfl
 refine wpAny_run (pl:=pl) (N:=N) (ds:=a.defers) (e0:=e) (st0:=st) (w0:={ w with drawn:=w.drawn + 1 }) (F0:=F) hval hc hp' hg (fun a' w' e' F' h1 h2 h3 h4 h5=>hQ a' w' e' F' h1 h2 h3 h4 (Nxt.trans (Nxt.same (w:=w) (w':={ w with drawn:=w.drawn + 1 }) st.nx rfl rfl rfl rfl) h5)) ops.size _ pl 0 tm st [] none a _ e F (fun _=>none) (by simp) ?_ ?_ h
 ·unfold unl
  exact Nat.le_trans (List.length_filter_le _ _) (by simp)
 ·have hno:∀ i,¬ ((Array.replicate ops.size false).getD i false=true):=fun i hi=>by
   rw [Array.getD_eq_getD_getElem?,Array.getElem?_replicate] at hi
   split at hi<;>simp at hi
  refine ⟨hR',.refl ..,hN,rfl,hp'.go,fun j hj=>?_,fun i hi=>absurd hi (hno i),fun i o hi=>absurd hi (hno i),fun i o hi=>?_,fun i hi=>?_,fun t v hv=>.inr (ha t v hv),fun i o ho hi=>?_,nofun,nofun,nofun,nofun⟩
  ·obtain ⟨p,h1,h2⟩:=List.any_eq_true.1 hj
   simp only [Bool.and_eq_true] at h2
   have:=Nat.eq_of_beq_eq_true h2.1
   exact .inr (by rw [← this,← h2.2];exact h1)
  ·rw [tb_zero] at hi;cases hi
  ·rw [tb_zero] at hi;cases hi
  ·rw [tb_zero] at hi;cases hi
end
end
end Go.Proofs.YtmelcflkbfhohaaGreatDoor.W.E
