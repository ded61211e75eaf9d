/- EvC EfA Range RfE EfB EfC -/
import Derived.Test.YtmelcflkbfhohaaGreatDoorEvR2
import Derived.LoopN
import Derived.OrdersIn
import Derived.TacticsIn
import Derived.LoopNIn
import Derived.RangeFuncCalls
import Derived.Test.YtmelcflkbfhohaaGreatDoorPart0
import Derived.RangeFuncBound
import Derived.RangeFuncLeaves
import Derived.RangeFuncNested
set_option linter.unusedVariables false
set_option linter.unusedSimpArgs false
namespace Go.Proofs.YtmelcflkbfhohaaGreatDoor.W.E
section
open Go.RowKit
inductive Ex where
 | normal
 | exit (id:Nat)
 | ret
def Ex.to:Ex→Go.Exit
 | .normal=>.normal
 | .exit id=>.exit id
 | .ret=>.ret
section
variable {X:Type}
def seqS (P:Program) (val:VF X) (call:Nat→List SV→St X→Option (SV × St X)) (opl:List Oper) (N:Nat):List Oper→T SV→St X→Option (T SV × St X)
 | [],tm,st=>some (tm,st)
 | o :: t,tm,st=>match wantS opl tm o with
  | none=>none
  | some false=>match putS N tm o.dst (.tup []) with
   | some tm'=>seqS P val call opl N t tm' st
   | none=>none
  | some true=>match stepOp P val call tm st o.op with
   | some p=>match putS N tm o.dst p.1 with
    | some tm'=>seqS P val call opl N t tm' p.2
    | none=>none
   | none=>none
def planOf (l:List Nat):Plan:=l.map fun k=>(k / 2,Nat.beq (k % 2) 1)
abbrev ExR (X:Type):=Option (Ex × T SV × St X)
def codeStep (P:Program) (val:VF X) (bit:Bool→X→Option (Bool × X)) (call:Nat→List SV→St X→Option (SV × St X)) (pf:Nat→Option Plan) (N:Nat) (ih:Code→T SV→St X→ExR X) (c:Code) (tm:T SV) (st:St X):ExR X :=
 match c with
 | .skip=>some (.normal,tm,st)
 | .region id ops draw=>match draw with
  | false=>match seqS P val call ops.toList N ops.toList tm st with
   | some p=>some (.normal,p)
   | none=>none
  | true=>match pf id with
   | some pl=>match drawS P val call ops.toList N pl tm st [] with
    | some p=>some (.normal,p)
    | none=>none
   | none=>none
 | .seq a b=>match ih a tm st with
  | some (.normal,p)=>ih b p.1 p.2
  | r=>r
 | .cond c a b=>match evx tm c with
  | some (.bool t)=>match bit t st.x with
   | some (true,x)=>ih a tm ⟨st.m,st.nx,x⟩
   | some (false,x)=>ih b tm ⟨st.m,st.nx,x⟩
   | none=>none
  | _=>none
 | .block id c=>match ih c tm st with
  | some (.exit j,p)=>bif Nat.beq j id then some (.normal,p) else some (.exit j,p)
  | r=>r
 | .loop c=>match ih c tm st with
  | some (.normal,p)=>ih (.loop c) p.1 p.2
  | r=>r
 | .exit id=>some (.exit id,tm,st)
 | .ret=>some (.ret,tm,st)
 | _=>none
def codeF (P:Program) (val:VF X) (bit:Bool→X→Option (Bool × X)) (call:Nat→List SV→St X→Option (SV × St X)) (pf:Nat→Option Plan) (N:Nat) (n:Nat):Code→T SV→St X→ExR X :=
 Nat.rec (fun _ _ _=>none) (fun _ ih=>codeStep P val bit call pf N ih) n
def planOkC (pf:Nat→Option Plan):Code→Bool
 | .region id ops draw=>match draw with
  | false=>true
  | true=>match pf id with
   | some pl=>planOk ops.toList pl
   | none=>true
 | .seq a b=>planOkC pf a && planOkC pf b
 | .cond _ a b=>planOkC pf a && planOkC pf b
 | .block _ c=>planOkC pf c
 | .loop c=>planOkC pf c
 | _=>true
def resG (P:Program) (m:T SB) (tm:T SV):List ResultVar→Option (List SV)
 | []=>some []
 | r :: t=>match (match r with | .tmp k=>tm.get k | .cell a ty=>match tm.get a with | some v=>loadV P m ty v | none=>none) with
  | some v=>match resG P m tm t with
   | some l=>some (v :: l)
   | none=>none
  | none=>none
def resS (P:Program) (m:T SB) (tm:T SV) (rs:Array ResultVar):Option SV :=
 match resG P m tm rs.toList with
 | some [v]=>some v
 | some l=>some (.tup l)
 | none=>none
def initT:List SV→Nat→T SV→T SV
 | [],_,t=>t
 | v :: l,k,t=>initT l (k + 1) (t.upd k (some v))
structure Cfg.Ok (C:Cfg X) (plan:Nat→Nat→Option Plan):Prop where
 mixed:C.P.follows .mixedOrders=true
 fn:∀ f g,C.fn f=some g→C.P.funcs[f]?=some g∧(g.name == "runtime.NumGoroutine")=false∧∀ c,g.body=some c→planOkC (plan f) c=true
 ext:∀ f h,C.ext f=some h→Callable C.P f∧∀ vs st v st',h vs st=some (v,st')→CallsR C.P C.L C.good f vs st v st'
 val:ValOk C.P C.L C.good C.val
 bit:∀ b x b' x',C.bit b x=some (b',x')→C.good x'→C.good x∧b=b'∧∀ e w F,C.L.R e x w F→C.L.R e x' w F
variable {val:VF X} {P:Program} {L:EL X} {good:X→Prop} {call:Nat→List SV→St X→Option (SV × St X)}
theorem putS_ok {N:Nat} {tm tm':T SV} {dst:Option Tmp} {v:SV} (h:putS N tm dst v=some tm') {e:Env} {a:Go.Act} (ha:AR e tm a.tmps) (hN:N≤a.tmps.size) {u:Value} (hv:VR e v u):AR e tm' (a.put dst u).tmps:=by
 unfold putS at h
 cases dst with
 | none=>cases h;exact ha
 | some d =>
  simp only at h
  cases hb:Nat.blt d N && Nat.blt d TMax with
  | false=>rw [hb] at h;cases h
  | true =>
   rw [hb] at h;cases h
   simp only [Bool.and_eq_true,Nat.blt_eq] at hb
   exact ha.put (Nat.lt_of_lt_of_le hb.1 hN) hb.2 hv
theorem seqS_good (hval:ValOk P L good val) (hc:CallOk P L good call) {opl:List Oper} {N:Nat} {r:T SV × St X} (hg:good r.2.x):∀ {t:List Oper} {tm:T SV} {st:St X},seqS P val call opl N t tm st=some r→good st.x
 | [],tm,st,h=>by cases h;exact hg
 | o :: t,tm,st,h=>by
  unfold seqS at h
  split at h
  ·cases h
  ·split at h
   ·exact seqS_good hval hc hg h
   ·cases h
  ·split at h
   ·rename_i p hp
    split at h
    ·exact (stepOp_ok hval hc (v:=p.1) (st':=p.2) hp (seqS_good hval hc hg h)).1
    ·cases h
   ·cases h
theorem seqS_ok (hval:ValOk P L good val) (hc:CallOk P L good call) {ops:Array Oper} {N:Nat} {r:T SV × St X} (hg:good r.2.x) {Q:Go.Exit→Go.Act→World→Prop}:∀ {t:List Oper} {tm:T SV} {st:St X} {e:Env} {w:World} {F:FootE} {a:Go.Act},seqS P val call ops.toList N t tm st=some r →
  Rl L e st w F→AR e tm a.tmps→N≤a.tmps.size→(∀ a' w' e' F',AR e' r.1 a'.tmps→N≤a'.tmps.size→a'.defers=a.defers→Rl L e' r.2 w' F'→Nxt st.nx e st w F e' r.2 w' F'→Q .normal a' w')→wpList P ops Q t a w
 | [],tm,st,e,w,F,a,h,hR,ha,hN,hQ=>by cases h;exact hQ a w e F ha hN rfl hR (.refl ..)
 | o :: t,tm,st,e,w,F,a,h,hR,ha,hN,hQ=>by
  unfold seqS at h
  unfold wpList
  split at h
  ·cases h
  ·rename_i hw
   split at h
   ·rename_i tm' hput
    rw [wantS_ok hw (ha.as _)]
    simp only [Bool.false_eq_true,if_false]
    exact seqS_ok hval hc hg h hR (putS_ok hput ha hN (.tup .nil)) (by rw [(put_size a o.dst undef).1];exact hN) fun a' w' e' F' h1 h2 h3 h4 h5=>hQ a' w' e' F' h1 h2 (h3.trans (put_size a o.dst undef).2) h4 h5
   ·cases h
  ·rename_i hw
   split at h
   ·rename_i p hp
    split at h
    ·rename_i tm' hput
     rw [wantS_ok hw (ha.as _)]
     simp only [if_true]
     refine .inl ((stepOp_ok hval hc (v:=p.1) (st':=p.2) hp (seqS_good hval hc hg h)).2 e w F a _ Q hR (ha.as _) fun u w' e' F' hu hR' hN'=>?_)
     exact seqS_ok hval hc hg h hR' (putS_ok hput (ha.mono hN'.le) hN hu) (by rw [(put_size a o.dst u).1];exact hN) fun a' w2 e2 F2 h1 h2 h3 h4 h5=>hQ a' w2 e2 F2 h1 h2 (h3.trans (put_size a o.dst u).2) h4 (hN'.trans (h5.less hN'.nx))
    ·cases h
   ·cases h
def Concl (P:Program) (k:Nat) (c:Code) (Q:Go.Exit→Go.Act→World→Prop) (a:Go.Act) (w:World):Prop :=
 match c with
 | .loop c0=>Code.rounds P c0 Q k a w
 | c=>c.wp P Q a w
theorem Concl.wp {k:Nat} {c:Code} {Q:Go.Exit→Go.Act→World→Prop} {a:Go.Act} {w:World} (h:Concl P k c Q a w):c.wp P Q a w:=by
 unfold Concl at h
 split at h
 ·exact wp_loop_rounds k h
 ·exact h
def CodeR (P:Program) (L:EL X) (good:X→Prop) (N k:Nat) (c:Code) (tm:T SV) (st:St X) (x:Ex) (r:T SV × St X):Prop :=
 good r.2.x→good st.x∧∀ (e:Env) (w:World) (F:FootE) (a:Go.Act) (Q:Go.Exit→Go.Act→World→Prop),Rl L e st w F→AR e tm a.tmps→N≤a.tmps.size →
  (∀ a' w' e' F',AR e' r.1 a'.tmps→N≤a'.tmps.size→a'.defers=a.defers→Rl L e' r.2 w' F'→Nxt st.nx e st w F e' r.2 w' F'→Q x.to a' w')→Concl P k c Q a w
theorem CodeR.self {N k:Nat} {c:Code} {tm:T SV} {st:St X} {x:Ex} (h:∀ (a:Go.Act) (w:World) (Q:Go.Exit→Go.Act→World→Prop),Q x.to a w→Concl P k c Q a w):CodeR P L good N k c tm st x (tm,st) :=
 fun hg=>⟨hg,fun e w F a Q hR ha hN hQ=>h a w Q (hQ a w e F ha hN rfl hR (.refl ..))⟩
theorem codeF_ok {bit:Bool→X→Option (Bool × X)} {pf:Nat→Option Plan} {N:Nat} (hval:ValOk P L good val) (hm:P.follows .mixedOrders=true) (hc:CallOk P L good call)
  (hb:∀ b x b' x',bit b x=some (b',x')→good x'→good x∧b=b'∧∀ e w F,L.R e x w F→L.R e x' w F) :
  ∀ (k:Nat) (c:Code) (tm:T SV) (st:St X) (x:Ex) (r:T SV × St X),planOkC pf c=true→codeF P val bit call pf N k c tm st=some (x,r)→CodeR P L good N k c tm st x r:=by
 intro k
 induction k with
 | zero=>intro c tm st x r _ h;cases h
 | succ k ih =>
  intro c tm st x r hp h
  replace h:codeStep P val bit call pf N (codeF P val bit call pf N k) c tm st=some (x,r):=h
  unfold codeStep at h
  split at h
  ·cases h;exact CodeR.self fun a w Q hQ=>wp_skip hQ
  ·rename_i id ops draw
   split at h
   ·split at h
    ·rename_i p hs
     cases h
     exact fun hg=>⟨seqS_good hval hc hg hs,fun e w F a Q hR ha hN hQ=>wp_region_list (seqS_ok hval hc hg hs hR ha hN hQ)⟩
    ·cases h
   ·split at h
    ·rename_i pl hpl
     split at h
     ·rename_i p hs
      cases h
      have hpo:planOk ops.toList pl=true:=by
       unfold planOkC at hp
       simp only [hpl] at hp
       exact hp
      exact fun hg=>⟨drawS_good hval hc hg hs,fun e w F a Q hR ha hN hQ=>draw_ok hval hm hc hpo hg hs hR ha hN hQ⟩
     ·cases h
    ·cases h
  ·rename_i c1 c2
   have hp:planOkC pf c1=true∧planOkC pf c2=true:=by simpa [planOkC] using hp
   split at h
   ·rename_i p h1
    intro hg
    obtain ⟨g1,g2⟩:=ih c2 _ _ _ _ hp.2 h hg
    obtain ⟨g3,g4⟩:=ih c1 _ _ _ _ hp.1 h1 g1
    refine ⟨g3,fun e w F a Q hR ha hN hQ=>wp_seq (Concl.wp (g4 e w F a _ hR ha hN fun a1 w1 e1 F1 h2 h3 h4 h5 h6=>?_))⟩
    exact (g2 e1 w1 F1 a1 Q h5 h2 h3 fun a2 w2 e2 F2 k1 k2 k3 k4 k5=>hQ a2 w2 e2 F2 k1 k2 (k3.trans h4) k4 (h6.trans (k5.less h6.nx))).wp
   ·rename_i hne
    intro hg
    obtain ⟨g3,g4⟩:=ih c1 _ _ _ _ hp.1 h hg
    refine ⟨g3,fun e w F a Q hR ha hN hQ=>wp_seq (Concl.wp (g4 e w F a _ hR ha hN fun a1 w1 e1 F1 h2 h3 h4 h5 h6=>?_))⟩
    have:=hQ a1 w1 e1 F1 h2 h3 h4 h5 h6
    cases x with
    | normal=>exact absurd h (hne _)
    | exit id=>exact this
    | ret=>exact this
  ·rename_i cx c1 c2
   have hp:planOkC pf c1=true∧planOkC pf c2=true:=by simpa [planOkC] using hp
   split at h
   ·rename_i t ht
    have hcond:∀ {x':X} {b':Bool},bit t st.x=some (b',x')→codeF P val bit call pf N k (if b' then c1 else c2) tm ⟨st.m,st.nx,x'⟩=some (x,r)→CodeR P L good N (k + 1) (.cond cx c1 c2) tm st x r:=fun {x' b'} hbt h hg=>by
     obtain ⟨g1,g2⟩:=ih _ _ _ _ _ (by cases b'<;>simp [hp]) h hg
     obtain ⟨g3,rfl,g4⟩:=hb _ _ _ _ hbt g1
     refine ⟨g3,fun e w F a Q hR ha hN hQ=>?_⟩
     have hv:=evx_ok ha ht
     generalize hq:a.eval cx=u at hv
     cases hv
     refine wp_cond hq (g2 e w F a Q ⟨hR.blk,hR.dis,hR.old,hR.dom,hR.sib,g4 _ _ _ hR.ext⟩ ha hN fun a1 w1 e1 F1 h2 h3 h4 h5 h6=>hQ a1 w1 e1 F1 h2 h3 h4 h5 ?_).wp
     exact ⟨h6.le,h6.os,h6.tape,h6.output,h6.size,h6.frame,h6.img,h6.und,h6.nx⟩
    split at h
    ·rename_i x' hbt;exact hcond hbt h
    ·rename_i x' hbt;exact hcond hbt h
    ·cases h
   ·cases h
  ·rename_i id c1
   have hp:planOkC pf c1=true:=by simpa [planOkC] using hp
   split at h
   ·rename_i j p h1
    cases hj:Nat.beq j id with
    | true =>
     rw [hj] at h;cases h
     have:=Nat.eq_of_beq_eq_true hj
     subst this
     intro hg
     obtain ⟨g3,g4⟩:=ih c1 _ _ _ _ hp h1 hg
     refine ⟨g3,fun e w F a Q hR ha hN hQ=>wp_block (Concl.wp (g4 e w F a _ hR ha hN fun a1 w1 e1 F1 h2 h3 h4 h5 h6=>?_))⟩
     have:=hQ a1 w1 e1 F1 h2 h3 h4 h5 h6
     simpa [Ex.to,Exit.inBlock] using this
    | false =>
     rw [hj] at h;cases h
     have hne:j≠id:=fun hh=>by rw [hh,Nat.beq_refl] at hj;cases hj
     intro hg
     obtain ⟨g3,g4⟩:=ih c1 _ _ _ _ hp h1 hg
     refine ⟨g3,fun e w F a Q hR ha hN hQ=>wp_block (Concl.wp (g4 e w F a _ hR ha hN fun a1 w1 e1 F1 h2 h3 h4 h5 h6=>?_))⟩
     have:=hQ a1 w1 e1 F1 h2 h3 h4 h5 h6
     simpa [Ex.to,Exit.inBlock,hne] using this
   ·rename_i hne
    intro hg
    obtain ⟨g3,g4⟩:=ih c1 _ _ _ _ hp h hg
    refine ⟨g3,fun e w F a Q hR ha hN hQ=>wp_block (Concl.wp (g4 e w F a _ hR ha hN fun a1 w1 e1 F1 h2 h3 h4 h5 h6=>?_))⟩
    have:=hQ a1 w1 e1 F1 h2 h3 h4 h5 h6
    cases x with
    | normal=>exact this
    | exit j=>exact absurd h (hne _ _)
    | ret=>exact this
  ·rename_i c1
   have hp1:planOkC pf c1=true:=by simpa [planOkC] using hp
   split at h
   ·rename_i p h1
    intro hg
    obtain ⟨g1,g2⟩:=ih (.loop c1) _ _ _ _ hp h hg
    obtain ⟨g3,g4⟩:=ih c1 _ _ _ _ hp1 h1 g1
    refine ⟨g3,fun e w F a Q hR ha hN hQ=>?_⟩
    show c1.wp P (Exit.then (Code.rounds P c1 Q k) Q) a w
    refine Concl.wp (g4 e w F a _ hR ha hN fun a1 w1 e1 F1 h2 h3 h4 h5 h6=>?_)
    exact g2 e1 w1 F1 a1 Q h5 h2 h3 fun a2 w2 e2 F2 k1 k2 k3 k4 k5=>hQ a2 w2 e2 F2 k1 k2 (k3.trans h4) k4 (h6.trans (k5.less h6.nx))
   ·rename_i hne
    intro hg
    obtain ⟨g3,g4⟩:=ih c1 _ _ _ _ hp1 h hg
    refine ⟨g3,fun e w F a Q hR ha hN hQ=>?_⟩
    show c1.wp P (Exit.then (Code.rounds P c1 Q k) Q) a w
    refine Concl.wp (g4 e w F a _ hR ha hN fun a1 w1 e1 F1 h2 h3 h4 h5 h6=>?_)
    have:=hQ a1 w1 e1 F1 h2 h3 h4 h5 h6
    cases x with
    | normal=>exact absurd h (hne _)
    | exit j=>exact this
    | ret=>exact this
  ·cases h;exact CodeR.self fun a w Q hQ=>wp_exit hQ
  ·cases h;exact CodeR.self fun a w Q hQ=>wp_ret hQ
  ·cases h
def resOne (tmps:Array Value) (r:ResultVar):Sem Value:=match r with | .tmp t=>pure (tmps.getD t undef) | .cell a t=>do loadVar t (← asAddr (tmps.getD a undef))
theorem loadVar_of {t:TypeId} {u r:Value} {w:World} (h:(Instr.loadAt t u).run P w=.ok r w):(do loadVar t (← asAddr u):Sem Value).run P w=.ok r w:=by
 unfold Instr.loadAt at h
 cases u with
 | pointer p=>cases p with
  | none=>simp [Instr.sureAddr,stuck,Sem.run_bind,Sem.run,Result.andThen] at h
  | some ad=>simpa [Instr.sureAddr,asAddr,Sem.run_bind] using h
 | _=>simp [Instr.sureAddr,stuck,Sem.run_bind,Sem.run,Result.andThen] at h
theorem resG_ok {e:Env} {st:St X} {w:World} {F:FootE} {tm:T SV} {tmps:Array Value} (hR:Rl L e st w F) (ha:AR e tm tmps):∀ {l:List ResultVar} {vs:List SV},resG P st.m tm l=some vs→∃ us,(l.mapM (resOne tmps)).run P w=.ok us w∧VRs e vs us
 | [],vs,h=>by cases h;exact ⟨[],by simp,.nil⟩
 | r :: t,vs,h=>by
  unfold resG at h
  split at h
  ·rename_i v hv
   split at h
   ·rename_i l hl
    cases h
    obtain ⟨us,h1,h2⟩:=resG_ok hR ha hl
    have:∃ u,(resOne tmps r).run P w=.ok u w∧VR e v u:=by
     split at hv
     ·rename_i k
      obtain ⟨u,h3,h4⟩:=ha k v hv
      exact ⟨u,by simp [resOne,Array.getD_eq_getD_getElem?,h3],h4⟩
     ·rename_i ad ty
      split at hv
      ·rename_i p hp
       obtain ⟨u,h3,h4⟩:=ha ad p hp
       obtain ⟨x,h5,h6⟩:=loadV_ok (P:=P) hv hR h4
       refine ⟨x,?_,h6⟩
       have:=loadVar_of h5
       simpa [resOne,Array.getD_eq_getD_getElem?,h3] using this
      ·cases hv
    obtain ⟨u,h3,h4⟩:=this
    refine ⟨u :: us,?_,.cons h4 h2⟩
    rw [List.mapM_cons]
    simp only [Sem.run_bind,h3,Result.andThen_ok,h1,Sem.run_pure]
   ·cases h
  ·cases h
theorem resS_ok {e:Env} {st:St X} {w:World} {F:FootE} {tm:T SV} {tmps:Array Value} (hR:Rl L e st w F) (ha:AR e tm tmps) {fn:Func} {v:SV} (h:resS P st.m tm fn.results=some v):∃ u,(results fn tmps).run P w=.ok u w∧VR e v u:=by
 have key:∀ {l:List SV},resG P st.m tm fn.results.toList=some l→∃ us:List Value,(fn.results.mapM (resOne tmps)).run P w=.ok us.toArray w∧VRs e l us:=fun {l} hl=>by
  obtain ⟨us,h1,h2⟩:=resG_ok (P:=P) hR ha hl
  refine ⟨us,?_,h2⟩
  rw [Array.mapM_eq_mapM_toList]
  show ((List.mapM (resOne tmps) fn.results.toList >>= fun x=>pure x.toArray:Sem (Array Value))).run P w=_
  rw [Sem.run_bind,h1];rfl
 have hres:∀ us:List Value,(fn.results.mapM (resOne tmps)).run P w=.ok us.toArray w→(results fn tmps).run P w=.ok (if h:us.toArray.size=1 then us.toArray[0] else .tuple us.toArray) w:=fun us hu=>by
  show ((fn.results.mapM (resOne tmps) >>= fun vs=>pure (if h:vs.size=1 then vs[0] else .tuple vs):Sem Value)).run P w=_
  rw [Sem.run_bind,hu]
  rfl
 unfold resS at h
 split at h
 ·rename_i v' hv
  cases h
  obtain ⟨us,h1,h2⟩:=key hv
  cases h2 with
  | cons h3 h4=>cases h4;exact ⟨_,hres _ h1,h3⟩
 ·rename_i l hne hl
  cases h
  obtain ⟨us,h1,h2⟩:=key hl
  have hlen:=h2.length
  have:us.length≠1:=fun hh=>by
   match l,hlen with
   | [],hl'=>rw [hh] at hl';cases hl'
   | [x],_=>exact hne x rfl
   | x :: y :: t,hl'=>rw [hh] at hl';simp at hl'
  refine ⟨_,hres _ h1,?_⟩
  rw [dif_neg (by simpa using this)]
  exact .tup h2
 ·cases h
theorem initT_ok {e:Env} {tmps:Array Value}:∀ {vs:List SV} {us:List Value} {k:Nat} {t:T SV},VRs e vs us→AR e t tmps→k + vs.length < TMax→(∀ j u,us[j]?=some u→tmps[k + j]?=some u)→AR e (initT vs k t) tmps
 | [],_,_,_,_,ha,_,_=>ha
 | v :: vs,_,k,t,.cons (u:=u) (us:=us) h1 h2,ha,hk,hu=>by
  unfold initT
  refine initT_ok h2 (fun j x hx=>?_) (by simp at hk;omega) fun j y hj=>by have:=hu (j + 1) y (by simpa using hj);rwa [show k + (j + 1)=k + 1 + j by omega] at this
  rw [T.get_upd _ _ (by simp at hk;omega)] at hx
  by_cases hj:j=k
  ·subst hj
   rw [if_pos rfl] at hx;cases hx
   exact ⟨u,by simpa using hu 0 u rfl,h1⟩
  ·rw [if_neg hj] at hx;exact ha j x hx
end
end
section
open Go.RowKit
def Fr (r:Option Nat):Fence:={ Fence.wide with round:=r }
theorem Fr_calls {r:Option Nat} {n:Nat} {P:Program} {f:FuncId} {args:Array Value} {w:World} {R:Ending→World→Prop} (h:Calls P f args w R):CallsIn (Fr r) n P f args w R:=(callsIn_wide (n:=n)).2 h
theorem noDef_ok {o:Op} (h:noDef o=true):∀ c,o≠.defer c:=fun c hc=>by rw [hc] at h;cases h
section
variable {P:Program} {r:Option Nat} {n:Nat}
theorem rows_in {row:String} {args:Array Value} {w:World} {R:Value→World→Prop} (h:Rows P row args w R):RowsIn (Fr r) n P row args w R:=fun c cs _=>by
 obtain ⟨v,w',hr,hs⟩:=h c cs
 exact ⟨v,w',hr,stepsIn_wide.2 hs⟩
theorem op_in {o:Oper} {a:Go.Act} {w:World} {K:Go.Act→World→Prop} {Q:Go.Exit→Go.Act→World→Prop} (hd:noDef o.op=true) (h:o.wp P a w K Q):o.wpIn (Fr r) n P a w K Q:=by
 refine ⟨fun _ _=>trivial,?_⟩
 show o.uponIn (Fr r) n P a K Q ((o.semAt r a.eval).run P w)
 rw [Oper.semAt_eq r a.eval o (noDef_ok hd)]
 unfold Oper.wp at h
 generalize (execOp a.eval o).run P w=x at h
 have hdp:(Fr r).depth.isSome=true→1≤n:=fun h=>by cases h
 cases x with
 | ok nx w' =>
  cases nx<;>simp only [Oper.upon] at h<;>simp only [Oper.uponIn]<;>first
   | exact h
   | exact ⟨hdp,Fr_calls h⟩
   | exact ⟨hdp,rows_in h⟩
 | halt x w'=>cases x<;>simp only [Oper.upon] at h<;>simp only [Oper.uponIn]<;>exact h
variable {ops:Array Oper} {Q:Go.Exit→Go.Act→World→Prop}
theorem list_in (hQ:¬ LetsOut Q):∀ {t:List Oper} {a:Go.Act} {w:World},(t.all fun o=>noDef o.op)=true→wpList P ops Q t a w→wpListIn (Fr r) n P ops Q t a w
 | [],a,w,_,h=>h
 | o :: t,a,w,hd,h=>by
  simp only [List.all_cons,Bool.and_eq_true] at hd
  unfold wpList at h
  unfold wpListIn
  split at h
  ·rename_i hw
   rw [if_pos hw]
   rcases h with h | h
   ·exact op_in hd.1 (Oper.wp_mono (fun a w h=>list_in hQ hd.2 h) h)
   ·exact absurd h.2 hQ
  ·rename_i hw
   rw [if_neg hw]
   exact ⟨fun _ _=>trivial,list_in hQ hd.2 h⟩
theorem wpOp_in (hQ:¬ LetsOut Q) (hd:∀ (i:Nat) o,ops[i]?=some o→noDef o.op=true) {i:Nat} {K K':Go.Act→World→Prop} {a:Go.Act} {w:World} (hK:∀ a w,K a w→K' a w) (h:wpOp P ops Q i K a w):wpOpIn (Fr r) n P ops Q i K' a w:=by
 unfold wpOp at h
 unfold wpOpIn
 split at h
 ·rename_i ho
  simp only [ho]
  exact hK _ _ h
 ·rename_i o ho
  simp only [ho]
  split at h
  ·rename_i hw
   rw [if_pos hw]
   rcases h with h | h
   ·exact op_in (hd i o ho) (Oper.wp_mono hK h)
   ·exact absurd h.2 hQ
  ·rename_i hw
   rw [if_neg hw]
   exact ⟨fun _ _=>trivial,hK _ _ h⟩
theorem any_in (hQ:¬ LetsOut Q) (hd:∀ (i:Nat) o,ops[i]?=some o→noDef o.op=true):∀ (k:Nat) (l:Array Bool) (a:Go.Act) (w:World),wpAny P .any ops Q k l a w→wpAnyIn (Fr r) n P .any ops Q k l a w
 | 0,l,a,w,h=>h
 | k + 1,l,a,w,h=>⟨h.1,fun i hi=>wpOp_in hQ hd (fun a w h=>any_in hQ hd k _ a w h) (h.2 i hi)⟩
end
section
variable {X:Type} {val:VF X} {P:Program} {L:EL X} {good:X→Prop} {call:Nat→List SV→St X→Option (SV × St X)} {r:Option Nat} {n:Nat}
def nrm (Q:Go.Exit→Go.Act→World→Prop):Go.Exit→Go.Act→World→Prop:=fun e a w=>e=.normal∧Q .normal a w
theorem nrm_out (Q:Go.Exit→Go.Act→World→Prop):¬ LetsOut (nrm Q):=fun ⟨a,w,h,_⟩=>by cases h
theorem nrm_to {Q:Go.Exit→Go.Act→World→Prop}:∀ e a w,nrm Q e a w→Q e a w:=fun e a w h=>by obtain ⟨rfl,h⟩:=h;exact h
theorem ops_noDef {ops:Array Oper} (h:(ops.toList.all fun o=>noDef o.op)=true):∀ (i:Nat) o,ops[i]?=some o→noDef o.op=true:=fun i o ho=>by
 have:=List.all_eq_true.1 h o (Array.mem_toList_iff.2 (Array.mem_of_getElem? ho))
 exact this
theorem seqS_in (hval:ValOk P L good val) (hc:CallOk P L good call) {ops:Array Oper} {N id:Nat} {p:T SV × St X} (hg:good p.2.x) (hd:(ops.toList.all fun o=>noDef o.op)=true) {Q:Go.Exit→Go.Act→World→Prop} {tm:T SV} {st:St X} {e:Env} {w:World} {F:FootE} {a:Go.Act} (h:seqS P val call ops.toList N ops.toList tm st=some p)
  (hR:Rl L e st w F) (ha:AR e tm a.tmps) (hN:N≤a.tmps.size) (hQ:∀ a' w' e' F',AR e' p.1 a'.tmps→N≤a'.tmps.size→a'.defers=a.defers→Rl L e' p.2 w' F'→Nxt st.nx e st w F e' p.2 w' F'→Q .normal a' w'):(Code.region id ops false).wpIn (Fr r) n P Q a w :=
 wpIn_mono (wpIn_region_list (list_in (nrm_out Q) hd (seqS_ok (Q:=nrm Q) hval hc hg h hR ha hN fun a' w' e' F' h1 h2 h3 h4 h5=>⟨rfl,hQ a' w' e' F' h1 h2 h3 h4 h5⟩))) nrm_to
theorem draw_in (hval:ValOk P L good val) (hm:P.follows .mixedOrders=true) (hc:CallOk P L good call) {ops:Array Oper} {pl:Plan} {N id:Nat} {tm:T SV} {st:St X} (hp:planOk ops.toList pl=true) {r':T SV × St X} (hg:good r'.2.x) (hd:(ops.toList.all fun o=>noDef o.op)=true) (h:drawS P val call ops.toList N pl tm st []=some r') {Q:Go.Exit→Go.Act→World→Prop} {e:Env} {w:World} {F:FootE} {a:Go.Act}
  (hR:Rl L e st w F) (ha:AR e tm a.tmps) (hN:N≤a.tmps.size)
  (hQ:∀ a' w' e' F',AR e' r'.1 a'.tmps→N≤a'.tmps.size→a'.defers=a.defers→Rl L e' r'.2 w' F'→Nxt st.nx e st w F e' r'.2 w' F'→Q .normal a' w'):(Code.region id ops true).wpIn (Fr r) n P Q a w:=by
 have hp':=planOk_ok hp
 refine wpIn_mono (wpIn_region_any hm (any_in (nrm_out Q) (ops_noDef hd) _ _ _ _ ?_)) nrm_to
 have hR':Rl L e st { w with drawn:=w.drawn + 1 } F:=hR.same rfl
 refine wpAny_run (pl:=pl) (N:=N) (ds:=a.defers) (e0:=e) (st0:=st) (w0:={ w with drawn:=w.drawn + 1 }) (F0:=F) hval hc hp' hg (fun a' w' e' F' h1 h2 h3 h4 h5=>⟨rfl,hQ a' w' e' F' h1 h2 h3 h4 (Nxt.trans (Nxt.same (w:=w) (w':={ w with drawn:=w.drawn + 1 }) st.nx rfl rfl rfl rfl) h5)⟩) ops.size _ pl 0 tm st [] none a _ e F (fun _=>none) (by simp) ?_ ?_ h
 ·unfold unl
  exact Nat.le_trans (List.length_filter_le _ _) (by simp)
 ·have hno:∀ i,¬ ((Array.replicate ops.size false).getD i false=true):=fun i hi=>by
   rw [Array.getD_eq_getD_getElem?,Array.getElem?_replicate] at hi
   split at hi<;>simp at hi
  refine ⟨hR',.refl ..,hN,rfl,hp'.go,fun j hj=>?_,fun i hi=>absurd hi (hno i),fun i o hi=>absurd hi (hno i),fun i o hi=>?_,fun i hi=>?_,fun t v hv=>.inr (ha t v hv),fun i o ho hi=>?_,nofun,nofun,nofun,nofun⟩
  ·obtain ⟨p,h1,h2⟩:=List.any_eq_true.1 hj
   simp only [Bool.and_eq_true] at h2
   have:=Nat.eq_of_beq_eq_true h2.1
   exact .inr (by rw [← this,← h2.2];exact h1)
  ·rw [tb_zero] at hi;cases hi
  ·rw [tb_zero] at hi;cases hi
  ·rw [tb_zero] at hi;cases hi
end
end
end Go.Proofs.YtmelcflkbfhohaaGreatDoor.W.E
namespace Go.Proofs.YtmelcflkbfhohaaGreatDoor.W
section
open Go.RowKit
abbrev Foot:=Nat→Prop
structure Keep (F:Foot) (W W':World):Prop where
 os:W'.os=W.os
 tape:W'.tape=W.tape
 output:W'.output=W.output
 size:W.heap.size≤W'.heap.size
 block:∀ b,F b→W'.heap[b]?=W.heap[b]?
def Stable (I:Foot→World→Prop):Prop:=∀ F W W',I F W→Keep F W W'→I F W'
def Rounds (P:Program) (l:Nat) (J:Nat→Foot→World→Prop) (Y:Foot→World→Prop) (xs:List (Array Value)):Prop :=
 ∀ k x F W,xs[k]?=some x→J k F W→YieldAt Fence.wide 1 P l x W fun e W'=>∃ F',Step W.heap.size F W W' F' ∧
  ((e=.returned (.bool true)∧J (k + 1) F' W')∨(e=.returned (.bool false)∧Y F' W'))
theorem Keep.put {F:Foot} {W:World} {l:Nat} {o:Obj} (h:¬ F l):Keep F W (W.putObj l o) :=
 ⟨rfl,rfl,rfl,by simp [World.putObj],fun b hb=>World.putObj_heap_other (fun e=>h (by rw [← e];exact hb))⟩
theorem Keep.trans {F:Foot} {A B C:World} (h:Keep F A B) (k:Keep F B C):Keep F A C:=⟨k.os.trans h.os,k.tape.trans h.tape,k.output.trans h.output,Nat.le_trans h.size k.size,fun b hb=>(k.block b hb).trans (h.block b hb)⟩
theorem putObj_size (W:World) (l:Nat) (o:Obj):(W.putObj l o).heap.size=W.heap.size:=by simp [World.putObj]
theorem Step.put {B:Nat} {F F1:Foot} {a w:World} (h:Step B F a w F1) {l:Nat} (hl:B≤l∨F l) (o:Obj):Step B F a (w.putObj l o) F1 :=
 ⟨h.os,h.tape,h.output,by rw [putObj_size];exact h.size,fun k h1 h2=>(World.putObj_heap_other (fun e=>hl.elim (fun h3=>by omega) (fun h3=>h2 (by rw [e];exact h3)))).trans (h.block k h1 h2),h.foot,fun k hk=>by rw [putObj_size];exact h.lt k hk⟩
end
section
open Go.RowKit
def SeqOfR (P:Program) (gf:Nat) (lb:Array Value) (xs:List (Array Value)) (R:World→Prop):Prop :=
 ∀ (l:Nat) (J:Nat→Foot→World→Prop) (Y:Foot→World→Prop),(∀ k,Stable (J k))→Stable Y→(∀ k F W,J k F W→∀ b,F b→b < W.heap.size)→(∀ k F W,J k F W→R W)→Rounds P l J Y xs →
  ∀ F W,J 0 F W→CallsIn Fence.wide 2 P gf (#[.func (.yield l) #[] #[]]++lb) W fun e W'=>(∃ v,e=.returned v)∧∃ F',Step W.heap.size F W W' F'∧(J xs.length F' W'∨Y F' W')
end
end Go.Proofs.YtmelcflkbfhohaaGreatDoor.W
namespace Go.Proofs.YtmelcflkbfhohaaGreatDoor.W.E
section
open Go.RowKit
section
variable {X:Type}
abbrev ItT (X:Type):=Nat→List SV→St X→Option (List (List SV) × (St X→Bool))
def putAll (N:Nat):List Nat→List SV→T SV→Option (T SV)
 | [],_,tm=>some tm
 | d :: ps,x :: t,tm=>bif Nat.blt d N && Nat.blt d TMax then putAll N ps t (tm.upd d (some x)) else none
 | _,_,_=>none
structure Mk (B:Nat) (e:Env) (st:St X) (F:FootE) (w:World) (ds:List Deferred):Prop where
 sz:B≤w.heap.size
 nd:ds.Nodup
 all:∀ d∈ds,∃ b,d={ target:=.collected b,args:=#[] }∧B≤b∧b < w.heap.size∧w.heap[b]?=some (.deferred (some []))∧¬ Im e st F b
theorem Mk.next {D:Nat} {e e':Env} {st st':St X} {F F':FootE} {w w':World} {ds:List Deferred} (h:Mk D e st F w ds) {B:Nat} (hn:Nxt B e st w F e' st' w' F'):Mk D e' st' F' w' ds:=⟨Nat.le_trans h.sz hn.size,h.nd,fun d hd=>by
 obtain ⟨b,h1,h0,h2,h3,h4⟩:=h.all d hd
 exact ⟨b,h1,h0,Nat.lt_of_lt_of_le h2 hn.size,(hn.frame b h2 h4).trans h3,fun hi=>h4 (hn.img b h2 hi)⟩⟩
theorem Mk.nil {e:Env} {st:St X} {F:FootE} {w:World} {D:Nat} (h:D≤w.heap.size):Mk D e st F w []:=⟨h,.nil,fun d hd=>by simp at hd⟩
def MkR (r:Option Nat) (D:Nat) (e:Env) (st:St X) (F:FootE) (w:World) (ds:List Deferred):Prop:=match r with
 | none=>Mk D e st F w ds
 | some _=>ds=[]
theorem MkR.next {r:Option Nat} {D:Nat} {e e':Env} {st st':St X} {F F':FootE} {w w':World} {ds:List Deferred} (h:MkR r D e st F w ds) {B:Nat} (hn:Nxt B e st w F e' st' w' F'):MkR r D e' st' F' w' ds:=by
 cases r with
 | none=>exact Mk.next h hn
 | some l=>exact h
theorem MkR.x {r:Option Nat} {D:Nat} {e:Env} {m:T SB} {nx:Nat} {x x':X} {F:FootE} {w:World} {ds:List Deferred} (h:MkR r D e ⟨m,nx,x⟩ F w ds):MkR r D e ⟨m,nx,x'⟩ F w ds:=by
 cases r with
 | none =>
  have h2:Mk D e ⟨m,nx,x⟩ F w ds:=h
  exact ⟨h2.sz,h2.nd,h2.all⟩
 | some l=>exact h
variable {P:Program} {L:EL X} {good:X→Prop}
theorem Rl.keepIm {e:Env} {st:St X} {w w':World} {F:FootE} (h:Rl L e st w F) (hs:w.heap.size≤w'.heap.size) (hk:∀ c,Im e st F c→w'.heap[c]?=w.heap[c]?):Rl L e st w' F :=
 ⟨fun b k c o z h1 h2=>⟨(h.blk b k c o z h1 h2).1,(h.blk b k c o z h1 h2).2.keep (.refl e) (hk c (.inr ⟨b,k,o,z,h1,h2⟩))⟩,h.dis,h.old,h.dom,h.sib,L.keep _ _ _ _ _ h.ext hs fun b hb=>hk b (.inl hb)⟩
theorem Rl.imLt {e:Env} {st:St X} {w:World} {F:FootE} (h:Rl L e st w F) {c:Nat} (hc:Im e st F c):c < w.heap.size:=by
 rcases hc with hc | ⟨b,k,o,z,h1,h2⟩
 ·exact L.lt _ _ _ _ h.ext c hc
 ·exact (h.blk b k c o z h1 h2).2.lt
structure Pn (B:Nat) (e:Env) (st:St X) (e':Env) (st':St X):Prop where
 le:e.le e'
 und:∀ b,b < B→e b=none→e' b=none∧(st.m.get b≠some .emp→st'.m.get b=st.m.get b)
 nx:st.nx≤st'.nx
theorem Pn.trans {B:Nat} {e e1 e2:Env} {st st1 st2:St X} (h:Pn B e st e1 st1) (k:Pn B e1 st1 e2 st2):Pn B e st e2 st2 :=
 ⟨h.le.trans k.le,fun b hb he=>let ⟨h1,h2⟩:=h.und b hb he;let ⟨k1,k2⟩:=k.und b hb h1;⟨k1,fun hne=>(k2 (by rw [h2 hne];exact hne)).trans (h2 hne)⟩,Nat.le_trans h.nx k.nx⟩
theorem Pn.less {B B':Nat} {e e':Env} {st st':St X} (h:Pn B e st e' st') (hB:B'≤B):Pn B' e st e' st':=⟨h.le,fun b hb=>h.und b (Nat.lt_of_lt_of_le hb hB),h.nx⟩
def ConclI (r:Option Nat) (n:Nat) (P:Program) (k:Nat) (c:Code) (Q:Go.Exit→Go.Act→World→Prop) (a:Go.Act) (w:World):Prop :=
 match c with
 | .loop c0=>Code.roundsIn (Fr r) n P c0 Q k a w
 | c=>c.wpIn (Fr r) n P Q a w
theorem ConclI.wp {r:Option Nat} {n k:Nat} {c:Code} {Q:Go.Exit→Go.Act→World→Prop} {a:Go.Act} {w:World} (h:ConclI r n P k c Q a w):c.wpIn (Fr r) n P Q a w:=by
 unfold ConclI at h
 split at h
 ·exact wpIn_loop_rounds k h
 ·exact h
def CodeE (P:Program) (L:EL X) (good:X→Prop) (r:Option Nat) (n N k:Nat) (c:Code) (tm:T SV) (st:St X) (x:Ex) (p:T SV × St X):Prop :=
 good p.2.x→good st.x∧∀ (D:Nat) (e:Env) (w:World) (F:FootE) (a:Go.Act) (Q:Go.Exit→Go.Act→World→Prop),Rl L e st w F→AR e tm a.tmps→N≤a.tmps.size→MkR r D e st F w a.defers →
  (∀ a' w' e' F',AR e' p.1 a'.tmps→N≤a'.tmps.size→MkR r D e' p.2 F' w' a'.defers→Rl L e' p.2 w' F'→Nxt st.nx e st w F e' p.2 w' F'→Q x.to a' w')→ConclI r n P k c Q a w
def ItOk (P:Program) (L:EL X) (it:ItT X):Prop:=∀ gf ys st els chk,it gf ys st=some (els,chk)→(∀ args w,(callFunc gf args).run P w=.ok (.enter gf args) w) ∧
 ∀ e w F lb,Rl L e st w F→VRs e ys lb→∃ (us:List (Array Value)) (R:World→Prop),us.length=els.length∧(∀ (i:Nat) (x:List SV) (u:Array Value),els[i]?=some x→us[i]?=some u→VRs e x u.toList)∧SeqOfR P gf lb.toArray us R ∧
  ∀ st' e' w' F',e.le e'→Rl L e' st' w' F'→chk st'=true→R w'
theorem putAll_ok {N:Nat} {e:Env}:∀ {ps:List Nat} {x:List SV} {u:List Value} {tm tm1:T SV} {ts:Array Value},putAll N ps x tm=some tm1→VRs e x u→AR e tm ts→N≤ts.size →
  AR e tm1 ((ps.zip u).foldl (fun t (p,v)=>t.setIfInBounds p v) ts)∧N≤((ps.zip u).foldl (fun t (p,v)=>t.setIfInBounds p v) ts).size
 | [],_,_,tm,tm1,ts,h,hv,ha,hN=>by cases h;exact ⟨by simpa using ha,by simpa using hN⟩
 | d :: ps,[],_,tm,tm1,ts,h,hv,ha,hN=>by cases h
 | d :: ps,x :: t,_,tm,tm1,ts,h,.cons (u:=u) (us:=us) h1 h2,ha,hN=>by
  unfold putAll at h
  cases hb:Nat.blt d N && Nat.blt d TMax with
  | false=>rw [hb] at h;cases h
  | true =>
   rw [hb,cond_true] at h
   simp only [Bool.and_eq_true,Nat.blt_eq] at hb
   rw [List.zip_cons_cons,List.foldl_cons]
   exact putAll_ok h h2 (ha.put (Nat.lt_of_lt_of_le hb.1 hN) hb.2 h1) (by simpa using hN)
end
end
section
open Go.RowKit
section
variable {X:Type} {P:Program} {L:EL X} {good:X→Prop}
def pend (x:Ex) (c:Code):Prop:=match x with
 | .normal=>False
 | .exit i=>c=.exit i
 | .ret=>c=.ret
variable {val:VF X} {call:Nat→List SV→St X→Option (SV × St X)}
theorem CodeE.self {r:Option Nat} {n N k:Nat} {c:Code} {tm:T SV} {st:St X} {x:Ex} (h:∀ (a:Go.Act) (w:World) (Q:Go.Exit→Go.Act→World→Prop),Q x.to a w→ConclI r n P k c Q a w):CodeE P L good r n N k c tm st x (tm,st) :=
 fun hg=>⟨hg,fun D e w F a Q hR ha hN hM hQ=>h a w Q (hQ a w e F ha hN hM hR (.refl ..))⟩
theorem leaves_mk {e:Env} {st:St X} {F:FootE} {fn:Func} {tmps:Array Value} {tm:T SV} {v:SV} {n:Nat} {R:Ending→World→Prop} (ha:AR e tm tmps) (hres:resS P st.m tm fn.results=some v) {D:Nat} {w0:World} :
  ∀ {ds:List Deferred} {w:World},Rl L e st w F→Mk D e st F w ds→(∀ w' u,Rl L e st w' F→(w'.os=w.os∧w'.tape=w.tape∧w'.output=w.output∧w'.heap.size=w.heap.size∧∀ c,c < D∨Im e st F c→w'.heap[c]?=w.heap[c]?)→VR e v u→R (.returned u) w')→LeavesInM Fence.wide n P fn tmps R ds .returning w
 | [],w,hR,hM,hQ=>by
  obtain ⟨u,h1,h2⟩:=resS_ok hR ha hres
  exact ⟨u,h1,hQ w u hR ⟨rfl,rfl,rfl,rfl,fun _ _=>rfl⟩ h2⟩
 | d :: ds,w,hR,hM,hQ=>by
  obtain ⟨b,rfl,hD,hb,hk,hni⟩:=hM.all d (List.mem_cons_self ..)
  have hkeep:∀ c,c < D∨Im e st F c→(w.putObj b (.deferred none)).heap[c]?=w.heap[c]?:=fun c hc=>World.putObj_heap_other fun hq=>by
   subst hq
   rcases hc with hc | hc
   ·omega
   ·exact hni hc
  have hR':Rl L e st (w.putObj b (.deferred none)) F:=hR.keepIm (by rw [putObj_size];exact Nat.le_refl _) fun c hc=>hkeep c (.inr hc)
  refine ⟨nofun,.inl ⟨b,_,rfl,run_takeDeferred hk,leaves_mk ha hres (D:=D) (w0:=w0) hR' ⟨by rw [putObj_size];exact hM.sz,(List.nodup_cons.1 hM.nd).2,fun d hd=>?_⟩ fun w' u h1 ⟨q1,q2,q3,q4,q5⟩ h3=>?_⟩⟩
  ·obtain ⟨b',r1,r2,r3,r4,r5⟩:=hM.all d (List.mem_cons_of_mem _ hd)
   refine ⟨b',r1,r2,by rw [putObj_size];exact r3,(World.putObj_heap_other fun hq=>?_).trans r4,r5⟩
   subst hq
   exact (List.nodup_cons.1 hM.nd).1 (by rw [← r1];exact hd)
  ·exact hQ w' u h1 ⟨q1,q2,q3,q4.trans (putObj_size _ _ _),fun c hc=>(q5 c hc).trans (hkeep c hc)⟩ h3
structure Cfg.OkG (C:Cfg X) (plan:Nat→Nat→Option Plan) (it:ItT X):Prop where
 mixed:C.P.follows .mixedOrders=true
 fn:∀ f g,C.fn f=some g→C.P.funcs[f]?=some g∧(g.name == "runtime.NumGoroutine")=false∧∀ c,g.body=some c→okG (plan f) c=true
 ext:∀ f h,C.ext f=some h→Callable C.P f∧∀ vs st v st',h vs st=some (v,st')→CallsR C.P C.L C.good f vs st v st'
 val:ValOk C.P C.L C.good C.val
 bit:∀ b x b' x',C.bit b x=some (b',x')→C.good x'→C.good x∧b=b'∧∀ e w F,C.L.R e x w F→C.L.R e x' w F
 it:ItOk C.P C.L it
end
end
end Go.Proofs.YtmelcflkbfhohaaGreatDoor.W.E
