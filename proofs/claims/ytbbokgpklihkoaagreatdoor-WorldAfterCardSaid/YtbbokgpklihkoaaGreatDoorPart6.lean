/- EvC Dict Dict2 Dict3 Plain Plain2 Dict4 Dict5 -/
import Derived.Test.YtbbokgpklihkoaaGreatDoorEvR2
import Derived.LoopN
import Derived.Test.YtbbokgpklihkoaaGreatDoorPart0
import Derived.BigGuard
import Derived.Deep.RegionWith
import Derived.BigRegion
set_option linter.unusedVariables false
set_option linter.unusedSimpArgs false
namespace Go.Proofs.YtbbokgpklihkoaaGreatDoor.W.E
section
open Go.RowKit
inductive Ex where
 | normal
 | exit (id:Nat)
 | ret
def Ex.to:Ex→Go.Exit
 | .normal=>.normal
 | .exit id=>.exit id
 | .ret=>.ret
section
variable {X:Type}
def seqS (P:Program) (val:VF X) (call:Nat→List SV→St X→Option (SV × St X)) (opl:List Oper) (N:Nat):List Oper→T SV→St X→Option (T SV × St X)
 | [],tm,st=>some (tm,st)
 | o :: t,tm,st=>match wantS opl tm o with
  | none=>none
  | some false=>match putS N tm o.dst (.tup []) with
   | some tm'=>seqS P val call opl N t tm' st
   | none=>none
  | some true=>match stepOp P val call tm st o.op with
   | some p=>match putS N tm o.dst p.1 with
    | some tm'=>seqS P val call opl N t tm' p.2
    | none=>none
   | none=>none
def planOf (l:List Nat):Plan:=l.map fun k=>(k / 2,Nat.beq (k % 2) 1)
abbrev ExR (X:Type):=Option (Ex × T SV × St X)
def codeStep (P:Program) (val:VF X) (bit:Bool→X→Option (Bool × X)) (call:Nat→List SV→St X→Option (SV × St X)) (pf:Nat→Option Plan) (N:Nat) (ih:Code→T SV→St X→ExR X) (c:Code) (tm:T SV) (st:St X):ExR X :=
 match c with
 | .skip=>some (.normal,tm,st)
 | .region id ops draw=>match draw with
  | false=>match seqS P val call ops.toList N ops.toList tm st with
   | some p=>some (.normal,p)
   | none=>none
  | true=>match pf id with
   | some pl=>match drawS P val call ops.toList N pl tm st [] with
    | some p=>some (.normal,p)
    | none=>none
   | none=>none
 | .seq a b=>match ih a tm st with
  | some (.normal,p)=>ih b p.1 p.2
  | r=>r
 | .cond c a b=>match evx tm c with
  | some (.bool t)=>match bit t st.x with
   | some (true,x)=>ih a tm ⟨st.m,st.nx,x⟩
   | some (false,x)=>ih b tm ⟨st.m,st.nx,x⟩
   | none=>none
  | _=>none
 | .block id c=>match ih c tm st with
  | some (.exit j,p)=>bif Nat.beq j id then some (.normal,p) else some (.exit j,p)
  | r=>r
 | .loop c=>match ih c tm st with
  | some (.normal,p)=>ih (.loop c) p.1 p.2
  | r=>r
 | .exit id=>some (.exit id,tm,st)
 | .ret=>some (.ret,tm,st)
 | _=>none
def codeF (P:Program) (val:VF X) (bit:Bool→X→Option (Bool × X)) (call:Nat→List SV→St X→Option (SV × St X)) (pf:Nat→Option Plan) (N:Nat) (n:Nat):Code→T SV→St X→ExR X :=
 Nat.rec (fun _ _ _=>none) (fun _ ih=>codeStep P val bit call pf N ih) n
def planOkC (pf:Nat→Option Plan):Code→Bool
 | .region id ops draw=>match draw with
  | false=>true
  | true=>match pf id with
   | some pl=>planOk ops.toList pl
   | none=>true
 | .seq a b=>planOkC pf a && planOkC pf b
 | .cond _ a b=>planOkC pf a && planOkC pf b
 | .block _ c=>planOkC pf c
 | .loop c=>planOkC pf c
 | _=>true
def resG (P:Program) (m:T SB) (tm:T SV):List ResultVar→Option (List SV)
 | []=>some []
 | r :: t=>match (match r with | .tmp k=>tm.get k | .cell a ty=>match tm.get a with | some v=>loadV P m ty v | none=>none) with
  | some v=>match resG P m tm t with
   | some l=>some (v :: l)
   | none=>none
  | none=>none
def resS (P:Program) (m:T SB) (tm:T SV) (rs:Array ResultVar):Option SV :=
 match resG P m tm rs.toList with
 | some [v]=>some v
 | some l=>some (.tup l)
 | none=>none
def initT:List SV→Nat→T SV→T SV
 | [],_,t=>t
 | v :: l,k,t=>initT l (k + 1) (t.upd k (some v))
def bodyF (C:Cfg X) (plan:Nat→Nat→Option Plan) (K:Nat) (call:Nat→List SV→St X→Option (SV × St X)) (f:Nat) (vs:List SV) (st:St X):Option (SV × St X) :=
 match C.ext f with
 | some h=>h vs st
 | none=>match C.fn f with
  | none=>none
  | some g=>match g.body with
   | none=>none
   | some c=>bif Nat.blt vs.length TMax then match codeF C.P C.val C.bit call (plan f) g.ntmps K c (initT vs 0 .e) st with
    | some (.normal,p)=>match resS C.P p.2.m p.1 g.results with
     | some v=>some (v,p.2)
     | none=>none
    | some (.ret,p)=>match resS C.P p.2.m p.1 g.results with
     | some v=>some (v,p.2)
     | none=>none
    | _=>none
    else none
def callF (C:Cfg X) (plan:Nat→Nat→Option Plan) (K:Nat) (n:Nat):Nat→List SV→St X→Option (SV × St X) :=
 Nat.rec (fun _ _ _=>none) (fun _ ih=>bodyF C plan K ih) n
structure Cfg.Ok (C:Cfg X) (plan:Nat→Nat→Option Plan):Prop where
 mixed:C.P.follows .mixedOrders=true
 fn:∀ f g,C.fn f=some g→C.P.funcs[f]?=some g∧(g.name == "runtime.NumGoroutine")=false∧∀ c,g.body=some c→planOkC (plan f) c=true
 ext:∀ f h,C.ext f=some h→Callable C.P f∧∀ vs st v st',h vs st=some (v,st')→CallsR C.P C.L C.good f vs st v st'
 val:ValOk C.P C.L C.good C.val
 bit:∀ b x b' x',C.bit b x=some (b',x')→C.good x'→C.good x∧b=b'∧∀ e w F,C.L.R e x w F→C.L.R e x' w F
variable {val:VF X} {P:Program} {L:EL X} {good:X→Prop} {call:Nat→List SV→St X→Option (SV × St X)}
theorem putS_ok {N:Nat} {tm tm':T SV} {dst:Option Tmp} {v:SV} (h:putS N tm dst v=some tm') {e:Env} {a:Go.Act} (ha:AR e tm a.tmps) (hN:N≤a.tmps.size) {u:Value} (hv:VR e v u):AR e tm' (a.put dst u).tmps:=by
 unfold putS at h
 cases dst with
 | none=>cases h;exact ha
 | some d =>
  simp only at h
  cases hb:Nat.blt d N && Nat.blt d TMax with
  | false=>rw [hb] at h;cases h
  | true =>
   rw [hb] at h;cases h
   simp only [Bool.and_eq_true,Nat.blt_eq] at hb
   exact ha.put (Nat.lt_of_lt_of_le hb.1 hN) hb.2 hv
theorem seqS_good (hval:ValOk P L good val) (hc:CallOk P L good call) {opl:List Oper} {N:Nat} {r:T SV × St X} (hg:good r.2.x):∀ {t:List Oper} {tm:T SV} {st:St X},seqS P val call opl N t tm st=some r→good st.x
 | [],tm,st,h=>by cases h;exact hg
 | o :: t,tm,st,h=>by
  unfold seqS at h
  split at h
  ·cases h
  ·split at h
   ·exact seqS_good hval hc hg h
   ·cases h
  ·split at h
   ·rename_i p hp
    split at h
    ·exact (stepOp_ok hval hc (v:=p.1) (st':=p.2) hp (seqS_good hval hc hg h)).1
    ·cases h
   ·cases h
theorem seqS_ok (hval:ValOk P L good val) (hc:CallOk P L good call) {ops:Array Oper} {N:Nat} {r:T SV × St X} (hg:good r.2.x) {Q:Go.Exit→Go.Act→World→Prop}:∀ {t:List Oper} {tm:T SV} {st:St X} {e:Env} {w:World} {F:FootE} {a:Go.Act},seqS P val call ops.toList N t tm st=some r →
  Rl L e st w F→AR e tm a.tmps→N≤a.tmps.size→(∀ a' w' e' F',AR e' r.1 a'.tmps→N≤a'.tmps.size→a'.defers=a.defers→Rl L e' r.2 w' F'→Nxt st.nx e st w F e' r.2 w' F'→Q .normal a' w')→wpList P ops Q t a w
 | [],tm,st,e,w,F,a,h,hR,ha,hN,hQ=>by cases h;exact hQ a w e F ha hN rfl hR (.refl ..)
 | o :: t,tm,st,e,w,F,a,h,hR,ha,hN,hQ=>by
  unfold seqS at h
  unfold wpList
  split at h
  ·cases h
  ·rename_i hw
   split at h
   ·rename_i tm' hput
    rw [wantS_ok hw (ha.as _)]
    simp only [Bool.false_eq_true,if_false]
    exact seqS_ok hval hc hg h hR (putS_ok hput ha hN (.tup .nil)) (by rw [(put_size a o.dst undef).1];exact hN) fun a' w' e' F' h1 h2 h3 h4 h5=>hQ a' w' e' F' h1 h2 (h3.trans (put_size a o.dst undef).2) h4 h5
   ·cases h
  ·rename_i hw
   split at h
   ·rename_i p hp
    split at h
    ·rename_i tm' hput
     rw [wantS_ok hw (ha.as _)]
     simp only [if_true]
     refine .inl ((stepOp_ok hval hc (v:=p.1) (st':=p.2) hp (seqS_good hval hc hg h)).2 e w F a _ Q hR (ha.as _) fun u w' e' F' hu hR' hN'=>?_)
     exact seqS_ok hval hc hg h hR' (putS_ok hput (ha.mono hN'.le) hN hu) (by rw [(put_size a o.dst u).1];exact hN) fun a' w2 e2 F2 h1 h2 h3 h4 h5=>hQ a' w2 e2 F2 h1 h2 (h3.trans (put_size a o.dst u).2) h4 (hN'.trans (h5.less hN'.nx))
    ·cases h
   ·cases h
def Concl (P:Program) (k:Nat) (c:Code) (Q:Go.Exit→Go.Act→World→Prop) (a:Go.Act) (w:World):Prop :=
 match c with
 | .loop c0=>Code.rounds P c0 Q k a w
 | c=>c.wp P Q a w
theorem Concl.wp {k:Nat} {c:Code} {Q:Go.Exit→Go.Act→World→Prop} {a:Go.Act} {w:World} (h:Concl P k c Q a w):c.wp P Q a w:=by
 unfold Concl at h
 split at h
 ·exact wp_loop_rounds k h
 ·exact h
def CodeR (P:Program) (L:EL X) (good:X→Prop) (N k:Nat) (c:Code) (tm:T SV) (st:St X) (x:Ex) (r:T SV × St X):Prop :=
 good r.2.x→good st.x∧∀ (e:Env) (w:World) (F:FootE) (a:Go.Act) (Q:Go.Exit→Go.Act→World→Prop),Rl L e st w F→AR e tm a.tmps→N≤a.tmps.size →
  (∀ a' w' e' F',AR e' r.1 a'.tmps→N≤a'.tmps.size→a'.defers=a.defers→Rl L e' r.2 w' F'→Nxt st.nx e st w F e' r.2 w' F'→Q x.to a' w')→Concl P k c Q a w
theorem CodeR.self {N k:Nat} {c:Code} {tm:T SV} {st:St X} {x:Ex} (h:∀ (a:Go.Act) (w:World) (Q:Go.Exit→Go.Act→World→Prop),Q x.to a w→Concl P k c Q a w):CodeR P L good N k c tm st x (tm,st) :=
 fun hg=>⟨hg,fun e w F a Q hR ha hN hQ=>h a w Q (hQ a w e F ha hN rfl hR (.refl ..))⟩
theorem codeF_ok {bit:Bool→X→Option (Bool × X)} {pf:Nat→Option Plan} {N:Nat} (hval:ValOk P L good val) (hm:P.follows .mixedOrders=true) (hc:CallOk P L good call)
  (hb:∀ b x b' x',bit b x=some (b',x')→good x'→good x∧b=b'∧∀ e w F,L.R e x w F→L.R e x' w F) :
  ∀ (k:Nat) (c:Code) (tm:T SV) (st:St X) (x:Ex) (r:T SV × St X),planOkC pf c=true→codeF P val bit call pf N k c tm st=some (x,r)→CodeR P L good N k c tm st x r:=by
 intro k
 induction k with
 | zero=>intro c tm st x r _ h;cases h
 | succ k ih =>
  intro c tm st x r hp h
  replace h:codeStep P val bit call pf N (codeF P val bit call pf N k) c tm st=some (x,r):=h
  unfold codeStep at h
  split at h
  ·cases h;exact CodeR.self fun a w Q hQ=>wp_skip hQ
  ·rename_i id ops draw
   split at h
   ·split at h
    ·rename_i p hs
     cases h
     exact fun hg=>⟨seqS_good hval hc hg hs,fun e w F a Q hR ha hN hQ=>wp_region_list (seqS_ok hval hc hg hs hR ha hN hQ)⟩
    ·cases h
   ·split at h
    ·rename_i pl hpl
     split at h
     ·rename_i p hs
      cases h
      have hpo:planOk ops.toList pl=true:=by
       unfold planOkC at hp
       simp only [hpl] at hp
       exact hp
      exact fun hg=>⟨drawS_good hval hc hg hs,fun e w F a Q hR ha hN hQ=>draw_ok hval hm hc hpo hg hs hR ha hN hQ⟩
     ·cases h
    ·cases h
  ·rename_i c1 c2
   have hp:planOkC pf c1=true∧planOkC pf c2=true:=by simpa [planOkC] using hp
   split at h
   ·rename_i p h1
    intro hg
    obtain ⟨g1,g2⟩:=ih c2 _ _ _ _ hp.2 h hg
    obtain ⟨g3,g4⟩:=ih c1 _ _ _ _ hp.1 h1 g1
    refine ⟨g3,fun e w F a Q hR ha hN hQ=>wp_seq (Concl.wp (g4 e w F a _ hR ha hN fun a1 w1 e1 F1 h2 h3 h4 h5 h6=>?_))⟩
    exact (g2 e1 w1 F1 a1 Q h5 h2 h3 fun a2 w2 e2 F2 k1 k2 k3 k4 k5=>hQ a2 w2 e2 F2 k1 k2 (k3.trans h4) k4 (h6.trans (k5.less h6.nx))).wp
   ·rename_i hne
    intro hg
    obtain ⟨g3,g4⟩:=ih c1 _ _ _ _ hp.1 h hg
    refine ⟨g3,fun e w F a Q hR ha hN hQ=>wp_seq (Concl.wp (g4 e w F a _ hR ha hN fun a1 w1 e1 F1 h2 h3 h4 h5 h6=>?_))⟩
    have:=hQ a1 w1 e1 F1 h2 h3 h4 h5 h6
    cases x with
    | normal=>exact absurd h (hne _)
    | exit id=>exact this
    | ret=>exact this
  ·rename_i cx c1 c2
   have hp:planOkC pf c1=true∧planOkC pf c2=true:=by simpa [planOkC] using hp
   split at h
   ·rename_i t ht
    have hcond:∀ {x':X} {b':Bool},bit t st.x=some (b',x')→codeF P val bit call pf N k (if b' then c1 else c2) tm ⟨st.m,st.nx,x'⟩=some (x,r)→CodeR P L good N (k + 1) (.cond cx c1 c2) tm st x r:=fun {x' b'} hbt h hg=>by
     obtain ⟨g1,g2⟩:=ih _ _ _ _ _ (by cases b'<;>simp [hp]) h hg
     obtain ⟨g3,rfl,g4⟩:=hb _ _ _ _ hbt g1
     refine ⟨g3,fun e w F a Q hR ha hN hQ=>?_⟩
     have hv:=evx_ok ha ht
     generalize hq:a.eval cx=u at hv
     cases hv
     refine wp_cond hq (g2 e w F a Q ⟨hR.blk,hR.dis,hR.old,hR.dom,hR.sib,g4 _ _ _ hR.ext⟩ ha hN fun a1 w1 e1 F1 h2 h3 h4 h5 h6=>hQ a1 w1 e1 F1 h2 h3 h4 h5 ?_).wp
     exact ⟨h6.le,h6.os,h6.tape,h6.output,h6.size,h6.frame,h6.img,h6.und,h6.nx⟩
    split at h
    ·rename_i x' hbt;exact hcond hbt h
    ·rename_i x' hbt;exact hcond hbt h
    ·cases h
   ·cases h
  ·rename_i id c1
   have hp:planOkC pf c1=true:=by simpa [planOkC] using hp
   split at h
   ·rename_i j p h1
    cases hj:Nat.beq j id with
    | true =>
     rw [hj] at h;cases h
     have:=Nat.eq_of_beq_eq_true hj
     subst this
     intro hg
     obtain ⟨g3,g4⟩:=ih c1 _ _ _ _ hp h1 hg
     refine ⟨g3,fun e w F a Q hR ha hN hQ=>wp_block (Concl.wp (g4 e w F a _ hR ha hN fun a1 w1 e1 F1 h2 h3 h4 h5 h6=>?_))⟩
     have:=hQ a1 w1 e1 F1 h2 h3 h4 h5 h6
     simpa [Ex.to,Exit.inBlock] using this
    | false =>
     rw [hj] at h;cases h
     have hne:j≠id:=fun hh=>by rw [hh,Nat.beq_refl] at hj;cases hj
     intro hg
     obtain ⟨g3,g4⟩:=ih c1 _ _ _ _ hp h1 hg
     refine ⟨g3,fun e w F a Q hR ha hN hQ=>wp_block (Concl.wp (g4 e w F a _ hR ha hN fun a1 w1 e1 F1 h2 h3 h4 h5 h6=>?_))⟩
     have:=hQ a1 w1 e1 F1 h2 h3 h4 h5 h6
     simpa [Ex.to,Exit.inBlock,hne] using this
   ·rename_i hne
    intro hg
    obtain ⟨g3,g4⟩:=ih c1 _ _ _ _ hp h hg
    refine ⟨g3,fun e w F a Q hR ha hN hQ=>wp_block (Concl.wp (g4 e w F a _ hR ha hN fun a1 w1 e1 F1 h2 h3 h4 h5 h6=>?_))⟩
    have:=hQ a1 w1 e1 F1 h2 h3 h4 h5 h6
    cases x with
    | normal=>exact this
    | exit j=>exact absurd h (hne _ _)
    | ret=>exact this
  ·rename_i c1
   have hp1:planOkC pf c1=true:=by simpa [planOkC] using hp
   split at h
   ·rename_i p h1
    intro hg
    obtain ⟨g1,g2⟩:=ih (.loop c1) _ _ _ _ hp h hg
    obtain ⟨g3,g4⟩:=ih c1 _ _ _ _ hp1 h1 g1
    refine ⟨g3,fun e w F a Q hR ha hN hQ=>?_⟩
    show c1.wp P (Exit.then (Code.rounds P c1 Q k) Q) a w
    refine Concl.wp (g4 e w F a _ hR ha hN fun a1 w1 e1 F1 h2 h3 h4 h5 h6=>?_)
    exact g2 e1 w1 F1 a1 Q h5 h2 h3 fun a2 w2 e2 F2 k1 k2 k3 k4 k5=>hQ a2 w2 e2 F2 k1 k2 (k3.trans h4) k4 (h6.trans (k5.less h6.nx))
   ·rename_i hne
    intro hg
    obtain ⟨g3,g4⟩:=ih c1 _ _ _ _ hp1 h hg
    refine ⟨g3,fun e w F a Q hR ha hN hQ=>?_⟩
    show c1.wp P (Exit.then (Code.rounds P c1 Q k) Q) a w
    refine Concl.wp (g4 e w F a _ hR ha hN fun a1 w1 e1 F1 h2 h3 h4 h5 h6=>?_)
    have:=hQ a1 w1 e1 F1 h2 h3 h4 h5 h6
    cases x with
    | normal=>exact absurd h (hne _)
    | exit j=>exact this
    | ret=>exact this
  ·cases h;exact CodeR.self fun a w Q hQ=>wp_exit hQ
  ·cases h;exact CodeR.self fun a w Q hQ=>wp_ret hQ
  ·cases h
def resOne (tmps:Array Value) (r:ResultVar):Sem Value:=match r with | .tmp t=>pure (tmps.getD t undef) | .cell a t=>do loadVar t (← asAddr (tmps.getD a undef))
theorem loadVar_of {t:TypeId} {u r:Value} {w:World} (h:(Instr.loadAt t u).run P w=.ok r w):(do loadVar t (← asAddr u):Sem Value).run P w=.ok r w:=by
 unfold Instr.loadAt at h
 cases u with
 | pointer p=>cases p with
  | none=>simp [Instr.sureAddr,stuck,Sem.run_bind,Sem.run,Result.andThen] at h
  | some ad=>simpa [Instr.sureAddr,asAddr,Sem.run_bind] using h
 | _=>simp [Instr.sureAddr,stuck,Sem.run_bind,Sem.run,Result.andThen] at h
theorem resG_ok {e:Env} {st:St X} {w:World} {F:FootE} {tm:T SV} {tmps:Array Value} (hR:Rl L e st w F) (ha:AR e tm tmps):∀ {l:List ResultVar} {vs:List SV},resG P st.m tm l=some vs→∃ us,(l.mapM (resOne tmps)).run P w=.ok us w∧VRs e vs us
 | [],vs,h=>by cases h;exact ⟨[],by simp,.nil⟩
 | r :: t,vs,h=>by
  unfold resG at h
  split at h
  ·rename_i v hv
   split at h
   ·rename_i l hl
    cases h
    obtain ⟨us,h1,h2⟩:=resG_ok hR ha hl
    have:∃ u,(resOne tmps r).run P w=.ok u w∧VR e v u:=by
     split at hv
     ·rename_i k
      obtain ⟨u,h3,h4⟩:=ha k v hv
      exact ⟨u,by simp [resOne,Array.getD_eq_getD_getElem?,h3],h4⟩
     ·rename_i ad ty
      split at hv
      ·rename_i p hp
       obtain ⟨u,h3,h4⟩:=ha ad p hp
       obtain ⟨x,h5,h6⟩:=loadV_ok (P:=P) hv hR h4
       refine ⟨x,?_,h6⟩
       have:=loadVar_of h5
       simpa [resOne,Array.getD_eq_getD_getElem?,h3] using this
      ·cases hv
    obtain ⟨u,h3,h4⟩:=this
    refine ⟨u :: us,?_,.cons h4 h2⟩
    rw [List.mapM_cons]
    simp only [Sem.run_bind,h3,Result.andThen_ok,h1,Sem.run_pure]
   ·cases h
  ·cases h
theorem resS_ok {e:Env} {st:St X} {w:World} {F:FootE} {tm:T SV} {tmps:Array Value} (hR:Rl L e st w F) (ha:AR e tm tmps) {fn:Func} {v:SV} (h:resS P st.m tm fn.results=some v):∃ u,(results fn tmps).run P w=.ok u w∧VR e v u:=by
 have key:∀ {l:List SV},resG P st.m tm fn.results.toList=some l→∃ us:List Value,(fn.results.mapM (resOne tmps)).run P w=.ok us.toArray w∧VRs e l us:=fun {l} hl=>by
  obtain ⟨us,h1,h2⟩:=resG_ok (P:=P) hR ha hl
  refine ⟨us,?_,h2⟩
  rw [Array.mapM_eq_mapM_toList]
  show ((List.mapM (resOne tmps) fn.results.toList >>= fun x=>pure x.toArray:Sem (Array Value))).run P w=_
  rw [Sem.run_bind,h1];rfl
 have hres:∀ us:List Value,(fn.results.mapM (resOne tmps)).run P w=.ok us.toArray w→(results fn tmps).run P w=.ok (if h:us.toArray.size=1 then us.toArray[0] else .tuple us.toArray) w:=fun us hu=>by
  show ((fn.results.mapM (resOne tmps) >>= fun vs=>pure (if h:vs.size=1 then vs[0] else .tuple vs):Sem Value)).run P w=_
  rw [Sem.run_bind,hu]
  rfl
 unfold resS at h
 split at h
 ·rename_i v' hv
  cases h
  obtain ⟨us,h1,h2⟩:=key hv
  cases h2 with
  | cons h3 h4=>cases h4;exact ⟨_,hres _ h1,h3⟩
 ·rename_i l hne hl
  cases h
  obtain ⟨us,h1,h2⟩:=key hl
  have hlen:=h2.length
  have:us.length≠1:=fun hh=>by
   match l,hlen with
   | [],hl'=>rw [hh] at hl';cases hl'
   | [x],_=>exact hne x rfl
   | x :: y :: t,hl'=>rw [hh] at hl';simp at hl'
  refine ⟨_,hres _ h1,?_⟩
  rw [dif_neg (by simpa using this)]
  exact .tup h2
 ·cases h
theorem initT_ok {e:Env} {tmps:Array Value}:∀ {vs:List SV} {us:List Value} {k:Nat} {t:T SV},VRs e vs us→AR e t tmps→k + vs.length < TMax→(∀ j u,us[j]?=some u→tmps[k + j]?=some u)→AR e (initT vs k t) tmps
 | [],_,_,_,_,ha,_,_=>ha
 | v :: vs,_,k,t,.cons (u:=u) (us:=us) h1 h2,ha,hk,hu=>by
  unfold initT
  refine initT_ok h2 (fun j x hx=>?_) (by simp at hk;omega) fun j y hj=>by have:=hu (j + 1) y (by simpa using hj);rwa [show k + (j + 1)=k + 1 + j by omega] at this
  rw [T.get_upd _ _ (by simp at hk;omega)] at hx
  by_cases hj:j=k
  ·subst hj
   rw [if_pos rfl] at hx;cases hx
   exact ⟨u,by simpa using hu 0 u rfl,h1⟩
  ·rw [if_neg hj] at hx;exact ha j x hx
theorem callF_ok {C:Cfg X} {plan:Nat→Nat→Option Plan} (hC:C.Ok plan) (K:Nat):∀ n,CallOk C.P C.L C.good (callF C plan K n)
 | 0=>fun f vs st v st' h=>by cases h
 | n + 1=>fun f vs st v st' h=>by
  have hc:=callF_ok hC K n
  replace h:bodyF C plan K (callF C plan K n) f vs st=some (v,st'):=h
  unfold bodyF at h
  split at h
  ·rename_i g hg
   exact ⟨(hC.ext f g hg).1,(hC.ext f g hg).2 _ _ _ _ h⟩
  ·split at h
   ·cases h
   ·rename_i g hg
    obtain ⟨q1,q2,q3⟩:=hC.fn f g hg
    split at h
    ·cases h
    ·rename_i c hbody
     refine ⟨⟨g,q1,by rw [hbody];rfl,q2⟩,?_⟩
     cases hlen:Nat.blt vs.length TMax with
     | false=>rw [hlen] at h;cases h
     | true =>
      rw [hlen,cond_true] at h
      have hlen:vs.length < TMax:=by simpa [Nat.blt_eq] using hlen
      have fin:∀ (x:Ex) (p:T SV × St X),(x=.normal∨x=.ret)→codeF C.P C.val C.bit (callF C plan K n) (plan f) g.ntmps K c (initT vs 0 .e) st=some (x,p)→resS C.P p.2.m p.1 g.results=some v→st'=p.2→CallsR C.P C.L C.good f vs st v st':=fun x p hx hcode hres hst hgood=>by
       subst hst
       obtain ⟨g1,g2⟩:=codeF_ok hC.val hC.mixed hc hC.bit K c _ _ _ _ (q3 c hbody) hcode hgood
       refine ⟨g1,fun e w F us hR hvs=>calls_of_wp q1 hbody (g2 e w F _ _ hR ?_ ?_ fun a' w' e' F' h1 h2 h3 h4 h5=>?_).wp⟩
       ·refine initT_ok hvs (fun t v hv=>by simp at hv) (by omega) fun j u hj=>?_
        have hj2:=(List.getElem?_eq_some_iff.1 hj).1
        rw [Array.getElem?_append_left (by simp;omega)]
        simpa using hj
       ·simp;omega
       ·obtain ⟨u,k1,k2⟩:=resS_ok h4 h1 hres
        rcases hx with rfl | rfl
        ·exact ⟨h3,u,k1,u,e',F',rfl,k2,h4,h5⟩
        ·exact ⟨h3,u,k1,u,e',F',rfl,k2,h4,h5⟩
      split at h
      ·rename_i p hcode
       split at h
       ·rename_i v' hres
        cases h
        exact fin _ p (.inl rfl) hcode hres rfl
       ·cases h
      ·rename_i p hcode
       split at h
       ·rename_i v' hres
        cases h
        exact fin _ p (.inr rfl) hcode hres rfl
       ·cases h
      ·cases h
end
end
end Go.Proofs.YtbbokgpklihkoaaGreatDoor.W.E
namespace Go.Proofs.YtbbokgpklihkoaaGreatDoor.W
section
open Go.RowKit
abbrev Prow:=V × V × Bool
def pcs (p:Prow):List Value:=[.int .i64 p.1.k,.int .i64 p.1.n,.string (bs p.1.s),.int .i64 p.2.1.k,.int .i64 p.2.1.n,.string (bs p.2.1.s),.bool p.2.2]
def pos:List Prow→V→Option Nat
 | [],_=>none
 | (k',x,g) :: t,k=>if g=false∧k'=k then some 0 else (pos t k).map (· + 1)
def live:List Prow→Row
 | []=>[]
 | (k,x,g) :: t=>if g=false then (k,x) :: live t else live t
structure DictIs (w:World) (db mb:Nat) (sl:Value) (rows:List Prow) (d:Row):Prop where
 blk:w.heap[db]?=some (.cells #[.map (some mb),sl] 225 (0,0))
 map:∃ es c at_,w.heap[mb]?=some (.map es c)∧Ents V.agg (fun i:Nat=>Value.int .i64 i) es.toList at_∧(at_.map (·.1)).Nodup∧at_.length=d.length∧∀ k,get at_ k=pos rows k
 own:w.ownsRow 0 301 7 sl rows.length (rows.flatMap pcs)
 live:live rows=d
 nd:(d.map (·.1)).Nodup
 few:rows.length≤8201∧d.length≤4096
theorem pos_some {rows:List Prow} {k:V} {i:Nat} (h:pos rows k=some i):∃ x,rows[i]?=some (k,x,false)∧get (live rows) k=some x∧i < rows.length:=by
 induction rows generalizing i with
 | nil=>simp [pos] at h
 | cons p t ih =>
  obtain ⟨k',x,g⟩:=p
  by_cases hk:g=false∧k'=k
  ·rw [pos,if_pos hk] at h
   cases h
   obtain ⟨rfl,rfl⟩:=hk
   exact ⟨x,rfl,by simp [live,get],by simp⟩
  ·rw [pos,if_neg hk] at h
   cases hp:pos t k with
   | none=>rw [hp] at h;cases h
   | some j =>
    rw [hp] at h
    cases h
    obtain ⟨x',h1,h2,h3⟩:=ih hp
    refine ⟨x',by simpa using h1,?_,by simpa using h3⟩
    by_cases hg:g=false
    ·have:¬ k'=k:=fun e=>hk ⟨hg,e⟩
     simp [live,hg,get,this,h2]
    ·simp [live,hg,h2]
theorem pos_none {rows:List Prow} {k:V} (h:pos rows k=none):get (live rows) k=none:=by
 induction rows with
 | nil=>rfl
 | cons p t ih =>
  obtain ⟨k',x,g⟩:=p
  by_cases hk:g=false∧k'=k
  ·rw [pos,if_pos hk] at h
   cases h
  ·rw [pos,if_neg hk] at h
   have hp:pos t k=none:=by
    cases hp:pos t k with
    | none=>rfl
    | some j=>rw [hp] at h;cases h
   by_cases hg:g=false
   ·have:¬ k'=k:=fun e=>hk ⟨hg,e⟩
    simp [live,hg,get,this,ih hp]
   ·simp [live,hg,ih hp]
theorem pcs_at {rows:List Prow} {i t:Nat} (ht:t < 7) {p:Prow} (h:rows[i]?=some p):(rows.flatMap pcs)[i * 7 + t]?=(pcs p)[t]?:=by
 induction rows generalizing i with
 | nil=>simp at h
 | cons q r ih =>
  rw [List.flatMap_cons]
  cases i with
  | zero =>
   simp at h
   subst h
   rw [List.getElem?_append_left (by simp [pcs];omega)]
   simp
  | succ i =>
   simp at h
   rw [List.getElem?_append_right (by simp [pcs];omega),← ih h]
   congr 1
   simp [pcs];omega
theorem DictIs.pair {w:World} {db mb:Nat} {sl:Value} {rows:List Prow} {d:Row} (h:DictIs w db mb sl rows d) {i:Nat} {p:Prow} (hi:rows[i]?=some p) :
  ∃ rb c,sl=.slice (some ⟨rb,0,none⟩) rows.length c∧rb < w.heap.size∧∀ t,t < 7→w.cell? ⟨rb,i * 7 + t,none⟩=(pcs p)[t]?:=by
 have ho:=h.own
 have hlt:i < rows.length:=(List.getElem?_eq_some_iff.1 hi).1
 rcases ho.2 with ⟨-,h0⟩ | ⟨g,cap,cur,hs,-,hg,-⟩
 ·omega
 ·refine ⟨g,cap,hs,(zN hg).1,fun t ht=>?_⟩
  rw [hs] at ho
  rw [ho.cellAt _ (by omega),pcs_at ht hi]
theorem DictIs.head {w:World} {db mb:Nat} {sl:Value} {rows:List Prow} {d:Row} (h:DictIs w db mb sl rows d) :
  w.cell? ⟨db,0,none⟩=some (.map (some mb))∧w.cell? ⟨db,1,none⟩=some sl∧w.frozen? ⟨db,0,none⟩=false∧w.frozen? ⟨db,1,none⟩=false∧db < w.heap.size∧mb < w.heap.size:=by
 obtain ⟨es,c,at_,hm,-⟩:=h.map
 exact ⟨by rw [cell_of h.blk];rfl,by rw [cell_of h.blk];rfl,by simp [World.frozen?,h.blk],by simp [World.frozen?,h.blk],(zN h.blk).1,(zN hm).1⟩
theorem zeroInt (w:World):(zeroValue 3).run Tryz.prog w=.ok (.int .i64 0) w:=by kernel_rfl
set_option maxHeartbeats 1000000 in
theorem dget_no (w:World) (db mb:Nat) (sl:Value) (rows:List Prow) (d:Row) (hd:DictIs w db mb sl rows d) (k:V) (h:get d k=none) :
  Calls Tryz.prog 222 #[.pointer (some ⟨db,0,none⟩),k.agg] w fun e w'=>e=.returned (.tuple #[V.nil.agg,.bool false])∧Bl w w':=by
 obtain ⟨f1,f2,-,-,f3,f4⟩:=hd.head
 obtain ⟨es,c,at_,hm,he,-,-,hp⟩:=hd.map
 have hpn:get at_ k=none:=by
  rw [hp]
  cases hq:pos rows k with
  | none=>rfl
  | some i =>
   obtain ⟨x,-,h2,-⟩:=pos_some hq
   rw [hd.live,h] at h2
   cases h2
 have lk:∀ n,(Instr.lookup 222 (.map (some mb)) k.agg true).run Tryz.prog (((w.alloc (.cells k.ca 23)).alloc (.cells V.nil.ca 23)).drewN n)=.ok (.tuple #[.int .i64 0,.bool false]) (((w.alloc (.cells k.ca 23)).alloc (.cells V.nil.ca 23)).drewN n):=by
  intro n
  rw [run_look (ek:=V.agg) (ev:=fun i:Nat=>Value.int .i64 i) (l:=at_) (by kernel_rfl) key_V zeroInt (c:=c) (es:=es) ?_ he k true,hpn]
  ·rfl
  ·show ((w.alloc _).alloc _).heap[mb]?=_
   rw [Below.heap_alloc _ _ _ (by rw [zL];omega),Below.heap_alloc _ _ _ f4,hm]
 clear hm he hp hpn hd h
 go_enter Tryz.func222,Tryz.ntmps222
 go_wp2
 go_quiet (fail)
 go_wp2
 refine bodyPost_ret (v:=.tuple #[V.nil.agg,.bool false]) (by simp [results,Tryz.results222,go_sem]) rfl ⟨rfl,?_⟩
 (repeat (first | exact qA _ | assumption | refine qB ?_ _ | refine qC ?_ | refine qD ?_ _ | refine qE ?_ _ (by simp<;>omega) _))
set_option maxHeartbeats 1000000 in
theorem dget_yes (w:World) (db mb:Nat) (sl:Value) (rows:List Prow) (d:Row) (hd:DictIs w db mb sl rows d) (k x:V) (h:get d k=some x) :
  Calls Tryz.prog 222 #[.pointer (some ⟨db,0,none⟩),k.agg] w fun e w'=>e=.returned (.tuple #[x.agg,.bool true])∧Bl w w':=by
 obtain ⟨f1,f2,-,-,f3,f4⟩:=hd.head
 obtain ⟨es,c,at_,hm,he,-,-,hp⟩:=hd.map
 obtain ⟨i,hpi,hri⟩:∃ i,get at_ k=some i∧rows[i]?=some (k,x,false):=by
  rw [hp]
  cases hq:pos rows k with
  | none =>
   have:=pos_none hq
   rw [hd.live,h] at this
   cases this
  | some i =>
   obtain ⟨x',h1,h2,-⟩:=pos_some hq
   rw [hd.live,h] at h2
   cases h2
   exact ⟨i,rfl,h1⟩
 have lk:∀ n,(Instr.lookup 222 (.map (some mb)) k.agg true).run Tryz.prog (((w.alloc (.cells k.ca 23)).alloc (.cells V.nil.ca 23)).drewN n)=.ok (.tuple #[.int .i64 i,.bool true]) (((w.alloc (.cells k.ca 23)).alloc (.cells V.nil.ca 23)).drewN n):=by
  intro n
  rw [run_look (ek:=V.agg) (ev:=fun i:Nat=>Value.int .i64 i) (l:=at_) (by kernel_rfl) key_V zeroInt (c:=c) (es:=es) ?_ he k true,hpi]
  ·rfl
  ·show ((w.alloc _).alloc _).heap[mb]?=_
   rw [Below.heap_alloc _ _ _ (by rw [zL];omega),Below.heap_alloc _ _ _ f4,hm]
 obtain ⟨rb,cp,rfl,g1,g2⟩:=hd.pair hri
 have q3:w.cell? ⟨rb,i * 7 + 3,none⟩=some (.int .i64 x.k):=g2 3 (by decide)
 have q4:w.cell? ⟨rb,i * 7 + 4,none⟩=some (.int .i64 x.n):=g2 4 (by decide)
 have q5:w.cell? ⟨rb,i * 7 + 5,none⟩=some (.string (bs x.s)):=g2 5 (by decide)
 have hlt:i < rows.length:=(List.getElem?_eq_some_iff.1 hri).1
 have hfew:=hd.few.1
 clear hm he hp hpi hd h g2 hri
 go_enter Tryz.func222,Tryz.ntmps222
 go_wp2
 go_quiet (fail)
 go_wp2
 refine bodyPost_ret (v:=.tuple #[x.agg,.bool true]) (by simp [results,Tryz.results222,go_sem]) rfl ⟨rfl,?_⟩
 (repeat (first | exact qA _ | assumption | refine qB ?_ _ | refine qC ?_ | refine qD ?_ _ | refine qE ?_ _ (by simp<;>omega) _))
theorem dget_any (w:World) (db mb:Nat) (sl:Value) (rows:List Prow) (d:Row) (hd:DictIs w db mb sl rows d) (k:V) :
  Calls Tryz.prog 222 #[.pointer (some ⟨db,0,none⟩),k.agg] w fun e w'=>e=.returned (.tuple #[((get d k).getD V.nil).agg,.bool (get d k).isSome])∧Bl w w':=by
 cases h:get d k with
 | none=>exact dget_no w db mb sl rows d hd k h
 | some x=>exact dget_yes w db mb sl rows d hd k x h
end
section
open Go.RowKit
theorem ret_bool {a b:Bool} (h:a=b):Ending.returned (.bool a)=.returned (.bool b):=by rw [h]
theorem dict_new (w:World):Calls Tryz.prog 102 #[] w fun e w'=>e=.returned (.pointer (some ⟨w.heap.size + 1,0,none⟩))∧w'=(w.alloc (.map #[] 0)).alloc (.cells #[.map (some w.heap.size),.slice none 0 0] 225):=by
 have hmm:=@run_makeMap Tryz.prog
 go_enter Tryz.func102,Tryz.ntmps102
 go_wp2
 go_ret
 exact ⟨rfl,rfl⟩
set_option maxHeartbeats 1000000 in
theorem key_any (v:V) (w:World):Calls Tryz.prog 280 #[v.agg] w fun e w'=>e=.returned (.bool (keyB v))∧Bl w w':=by
 obtain ⟨k,n,s⟩:=v
 by_cases h0:k=0
 ·subst h0
  go_enter Tryz.func280,Tryz.ntmps280
  go_wp2
  all_goals
   go_ret
   exact ⟨ret_bool (by simp_all [keyB]),by (repeat (first | exact qA _ | assumption | refine qB ?_ _ | refine qC ?_ | refine qD ?_ _ | refine qE ?_ _ (by simp<;>omega) _))⟩
 by_cases h1:k=1
 ·subst h1
  by_cases hs:s=[]
  ·subst hs
   go_enter Tryz.func280,Tryz.ntmps280
   go_wp2
   all_goals
    go_ret
    exact ⟨ret_bool (by rw [Bool.eq_iff_iff];simp [keyB];omega),by (repeat (first | exact qA _ | assumption | refine qB ?_ _ | refine qC ?_ | refine qD ?_ _ | refine qE ?_ _ (by simp<;>omega) _))⟩
  ·have e1:s.isEmpty=false:=by simpa using hs
   go_enter Tryz.func280,Tryz.ntmps280
   go_wp2
   all_goals
    go_ret
    exact ⟨ret_bool (by simp_all [keyB]),by (repeat (first | exact qA _ | assumption | refine qB ?_ _ | refine qC ?_ | refine qD ?_ _ | refine qE ?_ _ (by simp<;>omega) _))⟩
 by_cases h2:k=2
 ·subst h2
  go_enter Tryz.func280,Tryz.ntmps280
  go_wp2
  all_goals
   go_ret
   exact ⟨ret_bool (by rw [Bool.eq_iff_iff];simp [keyB]),by (repeat (first | exact qA _ | assumption | refine qB ?_ _ | refine qC ?_ | refine qD ?_ _ | refine qE ?_ _ (by simp<;>omega) _))⟩
 by_cases h3:k=3
 ·subst h3
  go_enter Tryz.func280,Tryz.ntmps280
  go_wp2
  all_goals
   go_ret
   exact ⟨ret_bool (by rw [Bool.eq_iff_iff];simp [keyB]),by (repeat (first | exact qA _ | assumption | refine qB ?_ _ | refine qC ?_ | refine qD ?_ _ | refine qE ?_ _ (by simp<;>omega) _))⟩
 ·have g0:(k == 0)=false:=by simpa using h0
  have g1:(k == 1)=false:=by simpa using h1
  have g2:(k == 2)=false:=by simpa using h2
  have g3:(k == 3)=false:=by simpa using h3
  go_enter Tryz.func280,Tryz.ntmps280
  go_wp2
  all_goals
   go_ret
   exact ⟨ret_bool (by simp_all [keyB]),by (repeat (first | exact qA _ | assumption | refine qB ?_ _ | refine qC ?_ | refine qD ?_ _ | refine qE ?_ _ (by simp<;>omega) _))⟩
theorem run_lenMap {P:Program} {T K E:TypeId} (hT:P.underlying T=some (.map K E)) {w:World} {b c:Nat} {es:Array MapEntry} (hb:w.heap[b]?=some (.map es c)) (rt:TypeId) :
  (Builtin.len_ #[T] rt #[.map (some b)]).run P w=.ok (.int .i64 es.size) w:=by
 have e0:∀ {t:TypeId} {d:TypeDesc} (h:P.underlying t=some d) (w:World),(underlying t).run P w=.ok d w:=by
  intro t d h w;simp [underlying,go_sem,h]
 unfold Builtin.len_
 simp [go_sem,e0 hT,run_getMap hb]
end
section
open Go.RowKit
theorem DictIs.look {w:World} {db mb:Nat} {sl:Value} {rows:List Prow} {d:Row} (hd:DictIs w db mb sl rows d) (k:V) (W:World) (hW:W.heap[mb]?=w.heap[mb]?) :
  (Instr.lookup 222 (.map (some mb)) k.agg true).run Tryz.prog W=.ok (.tuple #[.int .i64 ((pos rows k).getD 0),.bool (pos rows k).isSome]) W:=by
 obtain ⟨es,c,at_,hm,he,-,-,hp⟩:=hd.map
 rw [run_look (ek:=V.agg) (ev:=fun i:Nat=>Value.int .i64 i) (l:=at_) (by kernel_rfl) key_V zeroInt (c:=c) (es:=es) (hW.trans hm) he k true,hp]
 cases pos rows k<;>rfl
def Fd (db mb:Nat) (sl:Value):Nat→Prop:=fun b=>b=db∨b=mb∨sl.ownBlock=some b
theorem pos_get {rows:List Prow} {d:Row} (h:live rows=d) (k:V):(pos rows k).isSome=(get d k).isSome:=by
 subst h
 cases hp:pos rows k with
 | none=>rw [pos_none hp];rfl
 | some i=>obtain ⟨x,-,h2,-⟩:=pos_some hp;rw [h2];rfl
theorem DictIs.bl {w w1:World} {db mb:Nat} {sl:Value} {rows:List Prow} {d:Row} (hd:DictIs w db mb sl rows d) (h:∀ b,Fd db mb sl b→w1.heap[b]?=w.heap[b]?):DictIs w1 db mb sl rows d:=by
 refine ⟨(h db (.inl rfl)).trans hd.blk,?_,?_,hd.live,hd.nd,hd.few⟩
 ·obtain ⟨es,c,at_,hm,r⟩:=hd.map
  exact ⟨es,c,at_,(h mb (.inr (.inl rfl))).trans hm,r⟩
 ·obtain ⟨h1,h2⟩:=hd.own
  refine ⟨h1,?_⟩
  rcases h2 with h2 | ⟨g,cap,cur,e,h3,h4,h5⟩
  ·exact .inl h2
  ·exact .inr ⟨g,cap,cur,e,h3,(h g (.inr (.inr (by rw [e];rfl)))).trans h4,h5⟩
theorem DictIs.lt {w:World} {db mb:Nat} {sl:Value} {rows:List Prow} {d:Row} (hd:DictIs w db mb sl rows d):∀ b,Fd db mb sl b→b < w.heap.size:=by
 rintro b (rfl | rfl | hb)
 ·exact hd.head.2.2.2.2.1
 ·exact hd.head.2.2.2.2.2
 ·exact (hd.own.lt b hb).2
def DStep (w:World) (db mb:Nat) (sl:Value) (d':Row) (w':World):Prop:=∃ sl' rows',DictIs w' db mb sl' rows' d'∧Step w.heap.size (Fd db mb sl) w w' (Fd db mb sl')
theorem DStep.of_bl {w w1:World} {db mb:Nat} {sl:Value} {rows:List Prow} {d:Row} (hd:DictIs w db mb sl rows d) (h:Bl w w1):DStep w db mb sl d w1 :=
 ⟨sl,rows,hd.bl (fun b hb=>h.at (hd.lt b hb)),Step.of_bl h hd.lt⟩
end
section
section
variable {α β:Type} [DecidableEq α]
theorem get_put (l:List (α × β)) (a b:α) (x:β):get (put l a x) b=if a=b then some x else get l b:=by
 induction l with
 | nil=>rfl
 | cons p t ih =>
  obtain ⟨k,v⟩:=p
  by_cases h:k=a
  ·subst h;by_cases hb:k=b<;>simp [put,get,hb]
  ·by_cases hb:k=b
   ·subst hb;simp [put,get,h,Ne.symm h]
   ·simp [put,get,h,hb,ih]
theorem mem_keys (l:List (α × β)) (a:α):a∈l.map (·.1)↔(get l a).isSome=true:=by
 induction l with
 | nil=>simp [get]
 | cons p t ih =>
  obtain ⟨k,v⟩:=p
  by_cases h:k=a
  ·simp [get,h]
  ·simp only [List.map_cons,List.mem_cons,get,if_neg h,ih]
   constructor
   ·rintro (e | e)
    ·exact absurd e.symm h
    ·exact e
   ·exact .inr
theorem keys_put (l:List (α × β)) (a:α) (x:β):(put l a x).map (·.1)=if (get l a).isSome then l.map (·.1) else l.map (·.1)++[a]:=by
 induction l with
 | nil=>rfl
 | cons p t ih =>
  obtain ⟨k,v⟩:=p
  by_cases h:k=a
  ·subst h;simp [put,get]
  ·simp only [put,get,if_neg h,List.map_cons,ih]
   split<;>rfl
theorem nodup_put {l:List (α × β)} (h:(l.map (·.1)).Nodup) (a:α) (x:β):((put l a x).map (·.1)).Nodup:=by
 rw [keys_put]
 split
 ·exact h
 ·rename_i hn
  rw [List.nodup_append]
  refine ⟨h,by simp,fun b hb c hc=>?_⟩
  simp only [List.mem_singleton] at hc
  subst hc
  rintro rfl
  exact hn ((mem_keys l b).1 hb)
theorem keys_del (l:List (α × β)) (a:α):(del l a).map (·.1)=(l.map (·.1)).erase a:=by
 induction l with
 | nil=>rfl
 | cons p t ih =>
  obtain ⟨k,v⟩:=p
  by_cases h:k=a
  ·subst h;simp [del]
  ·simp [del,h,ih]
theorem nodup_del {l:List (α × β)} (h:(l.map (·.1)).Nodup) (a:α):((del l a).map (·.1)).Nodup:=by
 rw [keys_del];exact h.erase a
theorem get_del {l:List (α × β)} (h:(l.map (·.1)).Nodup) (a b:α):get (del l a) b=if a=b then none else get l b:=by
 induction l with
 | nil=>simp [del,get]
 | cons p t ih =>
  obtain ⟨k,v⟩:=p
  simp only [List.map_cons,List.nodup_cons] at h
  by_cases hk:k=a
  ·subst hk
   simp only [del,if_true]
   by_cases hb:k=b
   ·subst hb
    rw [if_pos rfl]
    have:=mt (mem_keys t k).2 h.1
    cases hg:get t k with
    | none=>rfl
    | some v=>rw [hg] at this;simp at this
   ·simp [get,hb]
  ·simp only [del,if_neg hk,get]
   by_cases hb:k=b
   ·subst hb;simp [Ne.symm hk]
   ·simp [hb,ih h.2]
theorem length_del {l:List (α × β)} {a:α} (h:(get l a).isSome=true):(del l a).length + 1=l.length:=by
 induction l with
 | nil=>simp [get] at h
 | cons p t ih =>
  obtain ⟨k,v⟩:=p
  by_cases hk:k=a
  ·simp [del,hk]
  ·simp only [get,if_neg hk] at h
   simp [del,hk,ih h]
theorem length_put (l:List (α × β)) (a:α) (x:β):(put l a x).length=if (get l a).isSome then l.length else l.length + 1:=by
 have:=congrArg List.length (keys_put l a x)
 simp only [List.length_map] at this
 rw [this]
 split<;>simp
end
end
section
open Go.RowKit
abbrev gone:Prow:=(V.nil,V.nil,true)
theorem mem_live {rows:List Prow} {k:V} (h:(pos rows k).isSome=true):k∈(live rows).map (·.1):=by
 rw [mem_keys,← pos_get rfl k];exact h
theorem pos_isNone {rows:List Prow} {k:V} (h:k ∉ (live rows).map (·.1)):pos rows k=none:=by
 cases hp:pos rows k with
 | none=>rfl
 | some i=>exact absurd (mem_live (by rw [hp];rfl)) h
theorem set_row {rows:List Prow} {k x0 x:V} {i:Nat} (h:pos rows k=some i) :
  live (rows.set i (k,x,false))=put (live rows) k x∧∀ k',pos (rows.set i (k,x,false)) k'=pos rows k':=by
 induction rows generalizing i with
 | nil=>simp [pos] at h
 | cons p t ih =>
  obtain ⟨k0,y,g⟩:=p
  by_cases hk:g=false∧k0=k
  ·obtain ⟨rfl,rfl⟩:=hk
   rw [pos,if_pos ⟨rfl,rfl⟩] at h
   cases h
   exact ⟨by simp [live,put],fun k'=>by simp [pos]⟩
  ·rw [pos,if_neg hk] at h
   cases hp:pos t k with
   | none=>rw [hp] at h;cases h
   | some j =>
    rw [hp] at h
    cases h
    obtain ⟨h1,h2⟩:=ih hp
    by_cases hg:g=false
    ·subst hg
     have hne:¬ k0=k:=fun e=>hk ⟨rfl,e⟩
     exact ⟨by simp [live,put,hne,h1],fun k'=>by simp [pos,h2]⟩
    ·have hg':g=true:=by simpa using hg
     subst hg'
     exact ⟨by simp [live,h1],fun k'=>by simp [pos,h2]⟩
theorem new_row {rows:List Prow} {k x:V} (h:pos rows k=none) :
  live (rows++[(k,x,false)])=put (live rows) k x∧∀ k',pos (rows++[(k,x,false)]) k'=if k=k' then some rows.length else pos rows k':=by
 induction rows with
 | nil=>exact ⟨by simp [live,put],fun k'=>by by_cases e:k=k'<;>simp [pos,e]⟩
 | cons p t ih =>
  obtain ⟨k0,y,g⟩:=p
  by_cases hk:g=false∧k0=k
  ·rw [pos,if_pos hk] at h;cases h
  ·rw [pos,if_neg hk] at h
   have hp:pos t k=none:=by
    cases hp:pos t k with
    | none=>rfl
    | some j=>rw [hp] at h;cases h
   obtain ⟨h1,h2⟩:=ih hp
   by_cases hg:g=false
   ·subst hg
    have hne:¬ k0=k:=fun e=>hk ⟨rfl,e⟩
    refine ⟨by simp [live,put,hne,h1],fun k'=>?_⟩
    simp only [List.cons_append,pos,true_and,h2]
    by_cases hk':k0=k'
    ·subst hk';simp [Ne.symm hne]
    ·by_cases he:k=k'<;>simp [hk',he]
   ·have hg':g=true:=by simpa using hg
    subst hg'
    refine ⟨by simp [live,h1],fun k'=>?_⟩
    simp only [List.cons_append,pos,Bool.true_eq_false,false_and,if_false,h2]
    by_cases he:k=k'<;>simp [he]
def packed (rows:List Prow):List Prow:=rows.filter fun p=>!p.2.2
theorem live_packed (rows:List Prow):live (packed rows)=live rows:=by
 induction rows with
 | nil=>rfl
 | cons p t ih =>
  obtain ⟨k0,y,g⟩:=p
  cases g
  ·simp [packed,live] at ih ⊢;exact ih
  ·simp [packed,live] at ih ⊢;exact ih
theorem packed_length (rows:List Prow):(packed rows).length=(live rows).length:=by
 induction rows with
 | nil=>rfl
 | cons p t ih =>
  obtain ⟨k0,y,g⟩:=p
  cases g
  ·simp [packed,live] at ih ⊢;exact ih
  ·simp [packed,live] at ih ⊢;exact ih
theorem pcs_length (p:Prow):(pcs p).length=7:=rfl
theorem flat_length (rows:List Prow):(rows.flatMap pcs).length=rows.length * 7:=by
 induction rows with
 | nil=>rfl
 | cons p t ih=>rw [List.flatMap_cons,List.length_append,ih,pcs_length,List.length_cons];omega
def over (xs:List Value) (j:Nat):List Value→List Value
 | []=>xs
 | v :: t=>over (xs.set j v) (j + 1) t
def setCells (w:World) (b j:Nat):List Value→World
 | []=>w
 | v :: t=>setCells (w.setCell ⟨b,j,none⟩ v) b (j + 1) t
theorem over_get (xs l:List Value) (j i:Nat) (h:j + l.length≤xs.length):(over xs j l)[i]?=if j≤i∧i < j + l.length then l[i - j]? else xs[i]?:=by
 induction l generalizing xs j with
 | nil=>simp [over];intro h1 h2;omega
 | cons v t ih =>
  simp only [List.length_cons] at h
  rw [over,ih _ _ (by simp;omega)]
  by_cases h1:j + 1≤i∧i < j + 1 + t.length
  ·rw [if_pos h1,if_pos (by simp;omega),show i - j=(i - (j + 1)) + 1 by omega,List.getElem?_cons_succ]
  ·rw [if_neg h1,List.getElem?_set]
   by_cases h2:j=i
   ·subst h2
    rw [if_pos rfl,if_pos (by omega),if_pos (by simp)]
    simp
   ·rw [if_neg h2,if_neg (by simp;omega)]
theorem over_row {rows:List Prow} {i:Nat} (hi:i < rows.length) (p:Prow):over (rows.flatMap pcs) (i * 7) (pcs p)=(rows.set i p).flatMap pcs:=by
 apply List.ext_getElem?
 intro m
 rw [over_get _ _ _ _ (by rw [pcs_length,flat_length];omega),pcs_length]
 have hm:m=(m / 7) * 7 + m % 7:=by omega
 by_cases hlt:m / 7 < rows.length
 ·have h1:rows[m / 7]?=some rows[m / 7]:=List.getElem?_eq_getElem hlt
  by_cases e:m / 7=i
  ·rw [if_pos (by omega)]
   have h2:(rows.set i p)[m / 7]?=some p:=by rw [e,List.getElem?_set_self hi]
   rw [show m - i * 7=m % 7 by omega]
   conv=>rhs;rw [hm]
   rw [pcs_at (by omega) h2]
  ·rw [if_neg (by omega)]
   have h2:(rows.set i p)[m / 7]?=some rows[m / 7]:=by rw [List.getElem?_set_ne (Ne.symm e),h1]
   conv=>lhs;rw [hm]
   conv=>rhs;rw [hm]
   rw [pcs_at (by omega) h1,pcs_at (by omega) h2]
 ·rw [if_neg (by omega),List.getElem?_eq_none (by rw [flat_length];omega),List.getElem?_eq_none (by rw [flat_length,List.length_set];omega)]
theorem setCells_other (l:List Value):∀ (w:World) (b j k:Nat),k≠b→(setCells w b j l).heap[k]?=w.heap[k]?:=by
 induction l with
 | nil=>intro w b j k h;rfl
 | cons v t ih=>intro w b j k h;rw [setCells,ih _ _ _ _ h];exact Below.heap_setCell _ _ _ _ h
theorem setCells_size (l:List Value):∀ (w:World) (b j:Nat),(setCells w b j l).heap.size=w.heap.size:=by
 induction l with
 | nil=>intro w b j;rfl
 | cons v t ih=>intro w b j;rw [setCells,ih,World.size_setCell]
theorem setCells_rest (l:List Value):∀ (w:World) (b j:Nat),(setCells w b j l).os=w.os∧(setCells w b j l).tape=w.tape∧(setCells w b j l).output=w.output:=by
 induction l with
 | nil=>intro w b j;exact ⟨rfl,rfl,rfl⟩
 | cons v t ih=>intro w b j;exact ih _ _ _
theorem setCells_row (l:List Value):∀ (w:World) (e size g n cap j:Nat) (xs:List Value),w.ownsRow 0 e size (.slice (some ⟨g,0,none⟩) n cap) n xs→(setCells w g j l).ownsRow 0 e size (.slice (some ⟨g,0,none⟩) n cap) n (over xs j l):=by
 induction l with
 | nil=>intro w e size g n cap j xs h;exact h
 | cons v t ih=>intro w e size g n cap j xs h;exact ih _ _ _ _ _ _ _ _ (h.stored j v).1
end
section
open Go.RowKit
end
section
open Go.RowKit
theorem set3_row {rows:List Prow} {i:Nat} {k x y:V} {g:Bool} (hi:rows[i]?=some (k,y,g)) :
  over (rows.flatMap pcs) (i * 7 + 3) x.cs=(rows.set i (k,x,g)).flatMap pcs:=by
 have hlt:i < rows.length:=(List.getElem?_eq_some_iff.1 hi).1
 apply List.ext_getElem?
 intro m
 rw [← over_row hlt,over_get _ _ _ _ (by rw [flat_length];simp [V.cs];omega),over_get _ _ _ _ (by rw [pcs_length,flat_length];omega),pcs_length]
 by_cases h1:i * 7≤m∧m < i * 7 + 7
 ·rw [if_pos h1]
  obtain ⟨t,rfl⟩:∃ t,m=i * 7 + t:=⟨m - i * 7,by omega⟩
  have ht:t < 7:=by omega
  rw [pcs_at ht hi]
  simp only [V.cs,List.length_cons,List.length_nil,Nat.add_sub_cancel_left]
  match t,ht with
  | 0,_=>rw [if_neg (by omega)];rfl
  | 1,_=>rw [if_neg (by omega)];rfl
  | 2,_=>rw [if_neg (by omega)];rfl
  | 3,_=>rw [if_pos (by omega)];simp [pcs]
  | 4,_=>rw [if_pos (by omega),show i * 7 + 4 - (i * 7 + 3)=1 by omega];simp [pcs]
  | 5,_=>rw [if_pos (by omega),show i * 7 + 5 - (i * 7 + 3)=2 by omega];simp [pcs]
  | 6,_=>rw [if_neg (by omega)];rfl
 ·rw [if_neg h1,if_neg (by simp [V.cs];omega)]
theorem DictIs.ne {w:World} {db mb:Nat} {sl:Value} {rows:List Prow} {d:Row} (hd:DictIs w db mb sl rows d):db≠mb∧sl.ownBlock≠some db∧sl.ownBlock≠some mb:=by
 obtain ⟨es,c,at_,hm,-⟩:=hd.map
 refine ⟨?_,?_,?_⟩
 ·rintro rfl;rw [hd.blk] at hm;cases hm
 ·intro h
  rcases hd.own.2 with ⟨rfl,-⟩ | ⟨g,cap,cur,rfl,-,hg,-⟩
  ·cases h
  ·cases h;rw [hd.blk] at hg;cases hg
 ·intro h
  rcases hd.own.2 with ⟨rfl,-⟩ | ⟨g,cap,cur,rfl,-,hg,-⟩
  ·cases h
  ·cases h;rw [hm] at hg;cases hg
theorem DStep.set {w W:World} {db mb rb cp:Nat} {rows:List Prow} {d:Row} {k y x:V} {i:Nat} (hd:DictIs w db mb (.slice (some ⟨rb,0,none⟩) rows.length cp) rows d) (hp:pos rows k=some i) (hi:rows[i]?=some (k,y,false)) (hb:Bl w W) :
  DStep w db mb (.slice (some ⟨rb,0,none⟩) rows.length cp) (put d k x) ((setCells W rb (i * 7 + 3) x.cs).drew):=by
 have hl:=hd.lt
 have hW:DictIs W db mb (.slice (some ⟨rb,0,none⟩) rows.length cp) rows d:=hd.bl fun b h=>hb.at (hl b h)
 obtain ⟨n1,n2,n3⟩:=hW.ne
 obtain ⟨s1,s2⟩:=set_row (x0:=y) (x:=x) hp
 obtain ⟨es,c,at_,hm,he,hn,hlen,hpos⟩:=hW.map
 have hoth:∀ b,b≠rb→(setCells W rb (i * 7 + 3) x.cs).drew.heap[b]?=W.heap[b]?:=fun b h=>setCells_other _ _ _ _ _ h
 have hget:(get d k).isSome=true:=by rw [← pos_get hd.live,hp];rfl
 refine ⟨.slice (some ⟨rb,0,none⟩) rows.length cp,rows.set i (k,x,false),⟨?_,⟨es,c,at_,?_,he,hn,?_,?_⟩,?_,?_,nodup_put hd.nd _ _,?_⟩,?_⟩
 ·rw [hoth _ (fun e=>n2 (by rw [e];rfl))];exact hW.blk
 ·rw [hoth _ (fun e=>n3 (by rw [e];rfl))];exact hm
 ·rw [length_put,if_pos hget];exact hlen
 ·intro k';rw [hpos,s2]
 ·rw [List.length_set,← set3_row hi]
  exact setCells_row _ _ _ _ _ _ _ _ _ hW.own
 ·rw [s1,hd.live]
 ·rw [List.length_set,length_put,if_pos hget];exact hd.few
 ·obtain ⟨r1,r2,r3⟩:=setCells_rest x.cs W rb (i * 7 + 3)
  exact ⟨r1.trans hb.os,r2.trans hb.tape,r3.trans hb.output,by show w.heap.size≤(setCells W rb (i * 7 + 3) x.cs).heap.size;rw [setCells_size];exact hb.sz,
   fun b h1 h2=>(hoth b (fun e=>h2 (.inr (.inr (by rw [e];rfl))))).trans (hb.at h1),fun _ h=>.inl h,
   fun b h=>by show b < (setCells W rb (i * 7 + 3) x.cs).heap.size;rw [setCells_size];exact Nat.lt_of_lt_of_le (hl b h) hb.sz⟩
set_option maxHeartbeats 2000000 in
theorem dput_set (w:World) (db mb:Nat) (sl:Value) (rows:List Prow) (d:Row) (hd:DictIs w db mb sl rows d) (k x:V) (h:(get d k).isSome=true) :
  Calls Tryz.prog 234 #[.pointer (some ⟨db,0,none⟩),k.agg,x.agg] w fun e w'=>e=.returned (.bool true)∧DStep w db mb sl (put d k x) w':=by
 obtain ⟨f1,f2,-,-,f3,f4⟩:=hd.head
 obtain ⟨i,hpi⟩:∃ i,pos rows k=some i:=by
  have:=pos_get hd.live k
  rw [h] at this
  exact Option.isSome_iff_exists.1 this
 have lk:∀ n,(Instr.lookup 222 (.map (some mb)) k.agg true).run Tryz.prog (((w.alloc (.cells k.ca 23)).alloc (.cells x.ca 23)).drewN n)=.ok (.tuple #[.int .i64 i,.bool true]) (((w.alloc (.cells k.ca 23)).alloc (.cells x.ca 23)).drewN n):=by
  intro n
  rw [hd.look k _ (show (((w.alloc _).alloc _).drewN n).heap[mb]?=_ from (Below.heap_alloc _ _ _ (by rw [zL];omega)).trans (Below.heap_alloc _ _ _ f4)),hpi]
  rfl
 obtain ⟨y,hri,-,hlt⟩:=pos_some hpi
 obtain ⟨rb,cp,rfl,g1,g2⟩:=hd.pair hri
 have hfz:∀ o,w.frozen? ⟨rb,o,none⟩=false:=fun o=>hd.own.frozenAt o
 have hfew:=hd.few.1
 have HD:=zH hd
 have HI:=zH hpi
 have HRI:=zH hri
 have HC:=zH g2
 clear hd h g2 hri hpi
 go_enter Tryz.func234,Tryz.ntmps234
 go_wp2
 go_quiet (fail)
 go_wp2
 refine named (p:=fun W=>Code.wp _ _ _ _ W) (fun W hW=>?_)
 have hold:∀ b,b < w.heap.size→W.heap[b]?=w.heap[b]?:=fun b hb=>by
  rw [hW];exact (Below.heap_alloc _ _ _ (by rw [zL];omega)).trans (Below.heap_alloc _ _ _ hb)
 have c1:W.cell? ⟨db,1,none⟩=some (.slice (some ⟨rb,0,none⟩) rows.length cp):=(World.cell?_of_block (w:=w) (a:=⟨db,1,none⟩) (hold db f3)).trans f2
 have q:∀ t,t < 7→W.cell? ⟨rb,i * 7 + t,none⟩=(pcs (k,y,false))[t]?:=fun t ht=>(World.cell?_of_block (w:=w) (a:=⟨rb,i * 7 + t,none⟩) (hold rb g1)).trans (HC.out t ht)
 have q3:W.cell? ⟨rb,i * 7 + 3,none⟩=some (.int .i64 y.k):=q 3 (by decide)
 have q4:W.cell? ⟨rb,i * 7 + 4,none⟩=some (.int .i64 y.n):=q 4 (by decide)
 have q5:W.cell? ⟨rb,i * 7 + 5,none⟩=some (.string (bs y.s)):=q 5 (by decide)
 have fz:∀ o,W.frozen? ⟨rb,o,none⟩=false:=fun o=>(World.frozen?_of_block (w:=w) (a:=⟨rb,o,none⟩) (hold rb g1)).trans (hfz o)
 have hnew:W.heap[w.heap.size + 1]?=some (.cells x.ca 23):=by
  rw [hW]
  have:=(MapKept.heap_alloc (w.alloc (.cells k.ca 23)) (.cells x.ca 23)).1
  rw [zL] at this
  exact this
 have x0:W.cell? ⟨w.heap.size + 1,0,none⟩=some (.int .i64 x.k):=by rw [cell_of hnew];rfl
 have x1:W.cell? ⟨w.heap.size + 1,1,none⟩=some (.int .i64 x.n):=by rw [cell_of hnew];rfl
 have x2:W.cell? ⟨w.heap.size + 1,2,none⟩=some (.string (bs x.s)):=by rw [cell_of hnew];rfl
 have hb:Bl w W:=by rw [hW];(repeat (first | exact qA _ | assumption | refine qB ?_ _ | refine qC ?_ | refine qD ?_ _ | refine qE ?_ _ (by simp<;>omega) _))
 have HB:=zH hb
 clear hW hold q hnew lk f1 f2 hfz hb
 go_region
 all_goals
  go_wp2
  go_ret
  exact ⟨rfl,DStep.set HD.out HI.out HRI.out HB.out⟩
end
end Go.Proofs.YtbbokgpklihkoaaGreatDoor.W
