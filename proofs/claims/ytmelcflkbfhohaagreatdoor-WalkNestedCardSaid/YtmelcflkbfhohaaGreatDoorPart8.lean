/- EfY Shelf EsG RowE -/
import Derived.Test.YtmelcflkbfhohaaGreatDoorPart7
import Derived.RangeFuncRecord
import Derived.Shelf.Strings.Search1
import Derived.Shelf.Strings.Search2
import Derived.Shelf.Strings.Search3
import Derived.Shelf.Strings.Count
import Derived.Shelf.LaysM
import Derived.Shelf.Strings.Shaped
import Derived.Shelf.Strings.Split
import Derived.Shelf.Strings.Fields
import Derived.Shelf.Strings.SplitShaped
import Derived.Shelf.Unicode.Latin
import Derived.Shelf.Unicode.DecodeSlow
import Derived.Shelf.Unicode.DecodeAny
import Derived.Shelf.Unicode.Is16White
import Derived.Shelf.Unicode.IsSpaceAny
import Derived.Shelf.Unicode.Is16WhiteD
import Derived.Shelf.Unicode.IsSpaceAnyD
import Derived.Shelf.Strings.FieldsAny
import Derived.Shelf.Strings.FieldsFuncAny
import Derived.Shelf.Unicode.Is16Any
import Derived.Shelf.Unicode.Is32Any
import Derived.Shelf.Unicode.ExclAny
import Derived.Shelf.Strings.FieldsFuncGrows
import Derived.Shelf.Slices.Turned
import Derived.Test.YtmelcflkbfhohaaGreatDoorProg
import Derived.Test.YtmelcflkbfhohaaGreatDoorRows
import Derived.WalkKit
import Derived.ProofKit
import Derived.OpenShut
import Derived.ShutString
import Derived.ChangeOld
import Derived.ChangeVars
import Derived.Below
import Derived.JoinedOf
import Derived.LaidLaws
import Derived.LaidHandle
import Derived.HandedShaped
import Derived.Stop.Joined
import Derived.Stop.LaidErr
import Derived.Lib.LaidU8
set_option linter.unusedVariables false
set_option linter.unusedSimpArgs false
namespace Go.Proofs.YtmelcflkbfhohaaGreatDoor.W.E
section
open Go.RowKit
section
variable {X:Type}
abbrev RecY (X:Type):=Bool→Nat→List SV→St X→Option (SV × St X)
def yldOf (tm:T SV) (o:Op):Option (Nat × List SV):=match o with
 | .call c=>match c.callee with
  | .value f=>match evx tm f with
   | some (.yld b)=>match evxs tm c.args.toList with
    | some l=>some (b,l)
    | none=>none
   | _=>none
  | _=>none
 | _=>none
def stepY (P:Program) (val:VF X) (rec:RecY X) (tm:T SV) (st:St X) (o:Op):Option (SV × St X):=match yldOf tm o with
 | some p=>rec true p.1 p.2 st
 | none=>stepOp P val (rec false) tm st o
def seqY (P:Program) (val:VF X) (rec:RecY X) (opl:List Oper) (N:Nat):List Oper→T SV→St X→Option (T SV × St X)
 | [],tm,st=>some (tm,st)
 | o :: t,tm,st=>match wantS opl tm o with
  | none=>none
  | some false=>match putS N tm o.dst (.tup []) with
   | some tm'=>seqY P val rec opl N t tm' st
   | none=>none
  | some true=>match stepY P val rec tm st o.op with
   | some p=>match putS N tm o.dst p.1 with
    | some tm'=>seqY P val rec opl N t tm' p.2
    | none=>none
   | none=>none
structure Lp where
 pf:Nat→Option Plan
 N:Nat
 tm:T SV
 ps:List Nat
 asg:Code
 body:Code
def Lp.sb (q:Lp) (s:LoopState) (p:Option Code):SB:=.loop q.pf q.N q.tm q.ps q.asg q.body s p
def rdy (m:T SB) (b:Nat):Option Lp:=match m.get b with
 | some (.loop pf N tm ps asg body .ready none)=>some ⟨pf,N,tm,ps,asg,body⟩
 | _=>none
def bsy (m:T SB) (b:Nat):Option Lp:=match m.get b with
 | some (.loop pf N tm ps asg body .busy none)=>some ⟨pf,N,tm,ps,asg,body⟩
 | _=>none
theorem rdy_ok {m:T SB} {b:Nat} {q:Lp} (h:rdy m b=some q):m.get b=some (q.sb .ready none):=by
 unfold rdy at h
 split at h
 ·rename_i hm;cases h;exact hm
 ·cases h
theorem bsy_ok {m:T SB} {b:Nat} {q:Lp} (h:bsy m b=some q):m.get b=some (q.sb .busy none):=by
 unfold bsy at h
 split at h
 ·rename_i hm;cases h;exact hm
 ·cases h
def jumpX:Option Code→Option Ex
 | none=>some .normal
 | some .ret=>some .ret
 | some (.exit i)=>some (.exit i)
 | _=>none
def lpEnd (m:T SB) (b:Nat):Option Ex:=match m.get b with
 | some (.loop _ _ _ _ _ _ s p)=>match s with
  | .busy=>none
  | _=>jumpX p
 | _=>none
theorem lpEnd_ok {m:T SB} {b:Nat} {x:Ex} (h:lpEnd m b=some x):∃ (q:Lp) (s:LoopState) (p:Option Code),m.get b=some (q.sb s p)∧s≠.busy∧jumpX p=some x:=by
 unfold lpEnd at h
 split at h
 ·rename_i pf N tm ps asg body s p hm
  refine ⟨⟨pf,N,tm,ps,asg,body⟩,s,p,hm,?_⟩
  cases s with
  | busy=>cases h
  | ready=>exact ⟨nofun,h⟩
  | done=>exact ⟨nofun,h⟩
  | exhausted=>exact ⟨nofun,h⟩
 ·cases h
def rangeY (rec:RecY X) (pf:Nat→Option Plan) (N:Nat) (g:Operand) (ps:Array Tmp) (asg body:Code) (tm:T SV) (st:St X):ExR X:=match evx tm g with
 | some (.fn gf [] ys)=>bif Nat.blt st.nx TMax then
   match rec false gf (.yld st.nx :: ys) (st.add (Lp.sb ⟨pf,N,tm,ps.toList,asg,body⟩ .ready none)) with
   | some r=>match lpEnd r.2.m st.nx with
    | some x=>some (x,tm,r.2.less st.nx)
    | none=>none
   | none=>none
  else none
 | _=>none
def codeStepY (P:Program) (val:VF X) (bit:Bool→X→Option (Bool × X)) (rec:RecY X) (pf:Nat→Option Plan) (N:Nat) (ih:Bool→Code→T SV→St X→ExR X) (rng:Bool) (c:Code) (tm:T SV) (st:St X):ExR X:=match rng with
 | true=>match c with
  | .rangeFunc g ps asg body=>rangeY rec pf N g ps asg body tm st
  | .region id ops false=>match seqY P val rec ops.toList N ops.toList tm st with
   | some p=>some (.normal,p)
   | none=>none
  | c=>codeStep P val bit (rec false) pf N (ih true) c tm st
 | false=>codeStep P val bit (rec false) pf N (ih false) c tm st
def codeY (P:Program) (val:VF X) (bit:Bool→X→Option (Bool × X)) (rec:RecY X) (pf:Nat→Option Plan) (N:Nat) (n:Nat):Bool→Code→T SV→St X→ExR X :=
 Nat.rec (fun _ _ _ _=>none) (fun _ ih=>codeStepY P val bit rec pf N ih) n
def exJ:Ex→Option Code
 | .normal=>none
 | .exit i=>some (.exit i)
 | .ret=>some .ret
def exS:Ex→LoopState
 | .normal=>.ready
 | _=>.done
def exB:Ex→Bool
 | .normal=>true
 | _=>false
def yieldY (P:Program) (val:VF X) (bit:Bool→X→Option (Bool × X)) (rec:RecY X) (K:Nat) (b:Nat) (args:List SV) (st:St X):Option (SV × St X):=match rdy st.m b with
 | none=>none
 | some q=>bif Nat.blt b TMax && Nat.beq args.length q.ps.length then match putAll q.N q.ps args q.tm with
  | none=>none
  | some tm1=>match codeY P val bit rec q.pf q.N K false q.asg tm1 st with
   | some (.normal,p1)=>match rdy p1.2.m b with
    | none=>none
    | some q1=>match codeY P val bit rec q.pf q.N K false q.body p1.1 (p1.2.turn b [] (q1.sb .busy none)) with
     | none=>none
     | some r=>match bsy r.2.2.m b with
      | none=>none
      | some q2=>some (.bool (exB r.1),r.2.2.turn b [] (q2.sb (exS r.1) (exJ r.1)))
   | _=>none
  else none
variable {P:Program} {L:EL X} {good:X→Prop} {val:VF X}
def YldOk (P:Program) (L:EL X) (good:X→Prop) (yl:Nat→List SV→St X→Option (SV × St X)):Prop:=∀ b args st v st',yl b args st=some (v,st')→good st'.x→good st.x∧∀ e w F us c o z,Rl L e st w F→VRs e args us→e b=some (c,o,z) →
 ∀ m,YieldAt Fence.wide m P c us.toArray w fun en w'=>∃ u e' F',en=.returned u∧VR e' v u∧Rl L e' st' w' F'∧Nxt st.nx e st w F e' st' w' F'
theorem yldOf_ok {tm:T SV} {o:Op} {p:Nat × List SV} (h:yldOf tm o=some p):∃ c f,o=.call c∧c.callee=.value f∧evx tm f=some (.yld p.1)∧evxs tm c.args.toList=some p.2:=by
 unfold yldOf at h
 split at h
 ·rename_i c
  split at h
  ·rename_i f hf
   split at h
   ·rename_i b hb
    split at h
    ·rename_i l hl
     cases h
     exact ⟨c,f,rfl,hf,hb,hl⟩
    ·cases h
   ·cases h
  ·cases h
 ·cases h
theorem stepY_ok (hval:ValOk P L good val) {rec:RecY X} (hc:CallOk P L good (rec false)) (hy:YldOk P L good (rec true)) {tm:T SV} {st st':St X} {o:Oper} {v:SV} (h:stepY P val rec tm st o.op=some (v,st')) (hg:good st'.x) :
  good st.x∧∀ (hd:noDef o.op=true) e w F a n (K:Go.Act→World→Prop) (Q:Go.Exit→Go.Act→World→Prop),Rl L e st w F→AS e tm a o.op.operands.toList→(∀ u w' e' F',VR e' v u→Rl L e' st' w' F'→Nxt st.nx e st w F e' st' w' F'→K (a.put o.dst u) w')→o.wpIn (Fr none) n P a w K Q:=by
 unfold stepY at h
 split at h
 ·rename_i p hp
  obtain ⟨c,f,ho,hf,hb,hl⟩:=yldOf_ok hp
  obtain ⟨g1,g2⟩:=hy _ _ _ _ _ h hg
  refine ⟨g1,fun hd e w F a n K Q hR hs hK=>?_⟩
  have vf:=hs f (by rw [ho];simp [Op.operands,Call.operands,hf]) _ hb
  have va:=AS.list (fun x hx=>hs x (by rw [ho];simp [Op.operands,Call.operands,hf];exact .inr (by simpa using hx))) hl
  obtain ⟨cc,o1,z1,he,hq⟩:∃ cc o1 z1,e p.1=some (cc,o1,z1)∧a.eval f=.func (.yield cc) #[] #[]:=by
   generalize a.eval f=u at vf
   cases vf with
   | yld he=>exact ⟨_,_,_,he,rfl⟩
  obtain ⟨fn,tmps,asg,body,h1,h2⟩:=g2 e w F _ cc o1 z1 hR va he (n - 1)
  have hrun:(execOp a.eval o).run P w=.ok (.round cc fn tmps asg body) w:=by
   have e1:(c.args.map a.eval:Array Value)=(c.args.toList.map a.eval).toArray:=Array.toList_inj.1 (by simp)
   simp only [execOp,ho,resolve,hf,hq,Deferred.ofValue,Sem.run_bind,Sem.run_pure,Result.andThen_ok,invoke,e1,Array.empty_append]
   rw [h1]
  refine ⟨fun _ _=>trivial,?_⟩
  show o.uponIn (Fr none) n P a K Q ((o.semAt none a.eval).run P w)
  rw [Oper.semAt_eq none a.eval o (noDef_ok hd),hrun]
  refine ⟨(fun h=>by cases h),RoundIn.mono h2 fun en w' ⟨u,e',F',k1,k2,k3,k4⟩=>?_⟩
  subst k1
  exact hK u w' e' F' k2 k3 k4
 ·obtain ⟨g1,g2⟩:=stepOp_ok hval hc h hg
  exact ⟨g1,fun hd e w F a n K Q hR hs hK=>op_in hd (g2 e w F a K Q hR hs hK)⟩
theorem seqY_good (hval:ValOk P L good val) {rec:RecY X} (hc:CallOk P L good (rec false)) (hy:YldOk P L good (rec true)) {opl:List Oper} {N:Nat} {r:T SV × St X} (hg:good r.2.x):∀ {t:List Oper} {tm:T SV} {st:St X},seqY P val rec opl N t tm st=some r→good st.x
 | [],tm,st,h=>by cases h;exact hg
 | o :: t,tm,st,h=>by
  unfold seqY at h
  split at h
  ·cases h
  ·split at h
   ·exact seqY_good hval hc hy hg h
   ·cases h
  ·split at h
   ·rename_i p hp
    split at h
    ·exact (stepY_ok hval hc hy (v:=p.1) (st':=p.2) hp (seqY_good hval hc hy hg h)).1
    ·cases h
   ·cases h
theorem seqY_ok (hval:ValOk P L good val) {rec:RecY X} (hc:CallOk P L good (rec false)) (hy:YldOk P L good (rec true)) {ops:Array Oper} {N n:Nat} {r:T SV × St X} (hg:good r.2.x) {Q:Go.Exit→Go.Act→World→Prop}:∀ {t:List Oper} {tm:T SV} {st:St X} {e:Env} {w:World} {F:FootE} {a:Go.Act},(t.all fun o=>noDef o.op)=true→seqY P val rec ops.toList N t tm st=some r →
  Rl L e st w F→AR e tm a.tmps→N≤a.tmps.size→(∀ a' w' e' F',AR e' r.1 a'.tmps→N≤a'.tmps.size→a'.defers=a.defers→Rl L e' r.2 w' F'→Nxt st.nx e st w F e' r.2 w' F'→Q .normal a' w')→wpListIn (Fr none) n P ops Q t a w
 | [],tm,st,e,w,F,a,_,h,hR,ha,hN,hQ=>by cases h;exact hQ a w e F ha hN rfl hR (.refl ..)
 | o :: t,tm,st,e,w,F,a,hd,h,hR,ha,hN,hQ=>by
  simp only [List.all_cons,Bool.and_eq_true] at hd
  unfold seqY at h
  unfold wpListIn
  split at h
  ·cases h
  ·rename_i hw
   split at h
   ·rename_i tm' hput
    rw [wantS_ok hw (ha.as _)]
    simp only [Bool.false_eq_true,if_false]
    exact ⟨fun _ _=>trivial,seqY_ok hval hc hy hg hd.2 h hR (putS_ok hput ha hN (.tup .nil)) (by rw [(put_size a o.dst undef).1];exact hN) fun a' w' e' F' h1 h2 h3 h4 h5=>hQ a' w' e' F' h1 h2 (h3.trans (put_size a o.dst undef).2) h4 h5⟩
   ·cases h
  ·rename_i hw
   split at h
   ·rename_i p hp
    split at h
    ·rename_i tm' hput
     rw [wantS_ok hw (ha.as _)]
     simp only [if_true]
     refine (stepY_ok hval hc hy (v:=p.1) (st':=p.2) hp (seqY_good hval hc hy hg h)).2 hd.1 e w F a n _ Q hR (ha.as _) fun u w' e' F' hu hR' hN'=>?_
     exact seqY_ok hval hc hy hg hd.2 h hR' (putS_ok hput (ha.mono hN'.le) hN hu) (by rw [(put_size a o.dst u).1];exact hN) fun a' w2 e2 F2 h1 h2 h3 h4 h5=>hQ a' w2 e2 F2 h1 h2 (h3.trans (put_size a o.dst u).2) h4 (hN'.trans (h5.less hN'.nx))
    ·cases h
   ·cases h
theorem get_less {st:St X} {k b:Nat} {q:SB} (hk:k < TMax) (hb:(st.less k).m.get b=some q):st.m.get b=some q∧b≠k:=by
 rw [St.less,T.get_upd _ _ hk] at hb
 by_cases hbk:b=k
 ·rw [if_pos hbk] at hb;cases hb
 ·rw [if_neg hbk] at hb;exact ⟨hb,hbk⟩
theorem Rl.noIm {e:Env} {st:St X} {w:World} {F:FootE} (h:Rl L e st w F) {b c o z:Nat} {q:SB} (hb:st.m.get b=some q) (hw:q.wr=true) (hs:q.sib=[]) (he:e b=some (c,o,z)) (hbm:b < TMax):¬ Im e (st.less b) F c:=by
 rintro (hf | ⟨b',q',o',z',h1,h2⟩)
 ·exact (h.blk b q c o z hb he).1 hf
 ·obtain ⟨k1,k2⟩:=get_less hbm h1
  rcases h.dis b b' q q' c o z c o' z' hb k1 (Ne.symm k2) hw he h2 with h3 | h3
  ·exact h3 rfl
  ·rw [hs] at h3;cases h3.1
theorem Nxt.dropL {e:Env} {st:St X} {w w':World} {F:FootE} (B:Nat) {b c o z:Nat} {q:SB} (hb:st.m.get b=some q) (he:e b=some (c,o,z)) (hbm:b < TMax) (hs:w.heap.size≤w'.heap.size) (hk:∀ d,d < w.heap.size→d≠c→w'.heap[d]?=w.heap[d]?)
  (ho:w'.os=w.os∧w'.tape=w.tape∧w'.output=w.output):Nxt B e st w F e (st.less b) w' F :=
 ⟨.refl e,ho.1,ho.2.1,ho.2.2,hs,fun d hd hn=>hk d hd fun hdc=>hn (.inr ⟨b,q,o,z,hb,by rw [hdc];exact he⟩),fun d hd hi=>by
  rcases hi with hi | ⟨x,k,o1,z1,h1,h2⟩
  ·exact .inl hi
  ·exact .inr ⟨x,k,o1,z1,(get_less hbm h1).1,h2⟩,fun x hx hn=>⟨hn,fun _=>by
  have:x≠b:=fun hq=>by subst hq;rw [he] at hn;cases hn
  rw [St.less,T.upd_ne _ _ this]⟩,Nat.le_refl _⟩
theorem Nxt.al {e:Env} {st:St X} {w:World} {F:FootE} (B:Nat) (o:Obj):Nxt B e st w F e st (w.alloc o) F :=
 ⟨.refl e,rfl,rfl,rfl,by rw [zL];exact Nat.le_succ _,fun c hc _=>Below.heap_alloc w o c hc,fun _ _ h=>h,fun _ _ h=>⟨h,fun _=>rfl⟩,Nat.le_refl _⟩
theorem putObj_of {w:World} {c:Nat} (o:Obj):(w.putObj c o).os=w.os∧(w.putObj c o).tape=w.tape∧(w.putObj c o).output=w.output:=⟨rfl,rfl,rfl⟩
theorem Rl.turnL {e:Env} {st:St X} {w:World} {F:FootE} (h:Rl L e st w F) {b c o z:Nat} {q:Lp} {s:LoopState} {p:Option Code} (hb:st.m.get b=some (q.sb s p)) (he:e b=some (c,o,z)) (hbm:b < TMax) (s':LoopState) (p':Option Code) :
  ∃ l:Loop,w.heap[c]?=some (.loop l)∧l.state=s∧l.pending=p∧Rl L e (st.turn b [] (q.sb s' p')) (w.putObj c (.loop { l with state:=s',pending:=p' })) F∧∀ B,Nxt B e st w F e (st.turn b [] (q.sb s' p')) (w.putObj c (.loop { l with state:=s',pending:=p' })) F:=by
 obtain ⟨hnF,l,h1,h2,h3,h4,h5,h6,h7,h8,h9⟩:=h.blk b _ c o z hb he
 have hlt:c < w.heap.size:=(zN h1).1
 have hk:∀ d,d < w.heap.size→d≠c→(w.putObj c (.loop { l with state:=s',pending:=p' })).heap[d]?=w.heap[d]?:=fun d _ hd=>World.putObj_heap_other hd
 exact ⟨l,h1,h7,h8,h.turn (q:=q.sb s p) (q':=q.sb s' p') hb rfl he hbm rfl rfl (by rw [putObj_size];exact Nat.le_refl _) hk ⟨{ l with state:=s',pending:=p' },World.putObj_heap_same hlt,h2,h3,h4,h5,h6,rfl,rfl,h9⟩,
  fun B=>Nxt.turn h (q:=q.sb s p) (q':=q.sb s' p') hb he hbm rfl (by rw [putObj_size];exact Nat.le_refl _) hk (putObj_of _)⟩
theorem rangeY_ok {rec:RecY X} (hc:CallOk P L good (rec false)) {pf:Nat→Option Plan} {N:Nat} {g:Operand} {ps:Array Tmp} {asg body:Code} {tm:T SV} {st:St X} {x:Ex} {p:T SV × St X} (hp:okG pf asg=true∧okG pf body=true) (h:rangeY rec pf N g ps asg body tm st=some (x,p)) (k n:Nat) :
  CodeE P L good none n N k (.rangeFunc g ps asg body) tm st x p:=by
 unfold rangeY at h
 split at h
 ·rename_i gf ys hg
  cases hb:Nat.blt st.nx TMax with
  | false=>rw [hb] at h;cases h
  | true =>
   rw [hb,cond_true] at h
   have hn:st.nx < TMax:=by simpa [Nat.blt_eq] using hb
   split at h
   ·rename_i r hr
    split at h
    ·rename_i x' hx
     cases h
     obtain ⟨⟨gg,c1,c2,c3⟩,hcr⟩:=hc _ _ _ _ _ hr
     intro hgd
     obtain ⟨g1,g2⟩:=hcr hgd
     refine ⟨g1,fun D e w F a Q hR ha hN hM hQ=>?_⟩
     replace hM:Mk D e st F w a.defers:=hM
     have eg:∀ args w,(callFunc gf args).run P w=.ok (.enter gf args) w:=fun args w=>by
      simp only [callFunc,Sem.run_bind,Sem.run_pure,Result.andThen_ok]
      simp only [program,Sem.run,Result.andThen_ok,c1,c3,c2,Bool.false_eq_true,if_false]
      rfl
     have hv:=evx_ok ha hg
     generalize hq:a.eval g=u at hv
     cases hv with
     | @fn f xs zs us1 lb hx1 hy1 =>
     cases hx1
     show (Code.rangeFunc g ps asg body).wpIn (Fr none) n P Q a w
     refine wpIn_rangeFunc ?_
     intro fn hfn
     -- the record
     let R0:Loop:={ state:=.ready,pending:=none,fn,tmps:=a.tmps,params:=ps,assign:=asg,body,defers:=w.heap.size }
     have hs1:(w.alloc (.deferred (some []))).heap.size=w.heap.size + 1:=zL _ _
     have hRd:Rl L e st (w.alloc (.deferred (some []))) F:=hR.keepIm (by rw [hs1];exact Nat.le_succ _) fun c hc=>Below.heap_alloc w _ c (hR.imLt hc)
     obtain ⟨R1,N1⟩:=hRd.fresh hn (k:=Lp.sb ⟨pf,N,tm,ps.toList,asg,body⟩ .ready none) rfl (obj:=.loop R0) (z:=0)
      ⟨R0,MapKept.heap_alloc _ _ |>.1,hN,ha.mono (Env.le_put hR.none _),rfl,rfl,rfl,rfl,rfl,hp.1,hp.2⟩
     have N0:Nxt st.nx e st w F e st (w.alloc (.deferred (some []))) F:=Nxt.al _ _
     rw [hs1] at R1 N1
     have hle1:=Env.le_put hR.none (w.heap.size + 1,0,0)
     refine ⟨w.heap.size + 1,[{ target:=.collected w.heap.size,args:=#[] }],(w.alloc (.deferred (some []))).alloc (.loop R0),{ target:=.fn (.func gf) ⟨lb⟩,args:=#[.func (.yield (w.heap.size + 1)) #[] #[]] },(w.alloc (.deferred (some []))).alloc (.loop R0),gf,
      #[.func (.yield (w.heap.size + 1)) #[] #[]]++⟨lb⟩,(w.alloc (.deferred (some []))).alloc (.loop R0),?_,?_,?_,?_,(fun h=>by cases h),?_⟩
     ·exact run_enterLoop_outer _ _ _ _ _
     ·simp only [resolve,hq]
      simp [go_sem]
     ·intro f' hf';exact trivial
     ·simp [invoke,go_sem,eg]
     ·have hcall:=g2 _ _ F (.func (.yield (w.heap.size + 1)) #[] #[] :: lb) R1 (.cons (.yld (Env.put_same _ _ _)) (hy1.mono hle1))
      have hargs:(#[.func (.yield (w.heap.size + 1)) #[] #[]]++⟨lb⟩:Array Value)=⟨.func (.yield (w.heap.size + 1)) #[] #[] :: lb⟩:=Array.toList_inj.1 (by simp)
      rw [hargs]
      refine Fr_calls (hcall.mono ?_)
      rintro en w' ⟨u,e',F',rfl,h2,h3,h4⟩
      obtain ⟨q2,s2,j2,m1,m2,m3⟩:=lpEnd_ok hx
      have he2:e' st.nx=some (w.heap.size + 1,0,0):=h4.le _ _ (Env.put_same _ _ _)
      obtain ⟨hnF,l2,k1,k2,k3,k4,k5,k6,k7,k8,k9⟩:=h3.blk st.nx _ _ _ _ m1 he2
      have hend:=run_endLoop (P:=P) k1 (by rw [k7];exact m2)
      have hlt:w.heap.size + 1 < w'.heap.size:=(zN k1).1
      let w4:=w'.putObj (w.heap.size + 1) (.loop { l2 with state:=.exhausted })
      have hk4:∀ d,d < w'.heap.size→d≠w.heap.size + 1→w4.heap[d]?=w'.heap[d]?:=fun d _ hd=>World.putObj_heap_other hd
      have hsz4:w'.heap.size≤w4.heap.size:=by show _≤(World.putObj _ _ _).heap.size;rw [putObj_size];exact Nat.le_refl _
      have R4:Rl L e' (r.2.less st.nx) w4 F':=(h3.less hn fun _ _ _ _=>trivial).out (h3.noIm m1 rfl rfl he2 hn) hsz4 hk4
      have N4:Nxt st.nx e st w F e' (r.2.less st.nx) w4 F':=N0.trans (N1.trans ((h4.less (Nat.le_succ _)).trans (Nxt.dropL st.nx m1 he2 hn hsz4 hk4 (putObj_of _))))
      -- the mark
      have hnIm1:¬ Im (e.put st.nx (w.heap.size + 1,0,0)) (st.add (Lp.sb ⟨pf,N,tm,ps.toList,asg,body⟩ .ready none)) F w.heap.size:=by
       rintro (hf | ⟨b',q',o',z',i1,i2⟩)
       ·exact Nat.lt_irrefl _ (L.lt _ _ _ _ hR.ext _ hf)
       ·by_cases hb':b'=st.nx
        ·subst hb'
         rw [Env.put_same] at i2
         injection i2 with i2
         injection i2 with i3 _
         omega
        ·rw [Env.put_ne _ _ hb'] at i2
         rw [St.add,T.upd_ne _ _ hb'] at i1
         exact Nat.lt_irrefl _ (hR.blk b' q' _ o' z' i1 i2).2.lt
      have hsz1:w.heap.size < ((w.alloc (.deferred (some []))).alloc (.loop R0)).heap.size:=by rw [zL,hs1];omega
      have hd1:((w.alloc (.deferred (some []))).alloc (.loop R0)).heap[w.heap.size]?=some (.deferred (some [])):=(Below.heap_alloc _ _ _ (by rw [hs1];omega)).trans (World.alloc_heap_new w _)
      have hd4:w4.heap[w.heap.size]?=some (.deferred (some [])):=(hk4 _ (by omega) (by omega)).trans ((h4.frame _ hsz1 hnIm1).trans hd1)
      have hnIm4:¬ Im e' (r.2.less st.nx) F' w.heap.size:=fun hi=>hnIm1 (h4.img _ hsz1 (by
       rcases hi with hi | ⟨b',q',o',z',i1,i2⟩
       ·exact .inl hi
       ·exact .inr ⟨b',q',o',z',(get_less hn i1).1,i2⟩))
      have M4:Mk D e' (r.2.less st.nx) F' w4 ({ target:=.collected w.heap.size,args:=#[] } :: a.defers):=by
       refine ⟨Nat.le_trans hM.sz N4.size,List.nodup_cons.2 ⟨fun hin=>?_,hM.nd⟩,fun d hd=>?_⟩
       ·obtain ⟨b,h1,-,h2,-⟩:=hM.all _ hin
        injection h1 with h1 _
        injection h1 with h1
        omega
       ·rcases List.mem_cons.1 hd with rfl | hd
        ·exact ⟨_,rfl,hM.sz,(zN hd4).1,hd4,hnIm4⟩
        ·exact (hM.next N4).all d hd
      have hq4:=hQ { a with defers:={ target:=.collected w.heap.size,args:=#[] } :: a.defers } w4 e' F' (ha.mono N4.le) hN M4 R4 N4
      refine ⟨l2.pending,w4,hend,?_⟩
      rw [k8]
      clear hend k8 hx m1
      unfold jumpX at m3
      split at m3
      ·cases m3;exact hq4
      ·cases m3;exact wpIn_ret hq4
      ·cases m3;exact wpIn_exit hq4
      ·cases m3
    ·cases h
   ·cases h
 ·cases h
theorem codeStep_good (hval:ValOk P L good val) {call:Nat→List SV→St X→Option (SV × St X)} (hc:CallOk P L good call) {bit:Bool→X→Option (Bool × X)} {pf:Nat→Option Plan} {N:Nat} {ih:Code→T SV→St X→ExR X}
  (hb:∀ b x b' x',bit b x=some (b',x')→good x'→good x∧b=b'∧∀ e w F,L.R e x w F→L.R e x' w F) (hih:∀ c tm st x p,ih c tm st=some (x,p)→good p.2.x→good st.x) {c:Code} {tm:T SV} {st:St X} {x:Ex} {p:T SV × St X}
  (h:codeStep P val bit call pf N ih c tm st=some (x,p)) (hg:good p.2.x):good st.x:=by
 unfold codeStep at h
 split at h
 ·cases h;exact hg
 ·split at h
  ·split at h
   ·rename_i q hs;cases h;exact seqS_good hval hc hg hs
   ·cases h
  ·split at h
   ·split at h
    ·rename_i q hs;cases h;exact drawS_good hval hc hg hs
    ·cases h
   ·cases h
 ·split at h
  ·rename_i q h1;exact hih _ _ _ _ _ h1 (hih _ _ _ _ _ h hg)
  ·exact hih _ _ _ _ _ h hg
 ·split at h
  ·split at h
   ·rename_i x' hbt;exact (hb _ _ _ _ hbt (hih _ _ _ _ _ h hg:good (St.mk st.m st.nx x').x)).1
   ·rename_i x' hbt;exact (hb _ _ _ _ hbt (hih _ _ _ _ _ h hg:good (St.mk st.m st.nx x').x)).1
   ·cases h
  ·cases h
 ·split at h
  ·rename_i j q h1
   have:good q.2.x:=by
    cases hj:Nat.beq j _ with
    | true=>rw [hj] at h;cases h;exact hg
    | false=>rw [hj] at h;cases h;exact hg
   exact hih _ _ _ _ _ h1 this
  ·exact hih _ _ _ _ _ h hg
 ·split at h
  ·rename_i q h1;exact hih _ _ _ _ _ h1 (hih _ _ _ _ _ h hg)
  ·exact hih _ _ _ _ _ h hg
 ·cases h;exact hg
 ·cases h;exact hg
 ·cases h
theorem codeY_good {bit:Bool→X→Option (Bool × X)} {rec:RecY X} {pf:Nat→Option Plan} {N:Nat} (hval:ValOk P L good val) (hc:CallOk P L good (rec false)) (hy:YldOk P L good (rec true))
  (hb:∀ b x b' x',bit b x=some (b',x')→good x'→good x∧b=b'∧∀ e w F,L.R e x w F→L.R e x' w F):∀ (k:Nat) (rng:Bool) (c:Code) (tm:T SV) (st:St X) (x:Ex) (p:T SV × St X),codeY P val bit rec pf N k rng c tm st=some (x,p)→good p.2.x→good st.x
 | 0,rng,c,tm,st,x,p,h,hg=>by cases h
 | k + 1,rng,c,tm,st,x,p,h,hg=>by
  replace h:codeStepY P val bit rec pf N (codeY P val bit rec pf N k) rng c tm st=some (x,p):=h
  unfold codeStepY at h
  split at h
  ·split at h
   ·unfold rangeY at h
    split at h
    ·cases hq:Nat.blt st.nx TMax with
     | false=>rw [hq] at h;cases h
     | true =>
      rw [hq,cond_true] at h
      split at h
      ·rename_i r hr
       split at h
       ·cases h
        exact ((hc _ _ _ _ _ hr).2 hg).1
       ·cases h
      ·cases h
    ·cases h
   ·split at h
    ·rename_i q hs;cases h;exact seqY_good hval hc hy hg hs
    ·cases h
   ·exact codeStep_good hval hc hb (codeY_good hval hc hy hb k true) h hg
  ·exact codeStep_good hval hc hb (codeY_good hval hc hy hb k false) h hg
theorem codeY_ok {bit:Bool→X→Option (Bool × X)} {rec:RecY X} {pf:Nat→Option Plan} {N:Nat} (hval:ValOk P L good val) (hm:P.follows .mixedOrders=true) (hc:CallOk P L good (rec false)) (hy:YldOk P L good (rec true))
  (hb:∀ b x b' x',bit b x=some (b',x')→good x'→good x∧b=b'∧∀ e w F,L.R e x w F→L.R e x' w F) :
  ∀ (k:Nat) (rng:Bool) (r:Option Nat) (n:Nat) (c:Code) (tm:T SV) (st:St X) (x:Ex) (p:T SV × St X),(rng=true→r=none)→okG pf c=true→codeY P val bit rec pf N k rng c tm st=some (x,p)→CodeE P L good r n N k c tm st x p:=by
 intro k
 induction k with
 | zero=>intro rng r n c tm st x p _ _ h;cases h
 | succ k ih =>
  intro rng r n c tm st x p hrng hp h
  replace h:codeStepY P val bit rec pf N (codeY P val bit rec pf N k) rng c tm st=some (x,p):=h
  have main:codeStep P val bit (rec false) pf N (codeY P val bit rec pf N k rng) c tm st=some (x,p)→CodeE P L good r n N (k + 1) c tm st x p:=by
   clear h
   intro h
   unfold codeStep at h
   split at h
   ·cases h;exact CodeE.self fun a w Q hQ=>wpIn_skip hQ
   ·rename_i id ops draw
    simp only [okG,Bool.and_eq_true] at hp
    split at h
    ·split at h
     ·rename_i q hs
      cases h
      exact fun hg=>⟨seqS_good hval hc hg hs,fun D e w F a Q hR ha hN hM hQ=>seqS_in hval hc hg hp.1 hs hR ha hN fun a' w' e' F' h1 h2 h3 h4 h5=>hQ a' w' e' F' h1 h2 (by rw [h3];exact hM.next h5) h4 h5⟩
     ·cases h
    ·split at h
     ·rename_i pl hpl
      split at h
      ·rename_i q hs
       cases h
       have hpo:planOk ops.toList pl=true:=by
        have:=hp.2
        simp only [hpl] at this
        exact this
       exact fun hg=>⟨drawS_good hval hc hg hs,fun D e w F a Q hR ha hN hM hQ=>draw_in hval hm hc hpo hg hp.1 hs hR ha hN fun a' w' e' F' h1 h2 h3 h4 h5=>hQ a' w' e' F' h1 h2 (by rw [h3];exact hM.next h5) h4 h5⟩
      ·cases h
     ·cases h
   ·rename_i c1 c2
    have hp:okG pf c1=true∧okG pf c2=true:=by simpa [okG] using hp
    split at h
    ·rename_i q h1
     intro hg
     obtain ⟨g1,g2⟩:=ih rng r n c2 _ _ _ _ hrng hp.2 h hg
     obtain ⟨g3,g4⟩:=ih rng r n c1 _ _ _ _ hrng hp.1 h1 g1
     refine ⟨g3,fun D e w F a Q hR ha hN hM hQ=>wpIn_seq (ConclI.wp (g4 D e w F a _ hR ha hN hM fun a1 w1 e1 F1 h2 h3 h4 h5 h6=>?_))⟩
     exact (g2 D e1 w1 F1 a1 Q h5 h2 h3 h4 fun a2 w2 e2 F2 k1 k2 k3 k4 k5=>hQ a2 w2 e2 F2 k1 k2 k3 k4 (h6.trans (k5.less h6.nx))).wp
    ·rename_i hne
     intro hg
     obtain ⟨g3,g4⟩:=ih rng r n c1 _ _ _ _ hrng hp.1 h hg
     refine ⟨g3,fun D e w F a Q hR ha hN hM hQ=>wpIn_seq (ConclI.wp (g4 D e w F a _ hR ha hN hM fun a1 w1 e1 F1 h2 h3 h4 h5 h6=>?_))⟩
     have:=hQ a1 w1 e1 F1 h2 h3 h4 h5 h6
     cases x with
     | normal=>exact absurd h (hne _)
     | exit id=>exact this
     | ret=>exact this
   ·rename_i cx c1 c2
    have hp:okG pf c1=true∧okG pf c2=true:=by simpa [okG] using hp
    split at h
    ·rename_i t ht
     have hcond:∀ {x':X} {b':Bool},bit t st.x=some (b',x')→codeY P val bit rec pf N k rng (if b' then c1 else c2) tm ⟨st.m,st.nx,x'⟩=some (x,p)→CodeE P L good r n N (k + 1) (.cond cx c1 c2) tm st x p:=fun {x' b'} hbt h hg=>by
      obtain ⟨g1,g2⟩:=ih rng r n _ _ _ _ _ hrng (by cases b'<;>simp [hp]) h hg
      obtain ⟨g3,rfl,g4⟩:=hb _ _ _ _ hbt g1
      refine ⟨g3,fun D e w F a Q hR ha hN hM hQ=>?_⟩
      have hv:=evx_ok ha ht
      generalize hq:a.eval cx=u at hv
      cases hv
      refine wpIn_cond hq (g2 D e w F a Q ⟨hR.blk,hR.dis,hR.old,hR.dom,hR.sib,g4 _ _ _ hR.ext⟩ ha hN hM.x fun a1 w1 e1 F1 h2 h3 h4 h5 h6=>hQ a1 w1 e1 F1 h2 h3 h4 h5 ?_).wp
      exact ⟨h6.le,h6.os,h6.tape,h6.output,h6.size,h6.frame,h6.img,h6.und,h6.nx⟩
     split at h
     ·rename_i x' hbt;exact hcond hbt h
     ·rename_i x' hbt;exact hcond hbt h
     ·cases h
    ·cases h
   ·rename_i id c1
    have hp:okG pf c1=true:=by simpa [okG] using hp
    split at h
    ·rename_i j q h1
     cases hj:Nat.beq j id with
     | true =>
      rw [hj] at h;cases h
      have:=Nat.eq_of_beq_eq_true hj
      subst this
      intro hg
      obtain ⟨g3,g4⟩:=ih rng r n c1 _ _ _ _ hrng hp h1 hg
      refine ⟨g3,fun D e w F a Q hR ha hN hM hQ=>wpIn_block (ConclI.wp (g4 D e w F a _ hR ha hN hM fun a1 w1 e1 F1 h2 h3 h4 h5 h6=>?_))⟩
      have:=hQ a1 w1 e1 F1 h2 h3 h4 h5 h6
      simpa [Ex.to,Exit.inBlock] using this
     | false =>
      rw [hj] at h;cases h
      have hne:j≠id:=fun hh=>by rw [hh,Nat.beq_refl] at hj;cases hj
      intro hg
      obtain ⟨g3,g4⟩:=ih rng r n c1 _ _ _ _ hrng hp h1 hg
      refine ⟨g3,fun D e w F a Q hR ha hN hM hQ=>wpIn_block (ConclI.wp (g4 D e w F a _ hR ha hN hM fun a1 w1 e1 F1 h2 h3 h4 h5 h6=>?_))⟩
      have:=hQ a1 w1 e1 F1 h2 h3 h4 h5 h6
      simpa [Ex.to,Exit.inBlock,hne] using this
    ·rename_i hne
     intro hg
     obtain ⟨g3,g4⟩:=ih rng r n c1 _ _ _ _ hrng hp h hg
     refine ⟨g3,fun D e w F a Q hR ha hN hM hQ=>wpIn_block (ConclI.wp (g4 D e w F a _ hR ha hN hM fun a1 w1 e1 F1 h2 h3 h4 h5 h6=>?_))⟩
     have:=hQ a1 w1 e1 F1 h2 h3 h4 h5 h6
     cases x with
     | normal=>exact this
     | exit j=>exact absurd h (hne _ _)
     | ret=>exact this
   ·rename_i c1
    have hp1:okG pf c1=true:=by simpa [okG] using hp
    split at h
    ·rename_i q h1
     intro hg
     obtain ⟨g1,g2⟩:=ih rng r n (.loop c1) _ _ _ _ hrng hp h hg
     obtain ⟨g3,g4⟩:=ih rng r n c1 _ _ _ _ hrng hp1 h1 g1
     refine ⟨g3,fun D e w F a Q hR ha hN hM hQ=>?_⟩
     show c1.wpIn (Fr r) n P (Exit.then (Code.roundsIn (Fr r) n P c1 Q k) Q) a w
     refine ConclI.wp (g4 D e w F a _ hR ha hN hM fun a1 w1 e1 F1 h2 h3 h4 h5 h6=>?_)
     exact g2 D e1 w1 F1 a1 Q h5 h2 h3 h4 fun a2 w2 e2 F2 k1 k2 k3 k4 k5=>hQ a2 w2 e2 F2 k1 k2 k3 k4 (h6.trans (k5.less h6.nx))
    ·rename_i hne
     intro hg
     obtain ⟨g3,g4⟩:=ih rng r n c1 _ _ _ _ hrng hp1 h hg
     refine ⟨g3,fun D e w F a Q hR ha hN hM hQ=>?_⟩
     show c1.wpIn (Fr r) n P (Exit.then (Code.roundsIn (Fr r) n P c1 Q k) Q) a w
     refine ConclI.wp (g4 D e w F a _ hR ha hN hM fun a1 w1 e1 F1 h2 h3 h4 h5 h6=>?_)
     have:=hQ a1 w1 e1 F1 h2 h3 h4 h5 h6
     cases x with
     | normal=>exact absurd h (hne _)
     | exit id=>exact this
     | ret=>exact this
   ·cases h;exact CodeE.self fun a w Q hQ=>wpIn_exit hQ
   ·cases h;exact CodeE.self fun a w Q hQ=>wpIn_ret hQ
   ·cases h
  unfold codeStepY at h
  split at h
  ·have hr:=hrng rfl
   subst hr
   split at h
   ·rename_i g ps asg body
    exact rangeY_ok hc (by simpa [okG] using hp) h (k + 1) n
   ·rename_i id ops
    split at h
    ·rename_i q hs
     cases h
     have hd:(ops.toList.all fun o=>noDef o.op)=true:=by simp only [okG,Bool.and_eq_true] at hp;exact hp.1
     exact fun hg=>⟨seqY_good hval hc hy hg hs,fun D e w F a Q hR ha hN hM hQ=>wpIn_region_list (seqY_ok hval hc hy hg hd hs hR ha hN fun a' w' e' F' h1 h2 h3 h4 h5=>hQ a' w' e' F' h1 h2 (by rw [h3];exact hM.next h5) h4 h5)⟩
    ·cases h
   ·exact main h
  ·exact main h
theorem yieldY_ok {bit:Bool→X→Option (Bool × X)} {rec:RecY X} (hval:ValOk P L good val) (hm:P.follows .mixedOrders=true) (hc:CallOk P L good (rec false)) (hy:YldOk P L good (rec true))
  (hb:∀ b x b' x',bit b x=some (b',x')→good x'→good x∧b=b'∧∀ e w F,L.R e x w F→L.R e x' w F) (K:Nat):YldOk P L good (yieldY P val bit rec K):=fun b args st v st' h hgd=>by
 unfold yieldY at h
 split at h
 ·cases h
 ·rename_i q hq
  cases hcn:Nat.blt b TMax && Nat.beq args.length q.ps.length with
  | false=>rw [hcn] at h;cases h
  | true =>
   rw [hcn,cond_true] at h
   simp only [Bool.and_eq_true,Nat.blt_eq] at hcn
   obtain ⟨hbm,hlen⟩:=hcn
   have hlen:=Nat.eq_of_beq_eq_true hlen
   split at h
   ·cases h
   ·rename_i tm1 htm
    split at h
    ·rename_i p1 hp1
     split at h
     ·cases h
     ·rename_i q1 hq1
      split at h
      ·cases h
      ·rename_i r hr
       split at h
       ·cases h
       ·rename_i q2 hq2
        cases h
        have hgr:good r.2.2.x:=hgd
        -- what the record's codes do
        have K1:okG q.pf q.asg=true→∀ l m,CodeE P L good (some l) m q.N K q.asg tm1 st .normal p1:=fun ho l m=>codeY_ok hval hm hc hy hb K false (some l) m _ _ _ _ _ nofun ho hp1
        have K2:okG q.pf q.body=true→∀ l m,CodeE P L good (some l) m q.N K q.body p1.1 (p1.2.turn b [] (q1.sb .busy none)) r.1 r.2:=fun ho l m=>codeY_ok hval hm hc hy hb K false (some l) m _ _ _ _ _ nofun ho hr
        have gb:good (p1.2.turn b [] (q1.sb .busy none)).x:=codeY_good hval hc hy hb K _ _ _ _ _ _ hr hgr
        have gp:good p1.2.x:=gb
        refine ⟨codeY_good hval hc hy hb K _ _ _ _ _ _ hp1 gp,fun e w F us c o z hR hvs he m=>?_⟩
        obtain ⟨hnF,l,h1,h2,h3,h4,h5,h6,h7,h8,h9,h10⟩:=hR.blk b _ c o z (rdy_ok hq) he
        have hul:=hvs.length
        have hps:l.params.size=q.ps.length:=by rw [← h4];simp
        have hyy:=run_yield (P:=P) (args:=us.toArray) h1 (by simp;omega)
        refine ⟨l.fn,_,l.assign,l.body,hyy,roundIn_of_wpIn trivial ?_⟩
        rw [h5,h6]
        have hzip:(l.params.zip us.toArray).foldl (fun t (p,v)=>t.setIfInBounds p v) l.tmps=(q.ps.zip us).foldl (fun t (p,v)=>t.setIfInBounds p v) l.tmps:=by
         rw [← Array.foldl_toList,Array.toList_zip,h4]
        obtain ⟨ha1,hN1⟩:=putAll_ok htm hvs h3 h2
        refine (((K1 h9 c m) gp).2 0 e w F { tmps:=(l.params.zip us.toArray).foldl (fun t (p,v)=>t.setIfInBounds p v) l.tmps,defers:=[] } _ hR (by rw [hzip];exact ha1) (by rw [hzip];exact hN1) (show MkR (some c) 0 e st F w [] from rfl) fun a1 w1 e1 F1 b1 b2 b3 b4 b5=>?_).wp
        have b3:a1.defers=[]:=b3
        have he1:=b5.le _ _ he
        obtain ⟨l1,i1,i2,i3,R1,N1⟩:=b4.turnL (rdy_ok hq1) he1 hbm .busy none
        have hl1:({ l1 with state:=.busy }:Loop)={ l1 with state:=.busy,pending:=none }:=by rw [← i3]
        refine ⟨_,run_beginRound i1 i2,?_⟩
        rw [hl1]
        refine (((K2 h10 c m) hgr).2 0 e1 _ F1 a1 _ R1 b1 b2 b3 fun a2 w2 e2 F2 d1 d2 d3 d4 d5=>?_).wp
        have he2:=d5.le _ _ he1
        obtain ⟨l2,j1,j2,j3,R2,N2⟩:=d4.turnL (bsy_ok hq2) he2 hbm (exS r.1) (exJ r.1)
        have Nt:Nxt st.nx e st w F e2 (r.2.2.turn b [] (q2.sb (exS r.1) (exJ r.1))) (w2.putObj c (.loop { l2 with state:=exS r.1,pending:=exJ r.1 })) F2:=b5.trans ((N1 st.nx).trans ((d5.less b5.nx).trans (N2 st.nx)))
        have fin:∀ jump:Option Code,exJ r.1=jump→exS r.1=(if jump.isNone then .ready else .done)→exB r.1=jump.isNone→∃ v w',(Instr.endRound c jump).run P w2=.ok v w'∧∃ u e' F',Ending.returned v=.returned u∧VR e' (.bool (exB r.1)) u∧Rl L e' (r.2.2.turn b [] (q2.sb (exS r.1) (exJ r.1))) w' F'∧Nxt st.nx e st w F e' (r.2.2.turn b [] (q2.sb (exS r.1) (exJ r.1))) w' F':=fun jump g1 g2 g3=>by
         subst g1
         refine ⟨_,_,run_endRound (P:=P) (exJ r.1) j1,.bool (exJ r.1).isNone,e2,F2,rfl,by rw [g3];exact .bool _,?_,?_⟩
         ·rw [← g2];exact R2
         ·rw [← g2];exact Nt
        generalize hx:r.1=x at fin
        cases x with
        | normal=>exact fin none rfl rfl rfl
        | exit i=>exact fin (some (.exit i)) rfl rfl rfl
        | ret=>exact fin (some .ret) rfl rfl rfl
    ·cases h
def bodyY (C:Cfg X) (plan:Nat→Nat→Option Plan) (K:Nat) (rec:RecY X) (f:Nat) (vs:List SV) (st:St X):Option (SV × St X) :=
 match C.ext f with
 | some h=>h vs st
 | none=>match C.fn f with
  | none=>none
  | some g=>match g.body with
   | none=>none
   | some c=>bif Nat.blt vs.length TMax then match codeY C.P C.val C.bit rec (plan f) g.ntmps K true c (initT vs 0 .e) st with
    | some (.normal,p)=>match resS C.P p.2.m p.1 g.results with
     | some v=>some (v,p.2)
     | none=>none
    | some (.ret,p)=>match resS C.P p.2.m p.1 g.results with
     | some v=>some (v,p.2)
     | none=>none
    | _=>none
    else none
def recY (C:Cfg X) (plan:Nat→Nat→Option Plan) (K:Nat) (n:Nat):RecY X :=
 Nat.rec (fun _ _ _ _=>none) (fun _ ih y k vs st=>match y with
  | true=>yieldY C.P C.val C.bit ih K k vs st
  | false=>bodyY C plan K ih k vs st) n
structure Cfg.OkY (C:Cfg X) (plan:Nat→Nat→Option Plan):Prop where
 mixed:C.P.follows .mixedOrders=true
 fn:∀ f g,C.fn f=some g→C.P.funcs[f]?=some g∧(g.name == "runtime.NumGoroutine")=false∧∀ c,g.body=some c→okG (plan f) c=true
 ext:∀ f h,C.ext f=some h→Callable C.P f∧∀ vs st v st',h vs st=some (v,st')→CallsR C.P C.L C.good f vs st v st'
 val:ValOk C.P C.L C.good C.val
 bit:∀ b x b' x',C.bit b x=some (b',x')→C.good x'→C.good x∧b=b'∧∀ e w F,C.L.R e x w F→C.L.R e x' w F
theorem bodyY_ok {C:Cfg X} {plan:Nat→Nat→Option Plan} (hC:C.OkY plan) (K:Nat) {rec:RecY X} (hc:CallOk C.P C.L C.good (rec false)) (hy:YldOk C.P C.L C.good (rec true)):CallOk C.P C.L C.good (bodyY C plan K rec):=fun f vs st v st' h=>by
  unfold bodyY at h
  split at h
  ·rename_i g hg
   exact ⟨(hC.ext f g hg).1,(hC.ext f g hg).2 _ _ _ _ h⟩
  ·split at h
   ·cases h
   ·rename_i g hg
    obtain ⟨q1,q2,q3⟩:=hC.fn f g hg
    split at h
    ·cases h
    ·rename_i c hbody
     refine ⟨⟨g,q1,by rw [hbody];rfl,q2⟩,?_⟩
     cases hlen:Nat.blt vs.length TMax with
     | false=>rw [hlen] at h;cases h
     | true =>
      rw [hlen,cond_true] at h
      have hlen:vs.length < TMax:=by simpa [Nat.blt_eq] using hlen
      have fin:∀ (x:Ex) (p:T SV × St X),(x=.normal∨x=.ret)→codeY C.P C.val C.bit rec (plan f) g.ntmps K true c (initT vs 0 .e) st=some (x,p)→resS C.P p.2.m p.1 g.results=some v→st'=p.2→CallsR C.P C.L C.good f vs st v st':=fun x p hx hcode hres hst hgood=>by
       subst hst
       obtain ⟨g1,g2⟩:=codeY_ok hC.val hC.mixed hc hy hC.bit K true none 0 c _ _ _ _ (fun _=>rfl) (q3 c hbody) hcode hgood
       refine ⟨g1,fun e w F us hR hvs=>(callsIn_wide (n:=0)).1 (callsIn_of_wp_marks q1 hbody trivial (g2 w.heap.size e w F { tmps:=⟨us⟩++Array.replicate (g.ntmps - (⟨us⟩:Array Value).size) undef,defers:=[] } _ hR ?_ ?_ (Mk.nil (Nat.le_refl _)) fun a' w' e' F' h1 h2 h3 h4 h5=>?_).wp)⟩
       ·refine initT_ok hvs (fun t v hv=>by simp at hv) (by omega) fun j u hj=>?_
        have hj2:=(List.getElem?_eq_some_iff.1 hj).1
        rw [Array.getElem?_append_left (by simp;omega)]
        simpa using hj
       ·simp;omega
       ·have key:LeavesInM Fence.wide 0 C.P g a'.tmps (fun en w'=>∃ u e' F',en=.returned u∧VR e' v u∧Rl C.L e' p.2 w' F'∧Nxt st.nx e st w F e' p.2 w' F') a'.defers .returning w':=by
         refine leaves_mk h1 hres (D:=w.heap.size) (w0:=w) h4 h3 fun w2 u r1 ⟨r2,r3,r4,r5,r6⟩ r7=>⟨u,e',F',rfl,r7,r1,?_⟩
         exact ⟨h5.le,r2.trans h5.os,r3.trans h5.tape,r4.trans h5.output,by rw [r5];exact h5.size,fun c hc hi=>(r6 c (.inl hc)).trans (h5.frame c hc hi),h5.img,h5.und,h5.nx⟩
        rcases hx with rfl | rfl
        ·exact key
        ·exact key
      split at h
      ·rename_i p hcode
       split at h
       ·rename_i v' hres
        cases h
        exact fin _ p (.inl rfl) hcode hres rfl
       ·cases h
      ·rename_i p hcode
       split at h
       ·rename_i v' hres
        cases h
        exact fin _ p (.inr rfl) hcode hres rfl
       ·cases h
      ·cases h
theorem recY_ok {C:Cfg X} {plan:Nat→Nat→Option Plan} (hC:C.OkY plan) (K:Nat):∀ n,CallOk C.P C.L C.good (recY C plan K n false)∧YldOk C.P C.L C.good (recY C plan K n true)
 | 0=>⟨(fun f vs st v st' h=>by cases h),(fun b args st v st' h=>by cases h)⟩
 | n + 1=>by
  obtain ⟨h1,h2⟩:=recY_ok hC K n
  exact ⟨bodyY_ok hC K h1 h2,yieldY_ok hC.val hC.mixed h1 h2 hC.bit K⟩
end
end
end Go.Proofs.YtmelcflkbfhohaaGreatDoor.W.E
namespace Go.Proofs
section
open Go.Shelf
def Tryz.lays157_ren:Go.Shelf.Ren:=⟨fun | 157=>169 | 229=>201 | 199=>202 | 261=>224 | 311=>233 | 312=>234 | n=>n,fun | 9=>9 | 31=>39 | 3=>3 | 5=>5 | 4=>4 | 119=>186 | 0=>0 | 40=>188 | 152=>204 | 21=>21 | 154=>206 | 51=>207 | 141=>209 | 196=>214 | 193=>211 | 198=>217 | 49=>215 | 194=>212 | 201=>220 | 226=>227 | 46=>210 | 227=>228 | n=>n,fun | 0=>0 | 6=>1 | n=>n⟩
def Tryz.laysM157_ren:Go.Shelf.Ren:=⟨fun | 157=>169 | 229=>201 | 199=>202 | 261=>224 | 311=>233 | 312=>234 | n=>n,fun | 9=>9 | 31=>39 | 3=>3 | 5=>5 | 4=>4 | 119=>186 | 0=>0 | 40=>188 | 152=>204 | 21=>21 | 154=>206 | 51=>207 | 141=>209 | 196=>214 | 193=>211 | 198=>217 | 49=>215 | 194=>212 | 201=>220 | 226=>227 | 46=>210 | 227=>228 | n=>n,fun | 0=>0 | 6=>1 | n=>n⟩
theorem Tryz.laysM157:Go.Proofs.LaysM.n157 Tryz.prog Tryz.laysM157_ren:={
 mixed:=by kernel_rfl
 f157:=Tryz.func169.trans (congrArg some (by kernel_rfl))
 f199:=Tryz.func202.trans (congrArg some (by kernel_rfl))
 f229:=Tryz.func201.trans (congrArg some (by kernel_rfl))
 f261:=Tryz.func224.trans (congrArg some (by kernel_rfl))
 f311:=Tryz.func233.trans (congrArg some (by kernel_rfl))
 f312:=Tryz.func234.trans (congrArg some (by kernel_rfl))
 t0:=Tryz.underlying0
 a0:=Tryz.isAgg0
 z0:=Tryz.sizeOf0
 v0:=Tryz.zeroValue0
 t3:=Tryz.underlying3
 a3:=Tryz.isAgg3
 z3:=Tryz.sizeOf3
 v3:=Tryz.zeroValue3
 t4:=Tryz.underlying4
 a4:=Tryz.isAgg4
 z4:=Tryz.sizeOf4
 v4:=Tryz.zeroValue4
 t5:=Tryz.underlying5
 a5:=Tryz.isAgg5
 z5:=Tryz.sizeOf5
 v5:=Tryz.zeroValue5
 t9:=Tryz.underlying9
 a9:=Tryz.isAgg9
 z9:=Tryz.sizeOf9
 v9:=Tryz.zeroValue9
 t21:=Tryz.underlying21
 a21:=Tryz.isAgg21
 z21:=Tryz.sizeOf21
 v21:=Tryz.zeroValue21
 t31:=Tryz.underlying39
 a31:=Tryz.isAgg39
 z31:=Tryz.sizeOf39
 v31:=Tryz.zeroValue39
 t40:=Tryz.underlying188
 a40:=Tryz.isAgg188
 z40:=Tryz.sizeOf188
 v40:=Tryz.zeroValue188
 t46:=Tryz.underlying210
 a46:=Tryz.isAgg210
 z46:=Tryz.sizeOf210
 v46:=Tryz.zeroValue210
 t49:=Tryz.underlying215
 a49:=Tryz.isAgg215
 z49:=Tryz.sizeOf215
 v49:=Tryz.zeroValue215
 t51:=Tryz.underlying207
 a51:=Tryz.isAgg207
 z51:=Tryz.sizeOf207
 v51:=Tryz.zeroValue207
 t119:=Tryz.underlying186
 a119:=Tryz.isAgg186
 z119:=Tryz.sizeOf186
 t141:=Tryz.underlying209
 a141:=Tryz.isAgg209
 z141:=Tryz.sizeOf209
 v141:=Tryz.zeroValue209
 t152:=Tryz.underlying204
 a152:=Tryz.isAgg204
 z152:=Tryz.sizeOf204
 v152:=Tryz.zeroValue204
 t154:=Tryz.underlying206
 a154:=Tryz.isAgg206
 z154:=Tryz.sizeOf206
 v154:=Tryz.zeroValue206
 t193:=Tryz.underlying211
 a193:=Tryz.isAgg211
 z193:=Tryz.sizeOf211
 v193:=Tryz.zeroValue211
 t194:=Tryz.underlying212
 a194:=Tryz.isAgg212
 z194:=Tryz.sizeOf212
 v194:=Tryz.zeroValue212
 t196:=Tryz.underlying214
 a196:=Tryz.isAgg214
 z196:=Tryz.sizeOf214
 v196:=Tryz.zeroValue214
 t198:=Tryz.underlying217
 a198:=Tryz.isAgg217
 z198:=Tryz.sizeOf217
 v198:=Tryz.zeroValue217
 t201:=Tryz.underlying220
 a201:=Tryz.isAgg220
 z201:=Tryz.sizeOf220
 v201:=Tryz.zeroValue220
 t226:=Tryz.underlying227
 a226:=Tryz.isAgg227
 z226:=Tryz.sizeOf227
 v226:=Tryz.zeroValue227
 t227:=Tryz.underlying228
 a227:=Tryz.isAgg228
 z227:=Tryz.sizeOf228
 v227:=Tryz.zeroValue228
 g0:=by kernel_rfl
 g6:=by kernel_rfl
 i0:=by kernel_rfl
 i3:=by kernel_rfl
 i4:=by kernel_rfl
 i5:=by kernel_rfl
 i9:=by kernel_rfl
 i21:=by kernel_rfl
 i31:=by kernel_rfl
 i40:=by kernel_rfl
 i46:=by kernel_rfl
 i49:=by kernel_rfl
 i51:=by kernel_rfl
 i141:=by kernel_rfl
 i152:=by kernel_rfl
 i154:=by kernel_rfl
 i193:=by kernel_rfl
 i194:=by kernel_rfl
 i196:=by kernel_rfl
 i198:=by kernel_rfl
 i201:=by kernel_rfl
 i226:=by kernel_rfl
 i227:=by kernel_rfl
 m0:=by kernel_rfl
 m6:=by kernel_rfl }
open Go.RowKit Go.Lib in
theorem Tryz.strings_Fields_laid (s:ByteArray) (w:World) (hs:s.size < 4294967281) (hascii:∀ (j:Nat) b,s.data.toList[j]?=some b→b.toNat < 128) (htab:Lib.TabIs Tryz.prog w "strings.asciiSpace" .u8 Lib.asciiSpaceTab) :
  Calls Tryz.prog 169 #[.string s] w fun e w' =>
   e=.returned (.slice (some ⟨w.heap.size,0,none⟩) (Lib.fields s.data.toList).length (Lib.fields s.data.toList).length)∧w'=w.alloc (.cells ((Lib.fields s.data.toList).map fun l=>Value.string ⟨l.toArray⟩).toArray 9):=Any.strings_Fields_laid Tryz.laysM157 s w hs hascii htab
end
end Go.Proofs
namespace Go.Proofs.YtmelcflkbfhohaaGreatDoor.W.E
section
set_option maxRecDepth 100000
open Go.RowKit
def GlB (d:Nat):Prop:=d=0
theorem gT:Tryz.prog.globalNamed "strings.asciiSpace"=some 0:=by kernel_rfl
structure Gl (w:World):Prop where
 tab:Go.Lib.TabIs Tryz.prog w "strings.asciiSpace" .u8 Go.Lib.asciiSpaceTab
 sz:0 < w.heap.size
theorem Gl.lt {w:World} (h:Gl w) {d:Nat} (hd:GlB d):d < w.heap.size:=by have h1:=h.sz;have h2:d=0:=hd;omega
theorem Gl.keep {w w':World} (h:Gl w) (hs:w.heap.size≤w'.heap.size) (hk:∀ d,GlB d→w'.heap[d]?=w.heap[d]?):Gl w':=by
 have h1:=h.tab
 refine ⟨?_,Nat.lt_of_lt_of_le h.sz hs⟩
 unfold Go.Lib.TabIs World.var? at h1 ⊢
 rw [gT] at h1 ⊢
 simp only [Option.bind_some,hk 0 rfl] at h1 ⊢
 exact h1
end
end Go.Proofs.YtmelcflkbfhohaaGreatDoor.W.E
namespace Go.Proofs.YtmelcflkbfhohaaGreatDoor.R
section
set_option maxRecDepth 100000
open Go.ChangeShapes Go.WideShapes Go.ChangeAt Go.RowKit
section
variable {H:Type} {enc:TypeId × Value→H}
theorem handed_laid_shaped {a:Assume} {C:Checked} {os:Os} {f:FuncId} {fn:Func} {s:ChangeSpec} {conds:List PathCond} {apart fresh handsOn again:Bool} {X:World→Array Value→Prop}
  (hX:∀ (w w':World) (args:Array Value),w.heap=w'.heap→X w args→X w' args)
  (own:ownKnob C.prog.godebug=none) (started:os.Started) (noInit:C.prog.inits.idxOf? f=none) (hfn:C.prog.funcs[f]?=some fn)
  (witness:∃ (w:World) (tape:Tape) (i:Input),w.os=os∧(w.forCall tape i).Shaped C.prog∧i.vars=[]∧Input.okWide C.prog (w.forCall tape i) .any w.heap.size f i ∧
   ((s.pre enc C.prog fn conds apart (w.forCall tape i).memory i.args∧X (w.forCall tape i).memory i.args)∧sizedMet enc C.prog fn (OpenSpec.ofChange s) apart (w.forCall tape i).memory i.args)∧a.holds C.prog (lone (Frame.enter C.prog f i.args .normal) [] (w.forCall tape i)))
  (contract:∀ (W:World) (base:Nat) (args:Array Value) (ds gs:List (DataW H)) (before:List MemPlace),
   (∀ (j:Nat) t v,fn.params[j]?=some t→args[j]?=some v→Value.okWide C.prog W .any base t v) →
   DataW.Whole enc C.prog fn.params.toList s.vars apart W args.toList ds gs before →
   X W args→W.ShapedOpen C.prog →
   Calls C.prog f args W fun e W'=>∃ v,e=.returned v∧s.post enc C.prog fn apart fresh handsOn again W args v W') :
  ReturnsInHanded a C os f .any (fun w args=>(s.pre enc C.prog fn conds apart w args∧X w args)∧sizedMet enc C.prog fn (OpenSpec.ofChange s) apart w args) (s.post enc C.prog fn apart fresh handsOn again):=by
 refine returnsInHanded_of_calls own started noInit witness ?_
 intro w tape i _ hsh _ hok hpre hholds
 obtain ⟨_,_,_,fn',hfn',_,_,_,_,hval⟩:=hok
 have e:fn'=fn:=Option.some.inj (hfn'.symm.trans hfn)
 subst e
 obtain ⟨⟨⟨ds,gs,before,hw,hc⟩,hx⟩,hz⟩:=hpre
 have hw':=DataW.Whole.of_heap (w':=w.forCall tape i) (by rfl) hw
 refine (contract (w.forCall tape i) w.heap.size i.args ds gs before hval hw' (hX _ _ _ (by rfl) hx) hsh).mono fun e W' ⟨v,he,hp⟩=>?_
 subst he
 exact ChangeSpec.post_blind hp
theorem witness_ref {C:Checked} {os:Os} {f:FuncId} {fn:Func} {s:ChangeSpec} {conds:List PathCond} {apart:Bool} {X:World→Array Value→Prop} (modest:Bool) (w0:World) (args:Array Value) (fuel:Nat) (hos:w0.os=os)
  (hv:(w0.forCall (fun _ _=>0) ⟨#[],args,[]⟩).variablesRefB C.prog=true)
  (hr:((w0.forCall (fun _ _=>0) ⟨#[],args,[]⟩).heap.toList.drop C.prog.globals.size).take ((begin C.prog (fun _ _=>0) default).world.heap.size - C.prog.globals.size) =
   (begin C.prog (fun _ _=>0) default).world.heap.toList.drop C.prog.globals.size)
  (hok:Input.okWideB C.prog (w0.forCall (fun _ _=>0) ⟨#[],args,[]⟩) f ⟨#[],args,[]⟩=true)
  (hpre:s.preB enc C.prog fn conds apart (w0.forCall (fun _ _=>0) ⟨#[],args,[]⟩).memory args fuel=true)
  (hsz:s.sizedB enc C.prog fn apart (w0.forCall (fun _ _=>0) ⟨#[],args,[]⟩).memory args fuel=true)
  (hx:X (w0.forCall (fun _ _=>0) ⟨#[],args,[]⟩).memory args) :
  ∃ (w:World) (tape:Tape) (i:Input),w.os=os∧(w.forCall tape i).Shaped C.prog∧i.vars=[]∧Input.okWide C.prog (w.forCall tape i) .any w.heap.size f i ∧
   ((s.pre enc C.prog fn conds apart (w.forCall tape i).memory i.args∧X (w.forCall tape i).memory i.args)∧sizedMet enc C.prog fn (OpenSpec.ofChange s) apart (w.forCall tape i).memory i.args)∧({ modest:=modest }:Assume).holds C.prog (lone (Frame.enter C.prog f i.args .normal) [] (w.forCall tape i)) :=
 ⟨w0,fun _ _=>0,⟨#[],args,[]⟩,hos,World.shaped_of_RefB hv hr,(Input.okWide_of_okWideB (base:=0) hok).1,(Input.okWide_of_okWideB hok).2,⟨⟨ChangeSpec.pre_of_preB hpre,hx⟩,sizedMet_of_sizedB hsz⟩,by
  simp only [Assume.holds]
  exact ⟨by simp,by simp,fun _=>Modest.zero,by simp,by simp⟩⟩
end
theorem own:ownKnob Tryz.prog.godebug=none:=by kernel_rfl
theorem gT:Tryz.prog.globalNamed "strings.asciiSpace"=some 0:=by kernel_rfl
def laid:List (String × DataW Unit):=[("unicode/utf8.acceptRanges",Rows.laid_unicode_utf8_acceptRanges),("unicode.White_Space",Rows.laid_unicode_White_Space),("strings.asciiSpace",Rows.laid_strings_asciiSpace),("unicode/utf8.first",Rows.laid_unicode_utf8_first)]
theorem gTType:(Tryz.prog.globals[0]?).map (·.type)=some 186:=by kernel_rfl
theorem gl_of {W:World} (hL:laidMetH Tryz.prog laid W) (hsh:W.ShapedOpen Tryz.prog):Go.Proofs.YtmelcflkbfhohaaGreatDoor.W.E.Gl W:=by
 have h0:(laid.filter fun x=>x.2.handleName?.isSome)=[]:=by kernel_rfl
 unfold laidMetH at hL
 rw [h0] at hL
 have h1:laidMet Tryz.prog laid W:=hL
 have he:Rows.laid_strings_asciiSpace=(Go.Lib.tabData .u8 Go.Lib.asciiSpaceTab:DataW Unit):=by kernel_rfl
 unfold laid at h1
 rw [he] at h1
 have h2:=laidMet.tail (laidMet.tail h1)
 have htab:=Go.Lib.tabIs_of_head gT gTType (e:=5) (n:=256) (by kernel_rfl) (by kernel_rfl) (by kernel_rfl) (by kernel_rfl) h2
 refine ⟨htab,?_⟩
 rcases Nat.lt_or_ge 0 W.heap.size with h | h
 ·exact h
 ·exfalso
  unfold Go.Lib.TabIs World.var? at htab
  rw [gT] at htab
  simp [Array.getElem?_eq_none h] at htab
noncomputable def laidWorld (os:Os):World :=
 let N:=(World.settled Tryz.prog os).heap.size
 let w0:=World.holding Tryz.prog os ⟨#[.cells (Go.Lib.whiteT.map fun (z:Nat)=>Value.int .u16 (z:Int)).toArray 217,.cells #[.slice (some ⟨N,0,none⟩) 7 7,.slice none 0 0,.int .i64 2] 214],#[],[]⟩
 let put (h:Array Obj) (g:Nat) (cs:Array Value):Array Obj:=h.modify g fun
  | .cells _ t frozen=>.cells cs t frozen
  | o=>o
 let h1:=put w0.heap 0 (Go.Lib.asciiSpaceTab.map fun z=>Value.int .u8 z).toArray
 let h2:=put h1 3 (Go.Pinned.utf8FirstZ.map fun (z:Nat)=>Value.int .u8 (z:Int)).toArray
 let h3:=put h2 4 (([128,191,160,191,128,159,144,191,128,143]++List.replicate 22 0).map fun (z:Nat)=>Value.int .u8 (z:Int)).toArray
 let h4:=put h3 1 #[.pointer (some ⟨N + 1,0,none⟩)]
 { w0 with heap:=h4 }
theorem laidWorld_met (os:Os) (args:Array Value):laidMetH Tryz.prog laid ((laidWorld os).forCall (fun _ _=>0) ⟨#[],args,[]⟩).memory:=by
 have h0:(laid.filter fun x=>x.2.handleName?.isSome)=[]:=by kernel_rfl
 unfold laidMetH
 rw [h0]
 exact laidMet_of_run' 10 (by kernel_rfl) (by kernel_rfl)
end
end Go.Proofs.YtmelcflkbfhohaaGreatDoor.R
