/- EvR -/
import Derived.Test.YtmelcflkbfhohaaGreatDoorPart4
import Derived.Orders
set_option linter.unusedVariables false
set_option linter.unusedSimpArgs false
namespace Go.Proofs.YtmelcflkbfhohaaGreatDoor.W.E
section
open Go.RowKit
section
variable {X:Type} {val:VF X} {P:Program} {L:EL X} {good:X→Prop} {call:Nat→List SV→St X→Option (SV × St X)}
theorem stepOp_ok (hval:ValOk P L good val) (hc:CallOk P L good call) {tm:T SV} {st st':St X} {o:Oper} {v:SV} (h:stepOp P val call tm st o.op=some (v,st')) (hg:good st'.x) :
  good st.x∧∀ e w F a (K:Go.Act→World→Prop) (Q:Exit→Go.Act→World→Prop),Rl L e st w F→AS e tm a o.op.operands.toList→(∀ u w' e' F',VR e' v u→Rl L e' st' w' F'→Nxt st.nx e st w F e' st' w' F'→K (a.put o.dst u) w')→o.wp P a w K Q:=by
 unfold stepOp at h
 split at h
 ·split at h
  ·rename_i v1 x1 hx
   cases h
   obtain ⟨g1,hv,g2⟩:=hval.val _ _ _ _ _ hx hg
   exact ⟨g1,fun e w F a K Q hR hs hK=>(opPure_ok hv hs w).wp fun u hu=>hK u w e F hu (hR.setx (g2 _ _ _ hR.ext)) ((Nxt.refl _ e st w F).setx st.x x1)⟩
  ·cases h
 ·split at h
  ·rename_i v' hv
   cases h
   exact ⟨hg,fun e w F a K Q hR hs hK=>(opLoad_ok hv hs hR).wp fun u hu=>hK u w e F hu hR (.refl ..)⟩
  ·split at h
   ·rename_i v1 x1 hx
    cases h
    obtain ⟨g1,hv,g2⟩:=hval.val _ _ _ _ _ hx hg
    exact ⟨g1,fun e w F a K Q hR hs hK=>(hval.look _ _ _ hv e _ w F a hR.ext hs).wp fun u hu=>hK u w e F hu (hR.setx (g2 _ _ _ hR.ext)) ((Nxt.refl _ e st w F).setx st.x x1)⟩
   ·cases h
 ·split at h
  ·rename_i p hp
   obtain ⟨k0,mk⟩:=p
   cases hb:Nat.blt st.nx TMax with
   | false=>rw [hb] at h;cases h
   | true =>
    rw [hb] at h;cases h
    have hn:st.nx < TMax:=by simpa [Nat.blt_eq] using hb
    refine ⟨hg,fun e w F a K Q hR hs hK=>(opNew_ok hp hs hR.none w).wp fun u obj z hB hu=>?_⟩
    obtain ⟨R1,N1⟩:=hR.fresh hn (k:=k0) (opNew_k hp).1 hB
    exact hK u _ _ _ hu R1 N1
  ·cases h
 ·exact effS_ok hc h hg
theorem tb_add {m i j:Nat}:tb (m ||| 2 ^ i) j=(tb m j || decide (i=j)):=by
 simp [tb,Nat.testBit_or,Nat.testBit_two_pow]
theorem tb_zero (j:Nat):tb 0 j=false:=by simp [tb]
theorem looks_ops {opl:List Oper} {o:Oper} {x:Operand} (h:x∈o.op.operands.toList):x∈looksO opl o:=by
 unfold looksO
 split
 ·exact h
 ·split
  ·exact List.mem_cons_of_mem _ h
  ·exact h
theorem depM_mem {o:Oper} {j:Nat}:tb (depM o) j=true↔∃ e∈o.after,Region.binds .any e=true∧e.on=j:=by
 have key:∀ (l:List Edge) (m:Nat),tb (l.foldl (fun m e=>if Region.binds .any e then m ||| 2 ^ e.on else m) m) j=true↔tb m j=true∨∃ e∈l,Region.binds .any e=true∧e.on=j:=by
  intro l
  induction l with
  | nil=>intro m;simp
  | cons x t ih =>
   intro m
   rw [List.foldl_cons,ih]
   by_cases hb:Region.binds .any x=true
   ·simp only [hb,if_true,tb_add,Bool.or_eq_true,decide_eq_true_eq,List.mem_cons,exists_eq_or_imp,true_and]
    constructor
    ·rintro ((h | h) | h)
     ·exact .inl h
     ·exact .inr (.inl h)
     ·exact .inr (.inr h)
    ·rintro (h | h | h)
     ·exact .inl (.inl h)
     ·exact .inl (.inr h)
     ·exact .inr h
   ·simp [hb]
 unfold depM
 rw [key]
 simp [tb_zero]
theorem ancF_sub {opl:List Oper} {D:Nat→Prop} (hD:∀ i o,D i→opl[i]?=some o→∀ e∈o.after,Region.binds .any e=true→D e.on) :
  ∀ (j m:Nat),(∀ i,tb m i=true→D i)→∀ i,tb (ancF opl j m) i=true→D i
 | 0,m,h,i,hi=>h i hi
 | j + 1,m,h,i,hi=>by
  unfold ancF at hi
  refine ancF_sub hD j _ (fun k hk=>?_) i hi
  split at hk
  ·rename_i hj
   split at hk
   ·rename_i o ho
    have:tb m k=true∨tb (depM o) k=true:=by
     simpa [tb,Nat.testBit_or] using hk
    rcases this with h1 | h1
    ·exact h k h1
    ·obtain ⟨e,e1,e2,rfl⟩:=depM_mem.1 h1
     exact hD j o (h j hj) ho e e1 e2
   ·exact h k hk
  ·exact h k hk
theorem anc_sub {opl:List Oper} {D:Nat→Prop} (hD:∀ i o,D i→opl[i]?=some o→∀ e∈o.after,Region.binds .any e=true→D e.on) {i:Nat} {o:Oper} (ho:opl[i]?=some o)
  (hi:∀ e∈o.after,Region.binds .any e=true→D e.on) (k:Nat) (hk:tb (anc opl i) k=true):D k:=by
 unfold anc at hk
 rw [ho] at hk
 refine ancF_sub hD _ _ (fun j hj=>?_) k hk
 obtain ⟨e,e1,e2,rfl⟩:=depM_mem.1 hj
 exact hi e e1 e2
theorem idxs_mem:∀ {l:List Oper} {k i:Nat} {o:Oper},l[i]?=some o→(k + i,o)∈idxs l k
 | [],_,_,_,h=>by simp at h
 | a :: t,k,0,o,h=>by simp at h;subst h;exact List.mem_cons_self ..
 | a :: t,k,i + 1,o,h=>by
  have:=idxs_mem (k:=k + 1) (l:=t) (i:=i) (o:=o) (by simpa using h)
  rw [show k + (i + 1)=k + 1 + i by omega]
  exact List.mem_cons_of_mem _ this
theorem idxs_mem0 {l:List Oper} {i:Nat} {o:Oper} (h:l[i]?=some o):(i,o)∈idxs l 0:=by have:=idxs_mem (k:=0) h;simpa using this
structure PlanOk (opl:List Oper) (pl:Plan):Prop where
 go:planGo opl (idxs opl 0) pl 0=true
 lt:∀ (i:Nat) (o:Oper),opl[i]?=some o→∀ e∈o.after,Region.binds .any e=true→e.on < i
 uniq:∀ (i:Nat) (o:Oper) (j:Nat) (p:Oper) (t:Tmp),opl[i]?=some o→opl[j]?=some p→i≠j→o.dst=some t→p.dst≠some t
 reads:∀ (i:Nat) (o:Oper) (j:Nat) (p:Oper) (t:Tmp),opl[i]?=some o→opl[j]?=some p→o.dst=some t→.tmp t∈looksO opl p→tb (depM p) i=true∨flagged pl i=true∧tb (anc opl i) j=true
theorem planOk_ok {opl:List Oper} {pl:Plan} (h:planOk opl pl=true):PlanOk opl pl:=by
 simp only [planOk,Bool.and_eq_true,List.all_eq_true] at h
 obtain ⟨h1,h2⟩:=h
 refine ⟨h1,fun i o ho e he hb=>?_,fun i o j p t ho hp hij ht hq=>?_,fun i o j p t ho hp ht hl=>?_⟩
 ·have:=(h2 _ (idxs_mem0 ho)).1
  have hlt:depM o < 2 ^ i:=by simpa [Nat.blt_eq] using this
  have hbit:tb (depM o) e.on=true:=depM_mem.2 ⟨e,he,hb,rfl⟩
  rcases Nat.lt_or_ge e.on i with h | h
  ·exact h
  ·have:(depM o).testBit e.on=false:=Nat.testBit_lt_two_pow (Nat.lt_of_lt_of_le hlt (Nat.pow_le_pow_right (by omega) h))
   rw [tb,this] at hbit;cases hbit
 ·have h3:=(h2 _ (idxs_mem0 ho)).2
  simp only [ht,List.all_eq_true,Bool.and_eq_true] at h3
  have h4:=(h3 _ (idxs_mem0 hp)).1
  simp only [hq,Bool.or_eq_true] at h4
  rcases h4 with h4 | h4
  ·exact hij (Nat.eq_of_beq_eq_true h4)
  ·simp at h4
 ·have h3:=(h2 _ (idxs_mem0 ho)).2
  simp only [ht,List.all_eq_true,Bool.and_eq_true] at h3
  have h4:=(h3 _ (idxs_mem0 hp)).2
  simp only [Bool.or_eq_true,Bool.not_eq_true',Bool.and_eq_true] at h4
  rcases h4 with (h4 | h4) | h4
  ·have:(looksO opl p).any (isT t)=true:=List.any_eq_true.2 ⟨_,hl,by simp [isT]⟩
   rw [this] at h4;cases h4
  ·exact .inl h4
  ·exact .inr h4
def wantS (opl:List Oper) (tm:T SV) (o:Oper):Option Bool :=
 match o.guard with
 | none=>some true
 | some (j,b)=>match (opl[j]?).bind (·.dst) with
  | none=>some false
  | some d=>match tm.get d with
   | some (.bool x)=>some (x == b)
   | some (.tup [])=>some false
   | _=>none
theorem wantS_ok {ops:Array Oper} {tm:T SV} {o:Oper} {b:Bool} (h:wantS ops.toList tm o=some b) {e:Env} {a:Go.Act} (hs:AS e tm a (looksO ops.toList o)):Region.wanted o (yielded ops a.tmps)=b:=by
 unfold wantS at h
 unfold Region.wanted
 cases hg:o.guard with
 | none=>rw [hg] at h;cases h;rfl
 | some p =>
  obtain ⟨j,b'⟩:=p
  rw [hg] at h
  simp only at h ⊢
  unfold yielded
  have e1:ops.toList[j]?=ops[j]?:=by simp
  rw [e1] at h
  cases hd:(ops[j]?).bind (·.dst) with
  | none=>rw [hd] at h;cases h;simp
  | some d =>
   rw [hd] at h
   have hl:Operand.tmp d∈looksO ops.toList o:=by unfold looksO;rw [hg];simp only [e1,hd];exact List.mem_cons_self ..
   simp only [Option.bind_some] at h ⊢
   split at h
   ·rename_i x hx
    cases h
    have:=hs _ hl _ hx
    generalize hq:a.eval (.tmp d)=u at this
    cases this
    simp only [Act.eval,Array.getD_eq_getD_getElem?] at hq
    cases ht:a.tmps[d]? with
    | none=>rw [ht] at hq;cases hq
    | some y=>rw [ht] at hq;simp only [Option.getD_some] at hq;subst hq;cases x<;>cases b'<;>rfl
   ·rename_i hx
    cases h
    have:=hs _ hl _ hx
    generalize hq:a.eval (.tmp d)=u at this
    cases this
    simp only [Act.eval,Array.getD_eq_getD_getElem?] at hq
    cases ht:a.tmps[d]? with
    | none=>simp
    | some y=>rw [ht] at hq;simp only [Option.getD_some] at hq;subst hq;simp
   ·cases h
def putS (N:Nat) (tm:T SV) (dst:Option Tmp) (v:SV):Option (T SV) :=
 match dst with
 | none=>some tm
 | some d=>bif Nat.blt d N && Nat.blt d TMax then some (tm.upd d (some v)) else none
structure LdE where
 i:Nat
 op:Op
 tm:T SV
 v:SV
def recheck (P:Program) (val:VF X) (m:T SB) (an:Nat):List LdE→X→Option X
 | [],x=>some x
 | l :: t,x=>match tb an l.i with
  | true=>recheck P val m an t x
  | false=>match opLoad P m l.tm l.op with
   | some v=>match val.same v l.v x with
    | some x'=>recheck P val m an t x'
    | none=>none
   | none=>none
structure Fill where
 mi:Nat
 id:Nat
 ty:TypeId
 kt:TypeId
 d:TypeDesc
 ins:List (Nat × SV × SV)
def isF:Option Bool→Bool
 | some false=>true
 | _=>false
def isTr:Option Bool→Bool
 | some true=>true
 | _=>false
theorem isF_ok {x:Option Bool} (h:isF x=true):x=some false:=by
 unfold isF at h
 split at h
 ·rfl
 ·cases h
def insOn (d:Nat) (o:Oper):Bool:=match o.op with
 | .insert _ (.tmp u) _ _=>Nat.beq u d
 | _=>false
def fillsB (opl:List Oper) (o:Oper):Bool:=match o.op with
 | .makeMap _ none=>match o.dst with
  | some d=>match opl.filter (insOn d) with
   | _ :: _ :: _=>true
   | _=>false
  | none=>false
 | _=>false
def fillNew (P:Program) (i id:Nat) (o:Op):Option Fill:=match o with
 | .makeMap t none=>match P.underlying t with
  | some (.map kt _)=>match P.underlying kt with
   | some d=>some ⟨i,id,t,kt,d,[]⟩
   | none=>none
  | _=>none
 | _=>none
def fillPut (tm:T SV) (i:Nat) (f:Fill) (o:Op):Option Fill:=match o with
 | .insert t x k y=>match evx tm x with
  | some (.map b)=>match evx tm k with
   | some q=>match evx tm y with
    | some v=>bif Nat.beq b f.id && Nat.beq t f.ty && keyOk f.d q && f.ins.all (fun p=>isF (eqKey f.d q p.2.1) && isF (eqKey f.d p.2.1 q)) then some ⟨f.mi,f.id,f.ty,f.kt,f.d,(i,q,v) :: f.ins⟩ else none
    | none=>none
   | none=>none
  | _=>none
 | _=>none
def fillLook (opl:List Oper) (i:Nat) (tm:T SV) (fm:Option Fill) (o:Op):Option SV:=match fm with
 | none=>none
 | some f=>match o with
  | .lookup t x k false=>match evx tm x with
   | some (.map b)=>match evx tm k with
    | some q=>match f.ins.filter (fun p=>isTr (eqKey f.d q p.2.1)) with
     | [p]=>bif Nat.beq b f.id && Nat.beq t f.ty && keyOk f.d q && f.ins.all (fun p=>tb (anc opl i) p.1 && (eqKey f.d q p.2.1).isSome) then some p.2.2 else none
     | _=>none
    | none=>none
   | _=>none
  | _=>none
def drawF (P:Program) (val:VF X) (call:Nat→List SV→St X→Option (SV × St X)) (opl:List Oper) (N:Nat):Plan→T SV→St X→List LdE→Option Fill→Option (T SV × St X)
 | [],tm,st,_,_=>some (tm,st)
 | (i,fl) :: t,tm,st,lds,fm=>match opl[i]? with
  | none=>none
  | some o=>match wantS opl tm o with
   | none=>none
   | some false=>match putS N tm o.dst (.tup []) with
    | some tm'=>drawF P val call opl N t tm' st lds fm
    | none=>none
   | some true=>match fl with
    | true=>match fillLook opl i tm fm o.op with
     | some v=>match putS N tm o.dst v with
      | some tm'=>drawF P val call opl N t tm' st lds fm
      | none=>none
     | none=>match stepOp P val call tm st o.op with
      | some p=>match putS N tm o.dst p.1 with
       | some tm'=>match (match Nat.beq (cls o.op) 3 with | true=>recheck P val p.2.m (anc opl i) lds p.2.x | false=>some p.2.x) with
        | some x=>drawF P val call opl N t tm' ⟨p.2.m,p.2.nx,x⟩ lds fm
        | none=>none
       | none=>none
      | none=>none
    | false=>match cls o.op with
     | 0=>match val.val o.op (opPure P tm o.op) st.x with
      | some (v',x)=>match putS N tm o.dst v' with
       | some tm'=>drawF P val call opl N t tm' ⟨st.m,st.nx,x⟩ lds fm
       | none=>none
      | none=>none
     | 1=>match opLoad P st.m tm o.op with
      | some v=>match putS N tm o.dst v with
       | some tm'=>drawF P val call opl N t tm' st (⟨i,o.op,tm,v⟩ :: lds) fm
       | none=>none
      | none=>match val.val o.op (val.look tm o.op) st.x with
       | some (v',x)=>match putS N tm o.dst v' with
        | some tm'=>drawF P val call opl N t tm' ⟨st.m,st.nx,x⟩ lds fm
        | none=>none
       | none=>none
     | 2=>match fillsB opl o with
      | true=>match fm with
       | none=>match fillNew P i st.nx o.op with
        | some f=>match putS N tm o.dst (.map st.nx) with
         | some tm'=>drawF P val call opl N t tm' ⟨st.m,st.nx + 1,st.x⟩ lds (some f)
         | none=>none
        | none=>none
       | some _=>none
      | false=>match opNew P tm o.op with
       | some p=>bif Nat.blt st.nx TMax then match putS N tm o.dst (p.2 st.nx) with
        | some tm'=>drawF P val call opl N t tm' (st.add p.1) lds fm
        | none=>none
        else none
       | none=>none
     | _=>match fm with
      | none=>none
      | some f=>match fillPut tm i f o.op with
       | some f'=>match putS N tm o.dst (.tup []) with
        | some tm'=>drawF P val call opl N t tm' st lds (some f')
        | none=>none
       | none=>none
def drawS (P:Program) (val:VF X) (call:Nat→List SV→St X→Option (SV × St X)) (opl:List Oper) (N:Nat) (pl:Plan) (tm:T SV) (st:St X) (lds:List LdE):Option (T SV × St X):=drawF P val call opl N pl tm st lds none
end
end
end Go.Proofs.YtmelcflkbfhohaaGreatDoor.W.E
