/- EvO2 EvI EvO3 EvP -/
import Derived.Test.YtmelcflkbfhohaaGreatDoorPart0
import Derived.IntWalk
set_option linter.unusedVariables false
set_option linter.unusedSimpArgs false
namespace Go.Proofs.YtmelcflkbfhohaaGreatDoor.W.E
section
open Go.RowKit
def nilEq (sz:Nat→Option Nat) (d:TypeDesc) (x y:SV):Option Bool :=
 match d with
 | .pointer el=>match x,y with
  | .nilp,.nilp=>some true
  | .nilp,.ptr _ _=>some false
  | .ptr _ _,.nilp=>some false
  | .ptr b o,.ptr c p=>match sz el with
   | some (_ + 1)=>bif Nat.beq b c then some (Nat.beq o p) else none
   | _=>none
  | _,_=>none
 | .slice _=>match x,y with
  | .nils,.nils=>some true
  | .nils,.sl ..=>some false
  | .sl ..,.nils=>some false
  | _,_=>none
 | .map _ _=>match x,y with
  | .nilm,.nilm=>some true
  | .nilm,.map _=>some false
  | .map _,.nilm=>some false
  | _,_=>none
 | .func _ _ _=>match x,y with
  | .nilf,.nilf=>some true
  | .nilf,.fn ..=>some false
  | .fn ..,.nilf=>some false
  | _,_=>none
 | .interface _=>match x,y with
  | .nili,.nili=>some true
  | .nili,.iface ..=>some false
  | .iface ..,.nili=>some false
  | _,_=>none
 | _=>none
def eqFs (P:Program) (eq:TypeId→SV→SV→Option Bool) (xs ys:List SV):List Field→Option Bool
 | []=>some true
 | f :: fs=>bif f.name == "_" then eqFs P eq xs ys fs else
  match partS P f.type xs f.offset with
  | some a=>match partS P f.type ys f.offset with
   | some b=>match eq f.type a b with
    | some true=>eqFs P eq xs ys fs
    | some false=>some false
    | none=>none
   | none=>none
  | none=>none
def eqT (P:Program):Nat→TypeId→SV→SV→Option Bool
 | 0,_,_,_=>none
 | d + 1,t,x,y=>match P.underlying t with
  | some dsc=>match dsc with
   | .bool=>match x,y with
    | .bool a,.bool b=>some (a == b)
    | _,_=>none
   | .int _=>match x,y with
    | .int k a,.int j b=>bif decide (k=j) then some (a == b) else none
    | _,_=>none
   | .string=>match x,y with
    | .str a,.str b=>some (eqB a b)
    | _,_=>none
   | .struct fs=>match x,y with
    | .agg a,.agg b=>bif P.stoodInHeld t then none else eqFs P (eqT P d) a b fs.toList
    | _,_=>none
   | dsc=>nilEq (szT P) dsc x y
  | none=>none
theorem nilEq_ok {P:Program} {d:TypeDesc} {x y:SV} {r:Bool} (h:nilEq (szT P) d x y=some r) {e:Env} {u v:Value} (hx:VR e x u) (hy:VR e y v) (t:TypeId) (ht:P.underlying t=some d) (n:Nat) (w:World):(Op.equalIn (n + 1) t u v).run P w=.ok r w:=by
 unfold nilEq at h
 split at h
 ·split at h<;>(try cases h)
  ·cases hx;cases hy;unfold Op.equalIn;simp [run_underlying ht]
  ·cases hx;cases hy;unfold Op.equalIn;simp [run_underlying ht]
  ·cases hx;cases hy;unfold Op.equalIn;simp [run_underlying ht]
  ·rename_i b o c p
   split at h
   ·rename_i k hk
    cases hb:Nat.beq b c with
    | false=>rw [hb] at h;cases h
    | true =>
     rw [hb] at h;cases h
     have:=Nat.eq_of_beq_eq_true hb
     subst this
     cases hx with
     | ptr h1=>cases hy with
      | ptr h2 =>
       rw [h1] at h2;cases h2
       rename_i c' o' z'
       unfold Op.equalIn
       rw [beq_dec]
       by_cases hop:o=p
       ·subst hop;simp [run_underlying ht,run_szT hk,sameAddr]
       ·have:¬ (o' + o=o' + p):=by omega
        simp [run_underlying ht,run_szT hk,sameAddr,hop,this]
   ·cases h
 ·split at h<;>(try cases h)
  all_goals (cases hx<;>cases hy<;>(unfold Op.equalIn;simp [run_underlying ht]))
 ·split at h<;>(try cases h)
  all_goals (cases hx<;>cases hy<;>(unfold Op.equalIn;simp [run_underlying ht]))
 ·split at h<;>(try cases h)
  all_goals (cases hx<;>cases hy<;>(unfold Op.equalIn;simp [run_underlying ht]))
 ·split at h<;>(try cases h)
  all_goals (cases hx<;>cases hy<;>(unfold Op.equalIn;simp [run_underlying ht]))
 ·cases h
theorem eqFs_ok {P:Program} {n:Nat} {e:Env} (ih:∀ t x y r u v,eqT P n t x y=some r→VR e x u→VR e y v→∀ w,(Op.equalIn n t u v).run P w=.ok r w) {xs ys:List SV} {us vs:List Value} (hx:VRs e xs us) (hy:VRs e ys vs) :
  ∀ (fs:List Field) (r:Bool),eqFs P (eqT P n) xs ys fs=some r→∀ w,(Op.eqFields n ⟨us⟩ ⟨vs⟩ fs).run P w=.ok r w
 | [],r,h,w=>by cases h;simp [Op.eqFields]
 | f :: fs,r,h,w=>by
  unfold eqFs at h
  cases hf:f.name == "_" with
  | true =>
   rw [hf] at h
   have hn:f.name= "_":=by simpa using hf
   unfold Op.eqFields
   simp only [hn,ne_eq,not_true_eq_false,if_false]
   exact eqFs_ok ih hx hy fs r h w
  | false =>
   rw [hf] at h
   have hn:f.name≠ "_":=by simpa using hf
   simp only [cond_false] at h
   split at h
   ·rename_i a ha
    split at h
    ·rename_i b hb
     obtain ⟨u1,p1,q1⟩:=partS_ok ha hx w
     obtain ⟨u2,p2,q2⟩:=partS_ok hb hy w
     split at h
     ·rename_i heq
      unfold Op.eqFields
      simp only [hn,ne_eq,not_false_eq_true,if_true,Sem.run_bind,p1,p2,Result.andThen_ok,ih _ _ _ _ _ _ heq q1 q2,Bool.not_true,Bool.false_eq_true,if_false]
      exact eqFs_ok ih hx hy fs r h w
     ·rename_i heq
      cases h
      unfold Op.eqFields
      simp only [hn,ne_eq,not_false_eq_true,if_true,Sem.run_bind,p1,p2,Result.andThen_ok,ih _ _ _ _ _ _ heq q1 q2,Bool.not_false]
      rfl
     ·cases h
    ·cases h
   ·cases h
theorem eqT_ok {P:Program} {e:Env}:∀ (n:Nat) (t:TypeId) (x y:SV) (r:Bool) (u v:Value),eqT P n t x y=some r→VR e x u→VR e y v→∀ w,(Op.equalIn n t u v).run P w=.ok r w
 | 0,_,_,_,_,_,_,h,_,_,_=>by cases h
 | n + 1,t,x,y,r,u,v,h,hx,hy,w=>by
  unfold eqT at h
  split at h
  ·rename_i dsc ht
   split at h
   ·split at h
    ·cases h;cases hx;cases hy;unfold Op.equalIn;simp [run_underlying ht]
    ·cases h
   ·split at h
    ·rename_i k a j b
     cases hk:decide (k=j) with
     | false=>rw [hk] at h;cases h
     | true =>
      rw [hk] at h;cases h;cases hx;cases hy
      have:=of_decide_eq_true hk
      subst this
      unfold Op.equalIn;simp [run_underlying ht]
    ·cases h
   ·split at h
    ·cases h;cases hx;cases hy;unfold Op.equalIn;rw [eqB_ok];simp [run_underlying ht,beq_bs]
    ·cases h
   ·rename_i fs
    split at h
    ·rename_i a b
     cases hs:P.stoodInHeld t with
     | true=>rw [hs] at h;cases h
     | false =>
      rw [hs] at h
      cases hx with
      | agg hx=>cases hy with
       | agg hy =>
        rw [run_equalIn_struct (hp:=hs) (ht:=by rw [ht];simp [Program.fieldsOf,ht])]
        have:P.fieldsOf t=fs:=by simp [Program.fieldsOf,ht]
        rw [this]
        exact eqFs_ok (fun t x y r u v a b c w=>eqT_ok n t x y r u v a b c w) hx hy _ r h w
    ·cases h
   ·exact nilEq_ok h hx hy t ht n w
  ·cases h
end
section
open Go.RowKit
def kHi (k:IntKind):Nat:=match k with
 | .i8=>nat_lit 127 | .u8=>nat_lit 255 | .i16=>nat_lit 32767 | .u16=>nat_lit 65535 | .i32=>nat_lit 2147483647 | .u32=>nat_lit 4294967295 | .i64=>nat_lit 9223372036854775807 | .u64=>nat_lit 18446744073709551615
def kSg (k:IntKind):Bool:=match k with
 | .i8=>true | .i16=>true | .i32=>true | .i64=>true | _=>false
def wrapF (k:IntKind) (n:Int):Int :=
 Int.casesOn n (fun m=>cond (Nat.ble m (kHi k)) (Int.ofNat m) (k.wrap (Int.ofNat m))) (fun m=>cond (and (kSg k) (Nat.ble m (kHi k))) (Int.negSucc m) (k.wrap (Int.negSucc m)))
theorem wrap_pos (k:IntKind) (m:Nat) (h:m≤kHi k):k.wrap (Int.ofNat m)=Int.ofNat m:=by
 cases k<;>simp only [kHi] at h<;>simp [IntKind.wrap,IntKind.bits,IntKind.signed]<;>omega
theorem wrap_neg (k:IntKind) (m:Nat) (hs:kSg k=true) (h:m≤kHi k):k.wrap (Int.negSucc m)=Int.negSucc m:=by
 rw [Int.negSucc_eq]
 cases k
 ·exact IntWalk.i8_in _ (by simp only [kHi] at h;omega)
 ·exact IntWalk.i16_in _ (by simp only [kHi] at h;omega)
 ·exact IntWalk.i32_in _ (by simp only [kHi] at h;omega)
 ·exact IntWalk.i64_in _ (by simp only [kHi] at h;omega)
 all_goals exact absurd hs (by decide)
theorem wrapF_eq (k:IntKind) (n:Int):wrapF k n=k.wrap n:=by
 cases n with
 | ofNat m =>
  show cond (Nat.ble m (kHi k)) _ _=_
  cases h:Nat.ble m (kHi k) with
  | true=>rw [cond_true,wrap_pos k m (zB h)]
  | false=>rfl
 | negSucc m =>
  show cond (and (kSg k) (Nat.ble m (kHi k))) _ _=_
  cases h:and (kSg k) (Nat.ble m (kHi k)) with
  | true =>
   simp only [Bool.and_eq_true] at h
   rw [cond_true,wrap_neg k m h.1 (zB h.2)]
  | false=>rfl
def ltI (a b:Int):Bool:=Int.casesOn a (fun m=>Int.casesOn b (fun n=>Nat.blt m n) (fun _=>false)) (fun m=>Int.casesOn b (fun _=>true) (fun n=>Nat.blt n m))
theorem ltI_eq (a b:Int):ltI a b=decide (a < b):=by
 cases a with
 | ofNat m=>cases b with
  | ofNat n=>show Nat.blt m n=_;rw [Bool.eq_iff_iff];simp [Nat.blt_eq]
  | negSucc n=>show false=_;symm;simp only [decide_eq_false_iff_not,Int.ofNat_eq_natCast,Int.negSucc_eq];omega
 | negSucc m=>cases b with
  | ofNat n=>show true=_;symm;simp only [decide_eq_true_eq,Int.ofNat_eq_natCast,Int.negSucc_eq];omega
  | negSucc n=>show Nat.blt n m=_;rw [Bool.eq_iff_iff];simp only [Nat.blt_eq,Int.negSucc_eq,decide_eq_true_eq];omega
def same (k j:IntKind) (v:Option SV):Option SV:=cond (kEq k j) v none
def intV (op:BinOp) (k j:IntKind) (a b:Int):Option SV :=
 match op with
 | .add=>same k j (some (.int k (wrapF k (Int.add a b))))
 | .sub=>same k j (some (.int k (wrapF k (Int.sub a b))))
 | .mul=>same k j (some (.int k (wrapF k (Int.mul a b))))
 | .eql=>same k j (some (.bool (eqI a b)))
 | .neq=>same k j (some (.bool (not (eqI a b))))
 | .lss=>same k j (some (.bool (ltI a b)))
 | .leq=>same k j (some (.bool (not (ltI b a))))
 | .gtr=>same k j (some (.bool (ltI b a)))
 | .geq=>same k j (some (.bool (not (ltI a b))))
 | .rem=>same k j (cond (eqI b 0) none (some (.int k (Int.tmod a b))))
 | .quo=>same k j (cond (eqI b 0) none (some (.int k (wrapF k (Int.tdiv a b)))))
 | .shl=>ofPure (Op.shift .shl k a j b)
 | .shr=>ofPure (Op.shift .shr k a j b)
 | .and=>same k j (ofPure (Op.intBits .and k a b))
 | .or=>same k j (ofPure (Op.intBits .or k a b))
 | .xor=>same k j (ofPure (Op.intBits .xor k a b))
 | .andNot=>same k j (ofPure (Op.intBits .andNot k a b))
theorem same_ok {k j:IntKind} {v:Option SV} {x:SV} (h:same k j v=some x):k=j∧v=some x:=by
 unfold same at h
 cases hk:kEq k j with
 | true=>rw [hk] at h;exact ⟨kEq_ok hk,h⟩
 | false=>rw [hk] at h;cases h
theorem intV_ok {op:BinOp} {k j:IntKind} {a b:Int} {v:SV} (h:intV op k j a b=some v) (t:TypeId):ofPure (binOp op t (.int k a) (.int j b))=some v:=by
 cases op
 case shl=>exact h
 case shr=>exact h
 case quo =>
  obtain ⟨rfl,h2⟩:=same_ok h
  rw [eqI_eq] at h2
  by_cases hb:b=0
  ·simp [hb] at h2
  ·simp only [hb,beq_eq_false_iff_ne.2 hb,cond_false,wrapF_eq] at h2
   cases h2
   simp only [binOp,ne_eq,not_true_eq_false,if_false,Op.intDiv,hb];rfl
 case rem =>
  obtain ⟨rfl,h2⟩:=same_ok h
  rw [eqI_eq] at h2
  by_cases hb:b=0
  ·simp [hb] at h2
  ·simp only [hb,beq_eq_false_iff_ne.2 hb,cond_false] at h2
   cases h2
   simp only [binOp,ne_eq,not_true_eq_false,if_false,Op.intDiv,hb];rfl
 all_goals
  obtain ⟨rfl,h2⟩:=same_ok h
  simp only [binOp,ne_eq,not_true_eq_false,if_false]
  first
   | exact h2
   | (cases h2;simp only [Op.intArith,wrapF_eq];rfl)
   | (cases h2;simp only [Op.intCmp,eqI_eq,bne];rfl)
   | (cases h2;simp only [Op.intCmp,ltI_eq];rfl)
   | (cases h2;simp only [Op.intCmp,ltI_eq];show some (SV.bool _)=_;congr 2;rw [Bool.eq_iff_iff];simp;done)
def convI (k:IntKind) (n:Int):Option SV:=some (.int k (wrapF k n))
theorem convI_eq (k:IntKind) (n:Int):convI k n=ofPure (Conv.intToInt k n):=by
 unfold convI;rw [wrapF_eq];rfl
end
section
open Go.RowKit
def isConstO:Operand→Bool
 | .const _=>true
 | _=>false
def SV.flat:SV→Bool
 | .agg _=>true
 | _=>false
def binV (P:Program) (op:BinOp) (t:TypeId) (cst:Bool) (x y:SV):Option SV :=
 match x,y with
 | .int k a,.int j b=>intV op k j a b
 | .str a,.str b=>binS op a b
 | x,y=>bif (match x with | .nili=>!cst | .agg _=>P.eqGuardType P.depth t | _=>false) then none else
  match op with
  | .eql=>match eqT P 10000 t x y with
   | some r=>some (.bool r)
   | none=>none
  | .neq=>match eqT P 10000 t x y with
   | some r=>some (.bool !r)
   | none=>none
  | _=>none
theorem run_eqGuard {P:Program} {op:BinOp} {t:TypeId} {x y:Operand} {u v:Value} (h:(match u with | .nilIface=>isConstO x || isConstO y | .agg _=>!P.eqGuardType P.depth t | _=>true)=true) (w:World):(eqGuard op t x y u v).run P w=.ok () w:=by
 unfold eqGuard
 cases op<;>first | rfl | skip
 all_goals
  cases u<;>cases v<;>first | rfl | skip
  ·have h':(isConstO x || isConstO y)=true:=h
   cases x<;>cases y<;>first | rfl | (simp [isConstO] at h';done)
  ·have hq:P.eqGuardType P.depth t=false:=by simpa using h
   simp [hq]
theorem binV_ok {P:Program} {op:BinOp} {t:TypeId} {x y:Operand} {a b:SV} {v:SV} (h:binV P op t (isConstO x || isConstO y) a b=some v) {e:Env} {u1 u2:Value} (hx:VR e a u1) (hy:VR e b u2) (w:World) :
  ∃ u,(do eqGuard op t x y u1 u2;binOp op t u1 u2:Sem Value).run P w=.ok u w∧VR e v u:=by
 unfold binV at h
 split at h
 ·cases hx;cases hy
  obtain ⟨u,h1,h2⟩:=ofPure_ok (intV_ok h t) e P w
  exact ⟨u,by rw [Sem.run_bind,run_eqGuard rfl];exact h1,h2⟩
 ·rename_i s s'
  cases hx;cases hy
  obtain ⟨u,h1,h2⟩:=binS_ok h e P w
  exact ⟨u,by rw [Sem.run_bind,run_eqGuard rfl];cases op<;>exact h1,h2⟩
 ·rename_i n1 n2
  generalize hg:(match a with | .nili=>!(isConstO x || isConstO y) | .agg _=>P.eqGuardType P.depth t | _=>false)=g at h
  cases g with
  | true=>cases h
  | false =>
   have hguard:(eqGuard op t x y u1 u2).run P w=.ok () w:=run_eqGuard (by cases hx<;>first | rfl | (simp_all;done) | (simp at hg;cases hcx:isConstO x<;>simp_all)) w
   simp only [cond_false] at h
   have hb:∀ r,eqT P 10000 t a b=some r→(Op.equal t u1 u2).run P w=.ok r w:=fun r hr=>eqT_ok 10000 t a b r u1 u2 hr hx hy w
   split at h
   ·split at h
    ·rename_i r hr
     cases h
     refine ⟨.bool r,?_,.bool r⟩
     rw [Sem.run_bind,hguard,Result.andThen_ok]
     have:=hb r hr
     cases hx<;>cases hy<;>first | (exact absurd rfl (n1 _ _ _ _ rfl)) | (exact (n1 _ _ _ _ rfl rfl).elim) | (exact (n2 _ _ rfl rfl).elim) | (simp [binOp,this])
    ·cases h
   ·split at h
    ·rename_i r hr
     cases h
     refine ⟨.bool !r,?_,.bool _⟩
     rw [Sem.run_bind,hguard,Result.andThen_ok]
     have:=hb r hr
     cases hx<;>cases hy<;>first | (exact (n1 _ _ _ _ rfl rfl).elim) | (exact (n2 _ _ rfl rfl).elim) | (simp [binOp,this])
    ·cases h
   ·cases h
def unV (op:UnOp) (x:SV):Option SV :=
 match x with
 | .int k n=>ofPure (Op.unary op (.int k n))
 | .bool b=>ofPure (Op.unary op (.bool b))
 | _=>none
theorem unV_ok {op:UnOp} {x v:SV} (h:unV op x=some v) {e:Env} {u:Value} (hx:VR e x u) (P:Program) (w:World):∃ r,(Op.unary op u).run P w=.ok r w∧VR e v r:=by
 unfold unV at h
 split at h
 ·cases hx;exact ofPure_ok h e P w
 ·cases hx;exact ofPure_ok h e P w
 ·cases h
def convV (P:Program) (s d:TypeId) (x:SV):Option SV :=
 match P.underlying s with
 | some _=>match P.underlying d with
  | some (.int k)=>match x with
   | .int _ n=>convI k n
   | _=>none
  | some .string=>match x with
   | .str t=>some (.str t)
   | _=>none
  | _=>none
 | none=>none
theorem convV_ok {P:Program} {s d:TypeId} {x v:SV} (h:convV P s d x=some v) {e:Env} {u:Value} (hx:VR e x u) (w:World):∃ r,(convert s d u).run P w=.ok r w∧VR e v r:=by
 unfold convV at h
 split at h
 ·rename_i ds hs
  split at h
  ·rename_i k hd
   split at h
   ·cases hx
    obtain ⟨r,h1,h2⟩:=ofPure_ok ((convI_eq ..).symm.trans h) e P w
    refine ⟨r,?_,h2⟩
    unfold convert
    simp only [Sem.run_bind,run_underlying hs,run_underlying hd,Result.andThen_ok]
    exact h1
   ·cases h
  ·rename_i hd
   split at h
   ·cases h
    cases hx
    refine ⟨_,?_,.str _⟩
    unfold convert
    simp only [Sem.run_bind,run_underlying hs,run_underlying hd,Result.andThen_ok]
    cases ds<;>rfl
   ·cases h
  ·cases h
 ·cases h
def fieldV (P:Program) (t:TypeId) (x:SV) (f:Nat):Option SV :=
 match P.underlying t with
 | some (.struct fs)=>match fs[f]? with
  | some fd=>match x with
   | .agg cs=>partS P fd.type cs fd.offset
   | _=>none
  | none=>none
 | _=>none
theorem fieldV_ok {P:Program} {t:TypeId} {x v:SV} {f:Nat} (h:fieldV P t x f=some v) {e:Env} {u:Value} (hx:VR e x u) (w:World):∃ r,(Instr.field t u f).run P w=.ok r w∧VR e v r:=by
 unfold fieldV at h
 split at h
 ·rename_i fs ht
  split at h
  ·rename_i fd hf
   split at h
   ·cases hx with
    | agg hx =>
     obtain ⟨r,h1,h2⟩:=partS_ok h hx w
     exact ⟨r,by simp [Instr.field,run_underlying ht,hf,asAgg,h1],h2⟩
   ·cases h
  ·cases h
 ·cases h
theorem add_none (c o n:Nat):(⟨c,o,none⟩:Addr).add n=⟨c,o + n,none⟩:=by unfold Addr.add;split<;>simp_all
def fieldAddrV (P:Program) (t:TypeId) (x:SV) (f:Nat):Option SV :=
 match P.underlying t with
 | some (.struct fs)=>match fs[f]? with
  | some fd=>match szT P fd.type with
   | some (_ + 1)=>match x with
    | .ptr b o=>some (.ptr b (o + fd.offset))
    | _=>none
   | _=>none
  | none=>none
 | _=>none
theorem fieldAddrV_ok {P:Program} {t:TypeId} {x v:SV} {f:Nat} (h:fieldAddrV P t x f=some v) {e:Env} {u:Value} (hx:VR e x u) (w:World):∃ r,(Instr.fieldAt t u f).run P w=.ok r w∧VR e v r:=by
 unfold fieldAddrV at h
 split at h
 ·rename_i fs ht
  split at h
  ·rename_i fd hf
   split at h
   ·rename_i n hn
    split at h
    ·rename_i b o
     cases h
     cases hx with
     | ptr hb =>
      rename_i c o' z
      refine ⟨.pointer (some ⟨c,o' + (o + fd.offset),none⟩),?_,.ptr hb⟩
      simp [Instr.fieldAt,run_underlying ht,hf,Instr.sureAddr,fieldPlace,run_szT hn,add_none,Nat.add_assoc]
    ·cases h
   ·cases h
  ·cases h
 ·cases h
def natIx (i:Int) (n:Nat):Option Nat :=
 match i with
 | .ofNat k=>bif Nat.blt k n then some k else none
 | _=>none
theorem natIx_ok {i:Int} {n k:Nat} (h:natIx i n=some k):i=(k:Int)∧k < n:=by
 unfold natIx at h
 split at h
 ·rename_i j
  cases hb:Nat.blt j n with
  | false=>rw [hb] at h;cases h
  | true=>rw [hb] at h;cases h;exact ⟨rfl,by simpa [Nat.blt_eq] using hb⟩
 ·cases h
def indexAddrV (P:Program) (t:TypeId) (x i:SV):Option SV :=
 match i with
 | .int _ i=>match P.underlying t with
  | some (.slice el)=>match x with
   | .sl b o n esz _=>match natIx i n with
    | some k=>match szT P el with
     | some s=>bif Nat.beq s esz then some (.ptr b (o + k * esz)) else none
     | none=>none
    | none=>none
   | _=>none
  | some (.array n el)=>match x with
   | .ptr b o=>match natIx i n with
    | some k=>match szT P el with
     | some s=>some (.ptr b (o + k * s))
     | none=>none
    | none=>none
   | _=>none
  | _=>none
 | _=>none
theorem indexAddrV_ok {P:Program} {t:TypeId} {x i v:SV} (h:indexAddrV P t x i=some v) {e:Env} {u j:Value} (hx:VR e x u) (hi:VR e i j) (w:World):∃ r,(Instr.indexAt t u j).run P w=.ok r w∧VR e v r:=by
 unfold indexAddrV at h
 split at h
 ·rename_i ik i
  cases hi
  split at h
  ·rename_i el ht
   split at h
   ·rename_i b o n esz ck
    split at h
    ·rename_i k hk
     split at h
     ·rename_i s hs
      cases hb:Nat.beq s esz with
      | false=>rw [hb] at h;cases h
      | true =>
       rw [hb] at h;cases h
       have:=Nat.eq_of_beq_eq_true hb
       subst this
       obtain ⟨rfl,hlt⟩:=natIx_ok hk
       have h1:(0:Int)≤(k:Int):=by omega
       have h2:¬ n≤k:=by omega
       cases hx with
       | sl hb hl hz hm hc =>
        rename_i c o' z cap
        refine ⟨.pointer (some ⟨c,o' + (o + k * s),none⟩),?_,.ptr hb⟩
        simp [Instr.indexAt,asIntOf,run_underlying ht,h1,h2,run_szT hs,add_none,Nat.add_assoc]
       | sle=>omega
     ·cases h
    ·cases h
   ·cases h
  ·rename_i n el ht
   split at h
   ·rename_i b o
    split at h
    ·rename_i k hk
     split at h
     ·rename_i s hs
      cases h
      obtain ⟨rfl,hlt⟩:=natIx_ok hk
      have h1:(0:Int)≤(k:Int):=by omega
      have h2:¬ n≤k:=by omega
      cases hx with
      | ptr hb =>
       rename_i c o' z
       refine ⟨.pointer (some ⟨c,o' + (o + k * s),none⟩),?_,.ptr hb⟩
       simp [Instr.indexAt,asIntOf,run_underlying ht,Instr.sureAddr,h1,h2,run_szT hs,add_none,Nat.add_assoc]
     ·cases h
    ·cases h
   ·cases h
  ·cases h
 ·cases h
def indexV (P:Program) (t:TypeId) (x i:SV):Option SV :=
 match i with
 | .int _ i=>match P.underlying t with
  | some .string=>match x with
   | .str s=>match natIx i s.length with
    | some k=>match s[k]? with
     | some b=>some (.int .u8 b.toNat)
     | none=>none
    | none=>none
   | _=>none
  | some (.array n el)=>match x with
   | .agg cs=>match natIx i n with
    | some k=>match szT P el with
     | some s=>partS P el cs (k * s)
     | none=>none
    | none=>none
   | _=>none
  | _=>none
 | _=>none
theorem indexV_ok {P:Program} {t:TypeId} {x i v:SV} (h:indexV P t x i=some v) {e:Env} {u j:Value} (hx:VR e x u) (hi:VR e i j) (w:World):∃ r,(Instr.index t u j).run P w=.ok r w∧VR e v r:=by
 unfold indexV at h
 split at h
 ·rename_i ik i
  cases hi
  split at h
  ·rename_i ht
   split at h
   ·rename_i s
    split at h
    ·rename_i k hk
     split at h
     ·rename_i b hb
      cases h
      cases hx
      obtain ⟨rfl,hlt⟩:=natIx_ok hk
      have h1:(0:Int)≤(k:Int):=by omega
      have hg:(bs s)[k]?=some b:=by
       have hz:k < (bs s).size:=by simpa [ByteArray.size] using hlt
       rw [getElem?_pos (bs s) k hz]
       congr 1
       have:=(List.getElem?_eq_some_iff.1 hb).2
       simpa [ByteArray.getElem_eq_getElem_data] using this
      refine ⟨.int .u8 b.toNat,?_,.int _ _⟩
      simp [Instr.index,asIntOf,run_underlying ht,h1,hg]
     ·cases h
    ·cases h
   ·cases h
  ·rename_i n el ht
   split at h
   ·rename_i cs
    split at h
    ·rename_i k hk
     split at h
     ·rename_i s hs
      obtain ⟨rfl,hlt⟩:=natIx_ok hk
      have h1:(0:Int)≤(k:Int):=by omega
      have h2:¬ n≤k:=by omega
      cases hx with
      | agg hx =>
       obtain ⟨r,q1,q2⟩:=partS_ok h hx w
       refine ⟨r,?_,q2⟩
       simp [Instr.index,asIntOf,run_underlying ht,h1,h2,run_szT hs,q1]
     ·cases h
    ·cases h
   ·cases h
  ·cases h
 ·cases h
end
section
open Go.RowKit
def AS (e:Env) (tm:T SV) (a:Go.Act) (l:List Operand):Prop:=∀ x∈l,∀ v,evx tm x=some v→VR e v (a.eval x)
theorem AR.as {e:Env} {tm:T SV} {a:Go.Act} (h:AR e tm a.tmps) (l:List Operand):AS e tm a l:=fun _ _ _ hv=>evx_ok h hv
theorem AS.list {e:Env} {tm:T SV} {a:Go.Act}:∀ {l:List Operand} {vs:List SV},AS e tm a l→evxs tm l=some vs→VRs e vs (l.map a.eval)
 | [],vs,_,hx=>by cases hx;exact .nil
 | x :: t,vs,h,hx=>by
  unfold evxs at hx
  split at hx
  ·rename_i v hv
   split at hx
   ·rename_i l hl
    cases hx
    exact .cons (h x (List.mem_cons_self ..) v hv) (AS.list (fun y hy=>h y (List.mem_cons_of_mem _ hy)) hl)
   ·cases hx
  ·cases hx
def zeroS (P:Program) (t:TypeId):Option (List SV) :=
 match P.info? t with
 | some i=>match i.zero with
  | some z=>svs z.cells.toList
  | none=>none
 | none=>none
theorem zeroS_ok {P:Program} {t:TypeId} {zs:List SV} (h:zeroS P t=some zs):∃ i z,P.info? t=some i∧i.zero=some z∧svs z.cells.toList=some zs:=by
 unfold zeroS at h
 split at h
 ·rename_i i hi
  split at h
  ·rename_i z hz;exact ⟨i,z,hi,hz,h⟩
  ·cases h
 ·cases h
theorem run_zeroS {P:Program} {t:TypeId} {i:TypeInfo} {z:Value} (hi:P.info? t=some i) (hz:i.zero=some z) (w:World):(zeroValue t).run P w=.ok z w:=by
 simp [zeroValue,typeInfo,hi,hz]
def setRange (cs:List SV) (off:Nat) (v:List SV):List SV:=cs.take off++(v++cs.drop (off + v.length))
theorem fill_step (off:Nat):∀ (xs:List Value) (k:Nat) (arr:Array Value),off + k + xs.length≤arr.size →
  ((xs.zipIdx k).foldl (fun cs (x:Value × Nat)=>cs.setIfInBounds (off + x.2) x.1) arr).toList=arr.toList.take (off + k)++(xs++arr.toList.drop (off + k + xs.length))
 | [],k,arr,h=>by simp
 | x :: t,k,arr,h=>by
  have h0:off + k < arr.size:=by simp at h;omega
  have h1:off + k + (t.length + 1)≤arr.size:=h
  rw [List.zipIdx_cons,List.foldl_cons,fill_step off t (k + 1) _ (by simp;omega)]
  have e1:(arr.setIfInBounds (off + k) x).toList=arr.toList.set (off + k) x:=by simp
  rw [e1]
  have e2:off + (k + 1)=off + k + 1:=by omega
  rw [e2,List.take_succ_eq_append_getElem (by simp;exact h0)]
  have h2:off + k < arr.toList.length:=by simpa using h0
  have e3:(arr.toList.set (off + k) x).drop (off + k + 1 + t.length)=arr.toList.drop (off + k + 1 + t.length):=by
   rw [List.drop_set_of_lt (by omega)]
  rw [e3,List.getElem_set_self]
  have e4:off + k + 1 + t.length=off + k + (x :: t).length:=by simp;omega
  rw [e4]
  have e5:(arr.toList.set (off + k) x).take (off + k)=arr.toList.take (off + k):=by
   rw [List.take_set_of_le (by omega)]
  rw [e5]
  simp [List.append_assoc]
theorem VRs.setRange {e:Env} {cs v:List SV} {us xs:List Value} {off:Nat} (h:VRs e cs us) (k:VRs e v xs):VRs e (setRange cs off v) (us.take off++(xs++us.drop (off + xs.length))):=by
 unfold E.setRange
 rw [k.length]
 exact (h.take off).append (k.append (h.drop _))
def fillS (place:Nat→Option (Nat × Nat)):List SV→List (Nat × SV)→Option (List SV)
 | cs,[]=>some cs
 | cs,(i,v) :: rest=>match place i with
  | none=>none
  | some p=>bif Nat.beq v.cs.length p.2 && Nat.ble (p.1 + p.2) cs.length then fillS place (setRange cs p.1 v.cs) rest else none
theorem fillS_ok {e:Env} {place:Nat→Option (Nat × Nat)}:∀ {ps:List (Nat × SV)} {us:List (Nat × Value)} {cs rs:List SV} {arr:Array Value},
  fillS place cs ps=some rs→VRs e cs arr.toList→ps.map (·.1)=us.map (·.1)→VRs e (ps.map (·.2)) (us.map (·.2))→∃ out,Instr.fill place arr us=some out∧VRs e rs out.toList∧out.size=arr.size
 | [],[],cs,rs,arr,h,hc,_,_=>by cases h;exact ⟨arr,rfl,hc,rfl⟩
 | (i,v) :: ps,(j,u) :: us,cs,rs,arr,h,hc,hi,hv=>by
  simp only [List.map_cons,List.cons.injEq] at hi
  obtain ⟨rfl,hi⟩:=hi
  cases hv with
  | cons hv1 hv2 =>
   unfold fillS at h
   split at h
   ·cases h
   ·rename_i p hp
    obtain ⟨off,size⟩:=p
    cases hb:Nat.beq v.cs.length size && Nat.ble (off + size) cs.length with
    | false=>rw [hb] at h;cases h
    | true =>
     rw [hb] at h
     simp only [Bool.and_eq_true] at hb
     have h1:=Nat.eq_of_beq_eq_true hb.1
     have h2:=zB hb.2
     have hcl:=hc.length
     have hvc:=hv1.cells
     have hvl:=hvc.length
     simp only [Array.length_toList] at hcl hvl
     unfold Instr.fill
     rw [hp]
     have g1:¬ (u.cells.size≠size∨off + u.cells.size > arr.size):=by omega
     have g2:(decide (u.cells.size≠size) || decide (off + u.cells.size > arr.size))=false:=by simp;omega
     simp only [g2,Bool.false_eq_true,if_false]
     have hfold:(u.cells.zipIdx.foldl (fun cs (x:Value × Nat)=>cs.setIfInBounds (off + x.2) x.1) arr).toList=arr.toList.take off++(u.cells.toList++arr.toList.drop (off + u.cells.toList.length)):=by
      rw [← Array.foldl_toList,Array.toList_zipIdx]
      have:=fill_step off u.cells.toList 0 arr (by simp;omega)
      simpa using this
     obtain ⟨out,k1,k2,k3⟩:=fillS_ok (arr:=u.cells.zipIdx.foldl (fun cs (x:Value × Nat)=>cs.setIfInBounds (off + x.2) x.1) arr) h (by rw [hfold];exact hc.setRange hvc) hi hv2
     refine ⟨out,k1,k2,k3.trans ?_⟩
     have:=congrArg List.length hfold
     rw [Array.length_toList] at this
     rw [this]
     simp
     omega
 | [],_ :: _,_,_,_,_,_,hi,_=>by simp at hi
 | _ :: _,[],_,_,_,_,_,hi,_=>by simp at hi
def evps (tm:T SV):List (Nat × Operand)→Option (List (Nat × SV))
 | []=>some []
 | p :: t=>match evx tm p.2 with
  | some v=>match evps tm t with
   | some l=>some ((p.1,v) :: l)
   | none=>none
  | none=>none
theorem evps_ok {e:Env} {tm:T SV} {a:Go.Act}:∀ {l:List (Nat × Operand)} {ps:List (Nat × SV)},AS e tm a (l.map (·.2))→evps tm l=some ps →
  ps.map (·.1)=l.map (·.1)∧VRs e (ps.map (·.2)) (l.map fun p=>a.eval p.2)
 | [],_,_,h=>by cases h;exact ⟨rfl,.nil⟩
 | p :: t,ps,hs,h=>by
  unfold evps at h
  split at h
  ·rename_i v hv
   split at h
   ·rename_i l hl
    cases h
    obtain ⟨h1,h2⟩:=evps_ok (fun x hx=>hs x (List.mem_cons_of_mem _ hx)) hl
    exact ⟨by simp [h1],.cons (hs p.2 (List.mem_cons_self ..) v hv) h2⟩
   ·cases h
  ·cases h
def sizesS (P:Program):List Field→Option (List (Nat × Nat))
 | []=>some []
 | f :: t=>match szT P f.type with
  | some n=>match sizesS P t with
   | some l=>some ((f.offset,n) :: l)
   | none=>none
  | none=>none
theorem run_sizesS {P:Program}:∀ {l:List Field} {ps:List (Nat × Nat)},sizesS P l=some ps→∀ w,(l.mapM fun f=>(sizeOf f.type >>= fun n=>pure (f.offset,n):Sem (Nat × Nat))).run P w=.ok ps w
 | [],ps,h,w=>by cases h;simp
 | f :: t,ps,h,w=>by
  unfold sizesS at h
  split at h
  ·rename_i n hn
   split at h
   ·rename_i l hl
    cases h
    rw [List.mapM_cons]
    simp only [Sem.run_bind,run_szT hn,Result.andThen_ok,Sem.run_pure,run_sizesS hl]
   ·cases h
  ·cases h
def buildV (P:Program) (t:TypeId) (ps:List (Nat × SV)):Option SV :=
 match zeroS P t with
 | some zs=>match P.underlying t with
  | some (.struct fs)=>match sizesS P fs.toList with
   | some pl=>match fillS (fun i=>pl[i]?) zs ps with
    | some cs=>some (.agg cs)
    | none=>none
   | none=>none
  | some (.array _ el)=>match szT P el with
   | some s=>match fillS (fun i=>some (i * s,s)) zs ps with
    | some cs=>some (.agg cs)
    | none=>none
   | none=>none
  | _=>none
 | none=>none
theorem buildV_ok {P:Program} {t:TypeId} {ps:List (Nat × SV)} {us:Array (Nat × Value)} {v:SV} {e:Env} (h:buildV P t ps=some v) (h1:ps.map (·.1)=us.toList.map (·.1)) (h2:VRs e (ps.map (·.2)) (us.toList.map (·.2))) (w:World) :
  ∃ r,(Instr.build t us).run P w=.ok r w∧VR e v r:=by
 unfold buildV at h
 split at h
 ·rename_i zs hz
  obtain ⟨i,z,hi,hzz,hzs⟩:=zeroS_ok hz
  have hzr:=run_zeroS hi hzz w
  split at h
  ·rename_i fs ht
   split at h
   ·rename_i pl hpl
    split at h
    ·rename_i cs hcs
     cases h
     obtain ⟨out,k1,k2,k3⟩:=fillS_ok hcs (svs_ok e hzs).1 h1 h2
     refine ⟨.agg out,?_,.agg (us:=out.toList) k2⟩
     have hm:(fs.mapM fun f=>(sizeOf f.type >>= fun n=>pure (f.offset,n):Sem (Nat × Nat))).run P w=.ok pl.toArray w:=by
      rw [Array.mapM_eq_mapM_toList]
      show ((List.mapM (fun f=>(sizeOf f.type >>= fun n=>pure (f.offset,n):Sem (Nat × Nat))) fs.toList >>= fun x=>pure x.toArray:Sem (Array (Nat × Nat)))).run P w=_
      rw [Sem.run_bind,run_sizesS hpl w];rfl
     have hp:(fun i:Nat=>pl.toArray[i]?)=fun i:Nat=>pl[i]?:=by funext i;simp
     unfold Instr.build
     simp only [Sem.run_bind,hzr,Result.andThen_ok,run_underlying ht,hm,hp,k1]
     rfl
    ·cases h
   ·cases h
  ·rename_i el ht
   split at h
   ·rename_i s hs
    split at h
    ·rename_i cs hcs
     cases h
     obtain ⟨out,k1,k2,k3⟩:=fillS_ok hcs (svs_ok e hzs).1 h1 h2
     refine ⟨.agg out,?_,.agg (us:=out.toList) k2⟩
     unfold Instr.build
     simp only [Sem.run_bind,hzr,Result.andThen_ok,run_underlying ht,run_szT hs,k1]
     rfl
    ·cases h
   ·cases h
  ·cases h
 ·cases h
end
end Go.Proofs.YtmelcflkbfhohaaGreatDoor.W.E
