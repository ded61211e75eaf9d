/- EvP2 EvL EvA -/
import Derived.Test.YtmelcflkbfhohaaGreatDoorPart1
import Derived.Laws.IdiomCopy
import Derived.Laws.Cells
import Derived.Laws.MakeOwn
import Derived.Deep.AppendSrc
import Derived.Great.BuildSlice
set_option linter.unusedVariables false
set_option linter.unusedSimpArgs false
namespace Go.Proofs.YtmelcflkbfhohaaGreatDoor.W.E
section
open Go.RowKit
def nonNil:SV→Option SV
 | .nilp=>none
 | .nili=>none
 | .nilf=>none
 | v=>some v
def natLe (i:Int) (n:Nat):Option Nat :=
 match i with
 | .ofNat k=>bif Nat.ble k n then some k else none
 | _=>none
theorem natLe_ok {i:Int} {n k:Nat} (h:natLe i n=some k):i=(k:Int)∧k≤n:=by
 unfold natLe at h
 split at h
 ·rename_i j
  cases hb:Nat.ble j n with
  | false=>rw [hb] at h;cases h
  | true=>rw [hb] at h;cases h;exact ⟨rfl,zB hb⟩
 ·cases h
def bdV (tm:T SV) (x:Option Operand) (d n:Nat):Option Nat :=
 match x with
 | none=>some d
 | some o=>match evx tm o with
  | some (.int _ i)=>natLe i n
  | _=>none
theorem run_sliceBound {P:Program} {k n:Nat} (h:k≤n) (kd:IntKind) (c:BoundsCode) (w:World):(Instr.sliceBound (.int kd (k:Int)) n c).run P w=.ok k w:=by
 have h1:(0:Int)≤(k:Int):=by omega
 have h2:(k:Int)≤(n:Int):=by omega
 simp [Instr.sliceBound,asIntOf,h1,h2,Sem.run_bind]
def knowC (ck:Option Nat) (len:Nat):Nat:=match ck with | some c=>c | none=>len
def bounds3 (tm:T SV) (len:Nat) (ck:Option Nat) (lo hi mx:Option Operand):Option (Nat × Nat × Option Nat) :=
 match mx with
 | some _=>match hi with
  | some _=>match bdV tm mx (knowC ck len) (knowC ck len) with
   | some m=>match bdV tm hi m m with
    | some h=>match bdV tm lo 0 h with
     | some l=>some (l,h,some m)
     | none=>none
    | none=>none
   | none=>none
  | none=>none
 | none=>match bdV tm hi len (knowC ck len) with
  | some h=>match bdV tm lo 0 h with
   | some l=>some (l,h,ck)
   | none=>none
  | none=>none
theorem bdV_run {P:Program} {tm:T SV} {e:Env} {a:Go.Act} {x:Option Operand} {d n m k:Nat} (h:bdV tm x d n=some k) (hs:AS e tm a x.toList) (hnm:n≤m) (c:BoundsCode) (w:World) :
  (match x.map a.eval with | some v=>Instr.sliceBound v m c | none=>pure d).run P w=.ok k w∧(k≤n∨k=d):=by
 cases x with
 | none=>cases h;exact ⟨rfl,.inr rfl⟩
 | some o =>
  unfold bdV at h
  split at h
  ·contradiction
  ·rename_i o' ho
   cases ho
   split at h
   ·rename_i kd i hi
    obtain ⟨rfl,hk⟩:=natLe_ok h
    have hv:=hs o (by simp) _ hi
    generalize hg:a.eval o=u at hv
    cases hv
    simp only [Option.map_some,hg]
    exact ⟨run_sliceBound (Nat.le_trans hk hnm) _ _ _,.inl hk⟩
   ·cases h
theorem bounds3_run {P:Program} {tm:T SV} {e:Env} {a:Go.Act} {len cap:Nat} {ck:Option Nat} {lo hi mx:Option Operand} {l h:Nat} {m:Option Nat} (hb:bounds3 tm len ck lo hi mx=some (l,h,m))
  (hs1:AS e tm a lo.toList) (hs2:AS e tm a hi.toList) (hs3:AS e tm a mx.toList) (hl:len≤cap) (hc:ck=none∨ck=some cap) (isS:Bool) (w:World) :
  ∃ m',(Instr.sliceBounds isS len cap (lo.map a.eval) (hi.map a.eval) (mx.map a.eval)).run P w=.ok (l,h,m') w∧l≤h∧h≤m'∧m'≤cap∧(m=none∧m'=cap∨m=some m'):=by
 have hk:knowC ck len≤cap:=by rcases hc with rfl | rfl<;>simp [hl,knowC]
 have hk2:len≤knowC ck len:=by rcases hc with rfl | rfl<;>simp [hl,knowC]
 unfold bounds3 at hb
 generalize knowC ck len=know at hb hk hk2
 split at hb
 ·rename_i xm
  split at hb
  ·rename_i xh
   split at hb
   ·rename_i m1 hm1
    split at hb
    ·rename_i h1 hh1
     split at hb
     ·rename_i l1 hl1
      cases hb
      obtain ⟨r1,b1⟩:=bdV_run (P:=P) hm1 hs3 hk (if isS then .slice3Acap else .slice3Alen) w
      obtain ⟨r2,b2⟩:=bdV_run (P:=P) hh1 hs2 (Nat.le_refl _) .slice3B w
      obtain ⟨r3,b3⟩:=bdV_run (P:=P) hl1 hs1 (Nat.le_refl _) .slice3C w
      refine ⟨m1,?_,by omega,by omega,by omega,.inr rfl⟩
      simp only [Option.map_some] at r1 r2
      unfold Instr.sliceBounds
      simp only [Option.map_some,Sem.run_bind,r1,Result.andThen_ok,r2,Option.isSome_some,if_true]
      cases lo with
      | none=>cases hl1;simp [Sem.run_bind]
      | some o=>simp only [Option.map_some] at r3 ⊢;simp [Sem.run_bind,r3]
     ·cases hb
    ·cases hb
   ·cases hb
  ·cases hb
 ·split at hb
  ·rename_i h1 hh1
   split at hb
   ·rename_i l1 hl1
    cases hb
    obtain ⟨r2,b2⟩:=bdV_run (P:=P) hh1 hs2 hk (if isS then .sliceAcap else .sliceAlen) w
    obtain ⟨r3,b3⟩:=bdV_run (P:=P) hl1 hs1 (Nat.le_refl _) .sliceB w
    refine ⟨cap,?_,by omega,by omega,Nat.le_refl _,by rcases hc with rfl | rfl<;>simp⟩
    unfold Instr.sliceBounds
    cases hi with
    | none =>
     cases hh1
     cases lo with
     | none=>cases hl1;simp [Sem.run_bind]
     | some o=>simp only [Option.map_some] at r3 ⊢;simp [Sem.run_bind,r3]
    | some oh =>
     simp only [Option.map_some] at r2
     cases lo with
     | none=>cases hl1;simp [Sem.run_bind,r2]
     | some o=>simp only [Option.map_some] at r3 ⊢;simp [Sem.run_bind,r2,r3]
   ·cases hb
  ·cases hb
def sliceV (P:Program) (tm:T SV) (t:TypeId) (x:SV) (lo hi mx:Option Operand):Option SV :=
 match P.underlying t with
 | some .string=>match x with
  | .str s=>match mx with
   | none=>match bounds3 tm s.length (some s.length) lo hi none with
    | some (l,h,_)=>some (.str ((s.drop l).take (h - l)))
    | none=>none
   | some _=>none
  | _=>none
 | some (.slice el)=>match x with
  | .sl b off len esz ck=>match szT P el with
   | some s=>bif Nat.beq s esz then match bounds3 tm len ck lo hi mx with
    | some (l,h,m)=>some (.sl b (off + l * esz) (h - l) esz (match m with | some m=>bif Nat.beq m l then none else some (m - l) | none=>none))
    | none=>none
    else none
   | none=>none
  | .nils=>match szT P el with
   | some s=>match bounds3 tm 0 (some 0) lo hi mx with
    | some _=>some .nils
    | none=>none
   | none=>none
  | .emp k esz=>match szT P el with
   | some s=>match bounds3 tm 0 none lo hi mx with
    | some _=>some (.emp k esz)
    | none=>none
   | none=>none
  | _=>none
 | _=>none
theorem sliceV_ok {P:Program} {tm:T SV} {e:Env} {a:Go.Act} {t:TypeId} {x v:SV} {lo hi mx:Option Operand} (h:sliceV P tm t x lo hi mx=some v) {u:Value} (hx:VR e x u)
  (hs1:AS e tm a lo.toList) (hs2:AS e tm a hi.toList) (hs3:AS e tm a mx.toList) (w:World) :
  ∃ r,(Instr.sliceAt t u (lo.map a.eval) (hi.map a.eval) (mx.map a.eval)).run P w=.ok r w∧VR e v r:=by
 unfold sliceV at h
 split at h
 ·rename_i ht
  split at h
  ·rename_i s
   split at h
   ·split at h
    ·rename_i l hh m hb
     cases h
     cases hx
     have hsz:(bs s).size=s.length:=by simp [ByteArray.size]
     obtain ⟨m',r,h1,h2,h3,h4⟩:=bounds3_run (P:=P) (cap:=(bs s).size) (a:=a) hb hs1 hs2 hs3 (by omega) (.inr (by rw [hsz])) false w
     rw [hsz] at h3
     refine ⟨.string ((bs s).extract l hh),?_,?_⟩
     ·unfold Instr.sliceAt
      simp only [Sem.run_bind,run_underlying ht,Result.andThen_ok]
      unfold Instr.slice
      simp only [Sem.run_bind,run_underlying ht,Result.andThen_ok,Option.map_none,Option.isSome_none,Bool.false_eq_true,if_false]
      rw [hsz] at r ⊢
      simp only [Option.map_none] at r
      rw [r]
      rfl
     ·have:(bs s).extract l hh=bs ((s.drop l).take (hh - l)):=by
       apply ByteArray.ext
       simp [ByteArray.data_extract]
      rw [this]
      exact .str _
    ·cases h
   ·cases h
  ·cases h
 ·rename_i el ht
  split at h
  ·rename_i b off len esz ck
   split at h
   ·rename_i s hsz
    cases hb:Nat.beq s esz with
    | false=>rw [hb] at h;cases h
    | true =>
     rw [hb] at h
     have:=Nat.eq_of_beq_eq_true hb
     subst this
     simp only [cond_true] at h
     split at h
     ·rename_i l hh m hbd
      cases h
      have key:∀ (ad:Option Addr) (cap:Nat),len≤cap→(ck=none∨ck=some cap)→∃ m',(Instr.sliceAt t (.slice ad len cap) (lo.map a.eval) (hi.map a.eval) (mx.map a.eval)).run P w=.ok (.slice (if m'=l then ad else ad.map (·.add (l * s))) (hh - l) (m' - l)) w∧l≤hh∧hh≤m'∧m'≤cap∧(m=none∧m'=cap∨m=some m'):=fun ad cap h1 h2=>by
       obtain ⟨m',r,q1,q2,q3,q4⟩:=bounds3_run (P:=P) (a:=a) hbd hs1 hs2 hs3 h1 h2 true w
       refine ⟨m',?_,q1,q2,q3,q4⟩
       unfold Instr.sliceAt
       simp only [Sem.run_bind,run_underlying ht,Result.andThen_ok]
       unfold Instr.slice
       simp only [Sem.run_bind,run_underlying ht,Result.andThen_ok,r,run_szT hsz]
       rfl
      cases hx with
      | sl hb hl hz hm hc =>
       rename_i c o z cap
       obtain ⟨m',r,q1,q2,q3,q4⟩:=key (some ⟨c,o + off,none⟩) cap hl hc
       refine ⟨_,r,?_⟩
       by_cases hml:m'=l
       ·rw [if_pos hml]
        have e1:hh - l=0:=by omega
        have e2:m' - l=0:=by omega
        rw [e1,e2]
        rcases q4 with ⟨rfl,_⟩ | rfl
        ·exact .sle _ _ _ hb
        ·simp only [hml,Nat.beq_refl,cond_true];exact .sle _ _ _ hb
       ·rw [if_neg hml]
        simp only [Option.map_some,add_none]
        have e3:o + off + l * s=o + (off + l * s):=by omega
        rw [e3]
        have e4:off + l * s + (m' - l) * s≤z:=by
         have:l * s + (m' - l) * s=m' * s:=by rw [← Nat.add_mul];congr 1;omega
         have h5:m' * s≤cap * s:=Nat.mul_le_mul_right _ q3
         omega
        refine .sl hb (by omega) e4 (by omega) ?_
        rcases q4 with ⟨rfl,_⟩ | rfl
        ·exact .inl rfl
        ·cases hq:Nat.beq m' l with
         | true=>exact absurd (Nat.eq_of_beq_eq_true hq) hml
         | false=>exact .inr (by show (bif Nat.beq m' l then none else some (m' - l))=some (m' - l);rw [hq];rfl)
      | sle off esz ad hb =>
       obtain ⟨m',r,q1,q2,q3,q4⟩:=key (some ⟨_,ad,none⟩) 0 (Nat.le_refl _) (.inl rfl)
       have h1:m'=l:=by omega
       have e1:hh - l=0:=by omega
       have e2:m' - l=0:=by omega
       refine ⟨_,r,?_⟩
       rw [if_pos h1,e1,e2]
       rcases q4 with ⟨rfl,_⟩ | rfl
       ·exact .sle _ _ _ hb
       ·simp only [h1,Nat.beq_refl,cond_true];exact .sle _ _ _ hb
     ·cases h
   ·cases h
  ·split at h
   ·rename_i s hsz
    split at h
    ·rename_i p hbd
     cases h
     obtain ⟨l,hh,m⟩:=p
     cases hx
     obtain ⟨m',r,q1,q2,q3,q4⟩:=bounds3_run (P:=P) (a:=a) (cap:=0) hbd hs1 hs2 hs3 (Nat.le_refl _) (.inr rfl) true w
     refine ⟨.slice none 0 0,?_,.nils⟩
     have h1:m'=0:=by omega
     have h2:l=0:=by omega
     have h3:hh=0:=by omega
     subst h1 h2 h3
     unfold Instr.sliceAt
     simp only [Sem.run_bind,run_underlying ht,Result.andThen_ok]
     unfold Instr.slice
     simp only [Sem.run_bind,run_underlying ht,Result.andThen_ok,r,run_szT hsz]
     rfl
    ·cases h
   ·cases h
  ·split at h
   ·rename_i s hsz
    split at h
    ·rename_i p hbd
     cases h
     obtain ⟨l,hh,m⟩:=p
     have key:∀ (ad:Option Addr) (cap:Nat),∃ m',(Instr.sliceAt t (.slice ad 0 cap) (lo.map a.eval) (hi.map a.eval) (mx.map a.eval)).run P w=.ok (.slice ad 0 m') w∧m'≤cap:=fun ad cap=>by
      obtain ⟨m',r,q1,q2,q3,q4⟩:=bounds3_run (P:=P) (a:=a) (cap:=cap) hbd hs1 hs2 hs3 (Nat.zero_le _) (.inl rfl) true w
      have hb0:hh=0:=by
       unfold bounds3 at hbd
       simp only [knowC] at hbd
       have hz:∀ (x:Option Operand) (d n k:Nat),bdV tm x d n=some k→k≤max d n:=fun x d n k hk=>by
        unfold bdV at hk
        split at hk
        ·cases hk;omega
        ·split at hk
         ·have:=(natLe_ok hk).2;omega
         ·cases hk
       split at hbd
       ·split at hbd
        ·split at hbd
         ·rename_i m1 hm1
          split at hbd
          ·rename_i h1 hh1
           split at hbd
           ·cases hbd
            have a1:=hz _ _ _ _ hm1
            have a2:=hz _ _ _ _ hh1
            omega
           ·cases hbd
          ·cases hbd
         ·cases hbd
        ·cases hbd
       ·split at hbd
        ·rename_i h1 hh1
         split at hbd
         ·cases hbd
          have a2:=hz _ _ _ _ hh1
          omega
         ·cases hbd
        ·cases hbd
      have hl0:l=0:=by omega
      subst hb0 hl0
      refine ⟨m',?_,q3⟩
      unfold Instr.sliceAt
      simp only [Sem.run_bind,run_underlying ht,Result.andThen_ok]
      unfold Instr.slice
      simp only [Sem.run_bind,run_underlying ht,Result.andThen_ok,r,run_szT hsz,Nat.zero_mul]
      cases ad<;>simp [Addr.add]
     cases hx with
     | empn k esz =>
      obtain ⟨m',r,q⟩:=key none 0
      have:m'=0:=by omega
      subst this
      exact ⟨_,r,.empn _ _⟩
     | emps hb hz hm =>
      obtain ⟨m',r,q⟩:=key (some ⟨_,_,none⟩) _
      exact ⟨_,r,.emps hb (Nat.le_trans (Nat.mul_le_mul_right _ q) hz) (Nat.le_trans q hm)⟩
    ·cases h
   ·cases h
  ·cases h
 ·cases h
def lenV (P:Program) (t:TypeId) (x:SV):Option SV :=
 match P.underlying t with
 | some .string=>match x with
  | .str s=>some (.int .i64 (Int.ofNat s.length))
  | _=>none
 | some (.slice _)=>match x with
  | .sl _ _ n _ _=>some (.int .i64 (Int.ofNat n))
  | .nils=>some (.int .i64 0)
  | .emp _ _=>some (.int .i64 0)
  | .we=>some (.int .i64 0)
  | _=>none
 | some (.array n _)=>some (.int .i64 (Int.ofNat n))
 | some (.map _ _)=>match x with
  | .nilm=>some (.int .i64 0)
  | _=>none
 | _=>none
theorem lenV_ok {P:Program} {t:TypeId} {x v:SV} (h:lenV P t x=some v) {e:Env} {u:Value} (hx:VR e x u) (ty:TypeId) (w:World):∃ r,(Builtin.len_ #[t] ty #[u]).run P w=.ok r w∧VR e v r:=by
 unfold lenV at h
 split at h
 ·rename_i ht
  split at h
  ·rename_i s
   cases h;cases hx
   refine ⟨.int .i64 (s.length:Int),?_,.int _ _⟩
   have hsz:(bs s).size=s.length:=by simp [ByteArray.size]
   simp [Builtin.len_,run_underlying ht,goInt,hsz]
  ·cases h
 ·rename_i el ht
  split at h
  ·cases h
   cases hx<;>exact ⟨_,by simp [Builtin.len_,run_underlying ht,goInt],.int _ _⟩
  ·cases h
   cases hx
   exact ⟨_,by simp [Builtin.len_,run_underlying ht,goInt],.int _ _⟩
  ·cases h
   cases hx<;>exact ⟨_,by simp [Builtin.len_,run_underlying ht,goInt],.int _ _⟩
  ·cases h
   cases hx
   exact ⟨_,by simp [Builtin.len_,run_underlying ht,goInt],.int _ _⟩
  ·cases h
 ·rename_i n el ht
  cases h
  exact ⟨_,by simp [Builtin.len_,run_underlying ht,goInt],.int _ _⟩
 ·rename_i k el ht
  split at h
  ·cases h
   cases hx
   exact ⟨_,by simp [Builtin.len_,run_underlying ht,goInt],.int _ _⟩
  ·cases h
 ·cases h
def minV (x y:SV):Option SV :=
 match x,y with
 | .int k a,.int _ b=>some (.int k (if b < a then b else a))
 | _,_=>none
def maxV (x y:SV):Option SV :=
 match x,y with
 | .int k a,.int _ b=>some (.int k (if b > a then b else a))
 | _,_=>none
def capV (P:Program) (t:TypeId) (x:SV):Option SV :=
 match P.underlying t with
 | some (.slice _)=>match x with
  | .sl _ _ _ _ (some k)=>some (.int .i64 (Int.ofNat k))
  | .nils=>some (.int .i64 0)
  | _=>none
 | _=>none
theorem capV_ok {P:Program} {t:TypeId} {x v:SV} (h:capV P t x=some v) {e:Env} {u:Value} (hx:VR e x u) (ty:TypeId) (w:World):∃ r,(Builtin.cap_ #[t] ty #[u]).run P w=.ok r w∧VR e v r:=by
 unfold capV at h
 split at h
 ·rename_i el ht
  split at h
  ·cases h
   cases hx with
   | sl _ _ _ _ hc =>
    rcases hc with hc | hc
    ·cases hc
    ·cases hc
     exact ⟨_,by simp [Builtin.cap_,run_underlying ht,goInt],.int _ _⟩
  ·cases h
   cases hx
   exact ⟨_,by simp [Builtin.cap_,run_underlying ht,goInt],.int _ _⟩
  ·cases h
 ·cases h
def builtV (P:Program) (tm:T SV) (b:Builtin) (ts:Array TypeId) (xs:Array Operand):Option SV :=
 match b with
 | .len=>match ts.toList with
  | [t]=>match xs.toList with
   | [x]=>match evx tm x with
    | some v=>lenV P t v
    | none=>none
   | _=>none
  | _=>none
 | .cap=>match ts.toList with
  | [t]=>match xs.toList with
   | [x]=>match evx tm x with
    | some v=>capV P t v
    | none=>none
   | _=>none
  | _=>none
 | .min=>match xs.toList with
  | [x,y]=>match evx tm x with
   | some v=>match evx tm y with
    | some u=>minV v u
    | none=>none
   | none=>none
  | _=>none
 | .max=>match xs.toList with
  | [x,y]=>match evx tm x with
   | some v=>match evx tm y with
    | some u=>maxV v u
    | none=>none
   | none=>none
  | _=>none
 | _=>none
def extractV (x:SV) (i:Nat):Option SV :=
 match x with
 | .tup vs=>vs[i]?
 | _=>none
def pickV (c:SV) (x y:Option SV):Option SV :=
 match c with
 | .bool true=>x
 | .bool false=>y
 | _=>none
def ifaceT (P:Program) (t:TypeId):Bool:=match P.underlying t with
 | some (.interface _)=>false
 | some _=>true
 | none=>false
theorem run_mkI {P:Program} {t:TypeId} (h:ifaceT P t=true) (u:Value) (w:World):(Instr.makeInterface t u).run P w=.ok (.iface t u) w:=by
 unfold ifaceT at h
 split at h
 ·cases h
 ·rename_i d hd hu
  unfold Instr.makeInterface
  rw [Sem.run_bind,run_underlying hu,Result.andThen_ok]
  cases d<;>first | rfl | (exact absurd rfl (hd _))
 ·cases h
def opPure (P:Program) (tm:T SV) (o:Op):Option SV :=
 match o with
 | .move x=>evx tm x
 | .assign x=>evx tm x
 | .pick c x y=>match evx tm c with
  | some v=>pickV v (evx tm x) (evx tm y)
  | none=>none
 | .build t ps=>match evps tm ps.toList with
  | some l=>buildV P t l
  | none=>none
 | .nilCheck x=>match evx tm x with
  | some v=>nonNil v
  | none=>none
 | .binOp op t x y _=>match evx tm x with
  | some v=>match evx tm y with
   | some u=>binV P op t (isConstO x || isConstO y) v u
   | none=>none
  | none=>none
 | .unOp op _ x=>match evx tm x with
  | some v=>unV op v
  | none=>none
 | .convert s d x=>match evx tm x with
  | some v=>convV P s d v
  | none=>none
 | .makeFunc fn xs ys=>match fn with
  | .func f=>match evxs tm xs.toList with
   | some l=>match evxs tm ys.toList with
    | some m=>some (.fn f l m)
    | none=>none
   | none=>none
  | _=>none
 | .slice t x lo hi mx=>match evx tm x with
  | some v=>sliceV P tm t v lo hi mx
  | none=>none
 | .fieldAddr t x f=>match evx tm x with
  | some v=>fieldAddrV P t v f
  | none=>none
 | .field t x f=>match evx tm x with
  | some v=>fieldV P t v f
  | none=>none
 | .indexAddr t x i=>match evx tm x with
  | some v=>match evx tm i with
   | some u=>indexAddrV P t v u
   | none=>none
  | none=>none
 | .index t x i=>match evx tm x with
  | some v=>match evx tm i with
   | some u=>indexV P t v u
   | none=>none
  | none=>none
 | .extract x i=>match evx tm x with
  | some v=>extractV v i
  | none=>none
 | .call c=>match c.callee with
  | .builtin b=>builtV P tm b c.argTypes c.args
  | _=>none
 | .makeInterface t x=>match ifaceT P t with
  | true=>match evx tm x with
   | some v=>some (.iface t v)
   | none=>none
  | false=>none
 | _=>none
def YieldsV (P:Program) (o:Oper) (a:Go.Act) (w:World) (e:Env) (v:SV):Prop:=∃ u,(execOp a.eval o).run P w=.ok (.value u) w∧VR e v u
theorem yv {P:Program} {o:Oper} {a:Go.Act} {w:World} {e:Env} {v:SV} {s:Sem Value} (hs:execOp a.eval o=(do pure (.value (← s)))) (h:∃ u,s.run P w=.ok u w∧VR e v u):YieldsV P o a w e v:=by
 obtain ⟨u,h1,h2⟩:=h
 exact ⟨u,by rw [hs,Sem.run_bind,h1];rfl,h2⟩
theorem builtV_ok {P:Program} {tm:T SV} {o:Oper} {a:Go.Act} {e:Env} {c:Call} {b:Builtin} {v:SV} (ho:o.op=.call c) (hc:c.callee=.builtin b) (h:builtV P tm b c.argTypes c.args=some v) (hs:AS e tm a c.args.toList) (w:World):YieldsV P o a w e v:=by
 have hex:execOp a.eval o=builtin b c.argTypes o.type (c.args.map fun | .const _=>true | _=>false) (c.args.map a.eval):=by
  unfold execOp
  simp only [ho,resolve,hc]
  rfl
 unfold builtV at h
 split at h
 ·split at h
  ·rename_i t hts
   split at h
   ·rename_i x hxs
    split at h
    ·rename_i y hy
     have e1:c.argTypes=#[t]:=Array.toList_inj.1 hts
     have e2:c.args.map a.eval=#[a.eval x]:=Array.toList_inj.1 (by rw [Array.toList_map,hxs];rfl)
     obtain ⟨r,h1,h2⟩:=lenV_ok h (hs x (by rw [hxs];simp) y hy) o.type w
     exact ⟨r,by rw [hex,e1,e2];simp [builtin,Sem.run_bind,h1],h2⟩
    ·cases h
   ·cases h
  ·cases h
 ·split at h
  ·rename_i t hts
   split at h
   ·rename_i x hxs
    split at h
    ·rename_i y hy
     have e1:c.argTypes=#[t]:=Array.toList_inj.1 hts
     have e2:c.args.map a.eval=#[a.eval x]:=Array.toList_inj.1 (by rw [Array.toList_map,hxs];rfl)
     obtain ⟨r,h1,h2⟩:=capV_ok h (hs x (by rw [hxs];simp) y hy) o.type w
     exact ⟨r,by rw [hex,e1,e2];simp [builtin,Sem.run_bind,h1],h2⟩
    ·cases h
   ·cases h
  ·cases h
 ·split at h
  ·rename_i x y hxs
   split at h
   ·rename_i p hp
    split at h
    ·rename_i q hq
     unfold minV at h
     split at h
     ·rename_i k m k' n
      cases h
      have v1:=hs x (by rw [hxs];simp) _ hp
      have v2:=hs y (by rw [hxs];simp) _ hq
      have e2:(c.args.map a.eval).toList=[a.eval x,a.eval y]:=by rw [Array.toList_map,hxs];rfl
      generalize a.eval x=u at v1 e2
      generalize a.eval y=u' at v2 e2
      cases v1;cases v2
      have e3:=Array.toList_inj.1 (e2.trans (by rfl:_=(#[Value.int k m,Value.int k' n]:Array Value).toList))
      exact ⟨_,by rw [hex,e3];simp [builtin,Builtin.min_,Builtin.min2,Sem.run_bind],.int _ _⟩
     ·cases h
    ·cases h
   ·cases h
  ·cases h
 ·split at h
  ·rename_i x y hxs
   split at h
   ·rename_i p hp
    split at h
    ·rename_i q hq
     unfold maxV at h
     split at h
     ·rename_i k m k' n
      cases h
      have v1:=hs x (by rw [hxs];simp) _ hp
      have v2:=hs y (by rw [hxs];simp) _ hq
      have e2:(c.args.map a.eval).toList=[a.eval x,a.eval y]:=by rw [Array.toList_map,hxs];rfl
      generalize a.eval x=u at v1 e2
      generalize a.eval y=u' at v2 e2
      cases v1;cases v2
      have e3:=Array.toList_inj.1 (e2.trans (by rfl:_=(#[Value.int k m,Value.int k' n]:Array Value).toList))
      exact ⟨_,by rw [hex,e3];simp [builtin,Builtin.max_,Builtin.max2,Sem.run_bind],.int _ _⟩
     ·cases h
    ·cases h
   ·cases h
  ·cases h
 ·cases h
theorem opPure_ok {P:Program} {tm:T SV} {o:Oper} {a:Go.Act} {e:Env} {v:SV} (h:opPure P tm o.op=some v) (hs:AS e tm a o.op.operands.toList) (w:World):YieldsV P o a w e v:=by
 unfold opPure at h
 split at h
 ·rename_i x ho
  exact ⟨_,by simp [execOp,ho],hs x (by rw [ho];simp [Op.operands]) v h⟩
 ·rename_i x ho
  exact ⟨_,by simp [execOp,ho],hs x (by rw [ho];simp [Op.operands]) v h⟩
 ·rename_i c x y ho
  split at h
  ·rename_i b hb
   have hv:=hs c (by rw [ho];simp [Op.operands]) b hb
   unfold pickV at h
   split at h
   ·generalize hg:a.eval c=u at hv
    cases hv
    exact ⟨_,by simp [execOp,ho,hg,asBool,Sem.run_bind],hs x (by rw [ho];simp [Op.operands]) v h⟩
   ·generalize hg:a.eval c=u at hv
    cases hv
    exact ⟨_,by simp [execOp,ho,hg,asBool,Sem.run_bind],hs y (by rw [ho];simp [Op.operands]) v h⟩
   ·cases h
  ·cases h
 ·rename_i t ps ho
  split at h
  ·rename_i l hl
   obtain ⟨h1,h2⟩:=evps_ok (fun x hx=>hs x (by rw [ho];simpa [Op.operands] using hx)) hl
   refine yv (s:=Instr.build t (ps.map fun (i,x)=>(i,a.eval x))) (by simp only [execOp,ho]) (buildV_ok h (by rw [h1];simp [Function.comp_def]) (by simpa [Function.comp_def] using h2) w)
  ·cases h
 ·rename_i x ho
  split at h
  ·rename_i y hy
   have hv:=hs x (by rw [ho];simp [Op.operands]) y hy
   generalize hg:a.eval x=u at hv
   unfold nonNil at h
   split at h<;>(try cases h)
   refine ⟨u,?_,hv⟩
   simp only [execOp,ho,hg]
   cases hv<;>first | rfl | (exfalso;simp_all;done)
  ·cases h
 ·rename_i op t x y yt ho
  split at h
  ·rename_i p hp
   split at h
   ·rename_i q hq
    refine yv (s:=do eqGuard op t x y (a.eval x) (a.eval y);binOp op t (a.eval x) (a.eval y)) (by simp only [execOp,ho]) ?_
    exact binV_ok h (hs x (by rw [ho];simp [Op.operands]) p hp) (hs y (by rw [ho];simp [Op.operands]) q hq) w
   ·cases h
  ·cases h
 ·rename_i op t x ho
  split at h
  ·rename_i p hp
   exact yv (s:=Op.unary op (a.eval x)) (by simp only [execOp,ho]) (unV_ok h (hs x (by rw [ho];simp [Op.operands]) p hp) P w)
  ·cases h
 ·rename_i s d x ho
  split at h
  ·rename_i p hp
   exact yv (s:=convert s d (a.eval x)) (by simp only [execOp,ho]) (convV_ok h (hs x (by rw [ho];simp [Op.operands]) p hp) w)
  ·cases h
 ·rename_i fn xs ys ho
  split at h
  ·rename_i f
   split at h
   ·rename_i l hl
    split at h
    ·rename_i m hm
     cases h
     refine yv (s:=Instr.makeFunc (.func f) (xs.map a.eval) (ys.map a.eval)) (by simp only [execOp,ho]) ?_
     have h1:=AS.list (fun x hx=>hs x (by rw [ho];simp [Op.operands];exact .inl (by simpa using hx))) hl
     have h2:=AS.list (fun x hx=>hs x (by rw [ho];simp [Op.operands];exact .inr (by simpa using hx))) hm
     refine ⟨.func (.func f) (xs.map a.eval) (ys.map a.eval),rfl,?_⟩
     have e1:xs.map a.eval=⟨xs.toList.map a.eval⟩:=Array.toList_inj.1 (by simp)
     have e2:ys.map a.eval=⟨ys.toList.map a.eval⟩:=Array.toList_inj.1 (by simp)
     rw [e1,e2]
     exact .fn h1 h2
    ·cases h
   ·cases h
  ·cases h
 ·rename_i t x lo hi mx ho
  split at h
  ·rename_i p hp
   refine yv (s:=Instr.sliceAt t (a.eval x) (lo.map a.eval) (hi.map a.eval) (mx.map a.eval)) (by simp only [execOp,ho]) ?_
   exact sliceV_ok h (hs x (by rw [ho];simp [Op.operands]) p hp) (fun y hy=>hs y (by rw [ho];simp [Op.operands];simp at hy;simp [hy])) (fun y hy=>hs y (by rw [ho];simp [Op.operands];simp at hy;simp [hy])) (fun y hy=>hs y (by rw [ho];simp [Op.operands];simp at hy;simp [hy])) w
  ·cases h
 ·rename_i t x f ho
  split at h
  ·rename_i p hp
   exact yv (s:=Instr.fieldAt t (a.eval x) f) (by simp only [execOp,ho]) (fieldAddrV_ok h (hs x (by rw [ho];simp [Op.operands]) p hp) w)
  ·cases h
 ·rename_i t x f ho
  split at h
  ·rename_i p hp
   exact yv (s:=Instr.field t (a.eval x) f) (by simp only [execOp,ho]) (fieldV_ok h (hs x (by rw [ho];simp [Op.operands]) p hp) w)
  ·cases h
 ·rename_i t x i ho
  split at h
  ·rename_i p hp
   split at h
   ·rename_i q hq
    exact yv (s:=Instr.indexAt t (a.eval x) (a.eval i)) (by simp only [execOp,ho]) (indexAddrV_ok h (hs x (by rw [ho];simp [Op.operands]) p hp) (hs i (by rw [ho];simp [Op.operands]) q hq) w)
   ·cases h
  ·cases h
 ·rename_i t x i ho
  split at h
  ·rename_i p hp
   split at h
   ·rename_i q hq
    exact yv (s:=Instr.index t (a.eval x) (a.eval i)) (by simp only [execOp,ho]) (indexV_ok h (hs x (by rw [ho];simp [Op.operands]) p hp) (hs i (by rw [ho];simp [Op.operands]) q hq) w)
   ·cases h
  ·cases h
 ·rename_i x i ho
  split at h
  ·rename_i p hp
   have hv:=hs x (by rw [ho];simp [Op.operands]) p hp
   refine yv (s:=Instr.extract (a.eval x) i) (by simp only [execOp,ho]) ?_
   unfold extractV at h
   split at h
   ·generalize a.eval x=u at hv
    cases hv with
    | tup hv =>
     obtain ⟨r,h1,h2⟩:=hv.at i h
     exact ⟨r,by simp [Instr.extract,h1],h2⟩
   ·cases h
  ·cases h
 ·rename_i c ho
  split at h
  ·rename_i b hb
   exact builtV_ok ho hb h (fun x hx=>hs x (by rw [ho];simp [Op.operands,Call.operands,hb];simpa using hx)) w
  ·cases h
 ·rename_i t x ho
  split at h
  ·rename_i hi
   split at h
   ·rename_i p hp
    cases h
    refine yv (s:=Instr.makeInterface t (a.eval x)) (by simp only [execOp,ho]) ?_
    exact ⟨.iface t (a.eval x),run_mkI hi _ w,.iface (hs x (by rw [ho];simp [Op.operands]) p hp)⟩
   ·cases h
  ·cases h
 ·cases h
end
section
open Go.RowKit
theorem setCells_outer (c:Nat):∀ (vs:List Value) (o:Nat) (w:World),(w.setCells c o vs).os=w.os∧(w.setCells c o vs).tape=w.tape∧(w.setCells c o vs).output=w.output∧(w.setCells c o vs).heap.size=w.heap.size∧∀ d,d≠c→(w.setCells c o vs).heap[d]?=w.heap[d]?
 | [],_,w=>⟨rfl,rfl,rfl,rfl,fun _ _=>rfl⟩
 | v :: t,o,w=>by
  obtain ⟨h1,h2,h3,h4,h5⟩:=setCells_outer c t (o + 1) (w.setCell ⟨c,o,none⟩ v)
  refine ⟨h1,h2,h3,h4.trans (World.size_setCell _ _ _),fun d hd=>(h5 d hd).trans (Below.heap_setCell _ ⟨c,o,none⟩ _ d hd)⟩
theorem setCells_in (c:Nat):∀ (vs:List Value) (o:Nat) (w:World) (arr:Array Value) (t:TypeId) (fr:Nat × Nat),w.heap[c]?=some (.cells arr t fr)→o + vs.length≤arr.size →
  ∃ arr',(w.setCells c o vs).heap[c]?=some (.cells arr' t fr)∧arr'.size=arr.size∧(∀ j,j < o∨o + vs.length≤j→arr'[j]?=arr[j]?)∧∀ j,j < vs.length→arr'[o + j]?=vs[j]?
 | [],o,w,arr,t,fr,h,_=>⟨arr,h,rfl,fun _ _=>rfl,fun j hj=>absurd hj (by simp)⟩
 | v :: vs,o,w,arr,t,fr,h,hl=>by
  have hl':o + (vs.length + 1)≤arr.size:=hl
  have h0:(w.setCell ⟨c,o,none⟩ v).heap[c]?=some (.cells (arr.setIfInBounds o v) t fr):=by
   simp [World.setCell,h,Array.getElem?_modify]
  obtain ⟨arr',k1,k2,k3,k4⟩:=setCells_in c vs (o + 1) _ _ t fr h0 (by simp;omega)
  refine ⟨arr',k1,by simpa using k2,fun j hj=>?_,fun j hj=>?_⟩
  ·rw [k3 j (by simp at hj;omega)]
   rw [Array.getElem?_setIfInBounds_ne (by simp at hj;omega)]
  ·cases j with
   | zero =>
    rw [Nat.add_zero,k3 o (.inl (by omega)),Array.getElem?_setIfInBounds_self_of_lt (by omega)]
    rfl
   | succ j =>
    have:=k4 j (by simpa using hj)
    rw [show o + (j + 1)=o + 1 + j by omega,this]
    simp
section
variable {X:Type} {L:EL X} {e:Env} {st:St X} {w:World} {F:FootE} {P:Program}
def loadV (P:Program) (m:T SB) (t:TypeId) (x:SV):Option SV :=
 match x with
 | .ptr b off=>match m.get b with
  | some (.cells cs _ _ _)=>match aggT P t with
   | some true=>match szT P t with
    | some n=>bif Nat.ble (off + n) cs.length then some (.agg ((cs.drop off).take n)) else none
    | none=>none
   | some false=>cs[off]?
   | none=>none
  | _=>none
 | _=>none
theorem cells_at {c o z:Nat} {cs:List SV} {ro:Bool} {sib:List Nat} {ty:Option Nat} (h:BlkR e w c o z (.cells cs ro sib ty)) {j:Nat} {v:SV} (hj:cs[j]?=some v):∃ u,w.cell? ⟨c,o + j,none⟩=some u∧VR e v u∧v.one=true:=by
 obtain ⟨arr,t,fr,h1,h2,h3,h4,h5⟩:=h
 obtain ⟨h6,u,h7,h8⟩:=h5 j v hj
 exact ⟨u,by rw [cell_of h1,h7],h8,h6⟩
theorem cells_row {c o z:Nat} {ro:Bool} {sib:List Nat} {ty:Option Nat}:∀ {cs:List SV} {off:Nat},(∀ (j:Nat) v,cs[j]?=some v→∃ u,w.cell? ⟨c,o + (off + j),none⟩=some u∧VR e v u∧v.one=true) →
  ∃ us:List Value,VRs e cs us∧(∀ j u,us[j]?=some u→w.cell? ⟨c,o + (off + j),none⟩=some u)∧(∀ u∈us,u.oneCell'=true)
 | [],off,_=>⟨[],.nil,fun j u h=>by simp at h,fun u h=>by cases h⟩
 | v :: t,off,h=>by
  obtain ⟨u,h1,h2,h3⟩:=h 0 v rfl
  obtain ⟨us,k1,k2,k3⟩:=cells_row (z:=z) (ro:=ro) (sib:=sib) (ty:=ty) (cs:=t) (off:=off + 1) fun j x hj=>by
   have:=h (j + 1) x (by simpa using hj)
   rwa [show off + (j + 1)=off + 1 + j by omega] at this
  refine ⟨u :: us,.cons h2 k1,fun j y hj=>?_,fun y hy=>?_⟩
  ·cases j with
   | zero=>simp at hj;subst hj;exact h1
   | succ j=>rw [show off + (j + 1)=off + 1 + j by omega];exact k2 j y (by simpa using hj)
  ·rcases List.mem_cons.1 hy with rfl | hy
   ·exact h2.one h3
   ·exact k3 y hy
theorem part_row {c o z:Nat} {cs:List SV} {ro:Bool} {sib:List Nat} {ty:Option Nat} (h:BlkR e w c o z (.cells cs ro sib ty)) (off n:Nat) :
  ∃ us:List Value,VRs e ((cs.drop off).take n) us∧(∀ j u,us[j]?=some u→w.cell? ⟨c,o + (off + j),none⟩=some u)∧(∀ u∈us,u.oneCell'=true) :=
 cells_row (z:=z) (ro:=ro) (sib:=sib) (ty:=ty) fun j v hj=>by
  have:cs[off + j]?=some v:=by
   rw [List.getElem?_take] at hj
   split at hj
   ·rwa [List.getElem?_drop] at hj
   ·cases hj
  exact cells_at h this
theorem loadV_ok {t:TypeId} {x v:SV} (h:loadV P st.m t x=some v) (hR:Rl L e st w F) {u:Value} (hx:VR e x u):∃ r,(Instr.loadAt t u).run P w=.ok r w∧VR e v r:=by
 unfold loadV at h
 split at h
 ·rename_i b off
  cases hx with
  | ptr hb =>
   rename_i c o z
   split at h
   ·rename_i cs ro sib ty hm
    have hB:=(hR.blk b _ c o z hm hb).2
    split at h
    ·rename_i ha
     split at h
     ·rename_i n hn
      cases hle:Nat.ble (off + n) cs.length with
      | false=>rw [hle] at h;cases h
      | true =>
       rw [hle] at h;cases h
       have hle:=zB hle
       obtain ⟨us,h1,h2,h3⟩:=part_row hB off n
       have hl:us.length=n:=by have:=h1.length;simp at this;omega
       refine ⟨.agg ⟨us⟩,?_,.agg h1⟩
       have hr:=run_loadCells_list (P:=P) w ⟨c,o + off,none⟩ us (fun j u hj=>by rw [add_none];rw [Nat.add_assoc];exact h2 j u hj)
       rw [hl] at hr
       simp [Instr.loadAt,Instr.sureAddr,loadVar,Sem.run_bind,run_aggT ha,run_szT hn,hr]
     ·cases h
    ·rename_i ha
     obtain ⟨r,h1,h2,h3⟩:=cells_at hB h
     refine ⟨r,?_,h2⟩
     simp [Instr.loadAt,Instr.sureAddr,loadVar,Sem.run_bind,run_aggT ha,load,Sem.run,h1]
    ·cases h
   ·cases h
 ·cases h
def ltM (b:Nat) (sib:List Nat):Bool:=Nat.blt b TMax && sib.all fun y=>Nat.blt y TMax
def storeV (P:Program) (st:St X) (t:TypeId) (x v:SV):Option (St X) :=
 match x with
 | .ptr b off=>match st.m.get b with
  | some (.cells cs false sib ty)=>match szT P t with
   | some n=>bif Nat.beq v.cs.length n && Nat.ble (off + n) cs.length && v.cs.all SV.one && ltM b sib then
     some (st.turn b sib (.cells (setRange cs off v.cs) false [] ty))
    else none
   | none=>none
  | _=>none
 | _=>none
theorem ltM_ok {b:Nat} {sib:List Nat} (h:ltM b sib=true):b < TMax∧(sib.all fun y=>Nat.blt y TMax)=true:=by
 simp only [ltM,Bool.and_eq_true] at h
 exact ⟨by simpa [Nat.blt_eq] using h.1,h.2⟩
theorem setRange_at {cs v:List SV} {off j:Nat} {x:SV} (hle:off≤cs.length) (h:(setRange cs off v)[j]?=some x):((j < off∨off + v.length≤j)∧cs[j]?=some x)∨∃ k,j=off + k∧v[k]?=some x:=by
 unfold setRange at h
 have ht:(cs.take off).length=off:=by simp;omega
 by_cases h1:j < off
 ·rw [List.getElem?_append_left (by omega),List.getElem?_take,if_pos h1] at h
  exact .inl ⟨.inl h1,h⟩
 ·rw [List.getElem?_append_right (by omega),ht] at h
  by_cases h2:j - off < v.length
  ·rw [List.getElem?_append_left h2] at h
   exact .inr ⟨j - off,by omega,h⟩
  ·rw [List.getElem?_append_right (by omega),List.getElem?_drop] at h
   refine .inl ⟨.inr (by omega),?_⟩
   rwa [show off + v.length + (j - off - v.length)=j by omega] at h
theorem BlkR.write {c o z off:Nat} {cs vs:List SV} {us:List Value} {sib:List Nat} {ty:Option Nat} (h:BlkR e w c o z (.cells cs false sib ty)) (hv:VRs e vs us) (h1:vs.all SV.one=true) (hle:off≤cs.length) (hz:off + vs.length≤z) :
  BlkR e (w.setCells c (o + off) us) c o z (.cells (setRange cs off vs) false [] ty):=by
 obtain ⟨arr,t,fr,k1,k2,k3,k4,k5⟩:=h
 have hl:=hv.length
 obtain ⟨arr',q1,q2,q3,q4⟩:=setCells_in c us (o + off) w arr t fr k1 (by omega)
 refine ⟨arr',t,fr,q1,by omega,k3,?_,fun j v hj=>?_⟩
 ·unfold setRange
  simp only [List.length_append,List.length_take,List.length_drop]
  omega
 ·rcases setRange_at hle hj with ⟨h2,h3⟩ | ⟨k,rfl,h3⟩
  ·obtain ⟨a1,u,a2,a3⟩:=k5 j v h3
   exact ⟨a1,u,by rw [q3 (o + j) (by omega)];exact a2,a3⟩
  ·obtain ⟨u,a1,a2⟩:=hv.at k h3
   have hk:k < us.length:=(List.getElem?_eq_some_iff.1 a1).1
   refine ⟨?_,u,by rw [← Nat.add_assoc,q4 k hk];exact a1,a2⟩
   exact (List.all_eq_true.1 h1) v (List.mem_of_getElem? h3)
theorem oneAll {vs:List SV} {us:List Value} (hv:VRs e vs us) (h1:vs.all SV.one=true):∀ u∈us,u.oneCell'=true:=by
 intro u hu
 obtain ⟨j,hj⟩:=List.mem_iff_getElem?.1 hu
 have hlen:=hv.length
 have hj2:j < vs.length:=by have:=(List.getElem?_eq_some_iff.1 hj).1;omega
 obtain ⟨u',h2,h3⟩:=hv.at j (List.getElem?_eq_getElem hj2)
 rw [hj] at h2;cases h2
 exact h3.one ((List.all_eq_true.1 h1) _ (List.getElem_mem hj2))
theorem writable {c o z off n:Nat} {cs:List SV} {sib:List Nat} {ty:Option Nat} (h:BlkR e w c o z (.cells cs false sib ty)) (hz:off + n≤z):∀ j,j < n→(w.cell? ⟨c,o + off + j,none⟩).isSome=true∧w.frozen? ⟨c,o + off + j,none⟩=false:=by
 obtain ⟨arr,t,fr,k1,k2,k3,k4,k5⟩:=h
 intro j hj
 have:=k3.1 rfl
 subst this
 refine ⟨?_,by simp [World.frozen?,k1]⟩
 rw [cell_of k1,Array.getElem?_eq_getElem (by omega)]
 rfl
theorem storeV_ok {t:TypeId} {x v:SV} {st':St X} (h:storeV P st t x v=some st') (hR:Rl L e st w F) {u y:Value} (hx:VR e x u) (hv:VR e v y) (B:Nat) :
  ∃ w',(Instr.storeAt t u y).run P w=.ok () w'∧Rl L e st' w' F∧Nxt B e st w F e st' w' F:=by
 unfold storeV at h
 split at h
 ·rename_i b off
  cases hx with
  | ptr hb =>
   rename_i c o z
   split at h
   ·rename_i cs sib ty hm
    have hB:=(hR.blk b _ c o z hm hb).2
    split at h
    ·rename_i n hn
     cases hc:Nat.beq v.cs.length n && Nat.ble (off + n) cs.length && v.cs.all SV.one && ltM b sib with
     | false=>rw [hc] at h;cases h
     | true =>
      rw [hc] at h;cases h
      simp only [Bool.and_eq_true] at hc
      obtain ⟨⟨⟨h1,h2⟩,h3⟩,h4⟩:=hc
      have h1:=Nat.eq_of_beq_eq_true h1
      have h2:=zB h2
      obtain ⟨h5,h6⟩:=ltM_ok h4
      have hvc:=hv.cells
      have hlen:=hvc.length
      have hcz:cs.length≤z:=by obtain ⟨_,_,_,_,_,_,q,_⟩:=hB;exact q
      have hW:=writable (off:=off) (n:=n) hB (by omega)
      have hone:=oneAll hvc h3
      have hst:=run_storeCells_cells (P:=P) c (o + off) y.cells.toList 0 w (fun j hj=>(hW j (by omega)).1) (fun j hj=>(hW j (by omega)).2) hone
      obtain ⟨o1,o2,o3,o4,o5⟩:=setCells_outer c y.cells.toList (o + off) w
      refine ⟨w.setCells c (o + off) y.cells.toList,?_,hR.turn hm rfl hb h5 h6 rfl (Nat.le_of_eq o4.symm) (fun d _ hd=>o5 d hd) (hB.write hvc h3 (by omega) (by omega)),Nxt.turn hR hm hb h5 h6 (Nat.le_of_eq o4.symm) (fun d _ hd=>o5 d hd) ⟨o1,o2,o3⟩⟩
      have hsz:y.cells.size=n:=by simp only [Array.length_toList] at hlen;omega
      simp only [Nat.add_zero] at hst
      simp [Instr.storeAt,Instr.sureAddr,storeVar,Sem.run_bind,run_szT hn,hsz,hst]
    ·cases h
   ·cases h
 ·cases h
end
end
section
open Go.RowKit
def repS (zs:List SV):Nat→List SV
 | 0=>[]
 | n + 1=>zs++repS zs n
theorem repS_len (zs:List SV):∀ n,(repS zs n).length=n * zs.length
 | 0=>by simp [repS]
 | n + 1=>by rw [repS,List.length_append,repS_len zs n,Nat.add_mul];omega
theorem repS_at (zs:List SV):∀ (n j:Nat),j < n * zs.length→(repS zs n)[j]?=zs[j % zs.length]?
 | 0,j,h=>by simp at h
 | n + 1,j,h=>by
  rw [repS]
  by_cases hj:j < zs.length
  ·rw [List.getElem?_append_left hj,Nat.mod_eq_of_lt hj]
  ·rw [List.getElem?_append_right (by omega),repS_at zs n _ (by rw [Nat.add_mul] at h;omega)]
   congr 1
   exact (Nat.mod_eq_sub_mod (by omega)).symm
theorem repS_ok {e:Env} {zs:List SV} {z:Array Value} (h:VRs e zs z.toList) (n k:Nat) (hk:k=n * zs.length):VRs e (repS zs n) (madeCells z k).toList:=by
 have hl:zs.length=z.size:=by have:=h.length;simpa using this
 refine VRs.of_at ?_ fun j v u hv hu=>?_
 ·rw [repS_len];simp [madeCells,hk]
 ·have hj:j < k:=by have:=(List.getElem?_eq_some_iff.1 hu).1;simpa [madeCells] using this
  rw [repS_at _ _ _ (by omega)] at hv
  obtain ⟨u',h1,h2⟩:=h.at _ hv
  have hpos:0 < zs.length:=by
   rcases Nat.eq_zero_or_pos zs.length with h0 | h0
   ·rw [h0] at hk;omega
   ·exact h0
  have hm:j % zs.length < z.size:=by rw [← hl];exact Nat.mod_lt _ hpos
  have e1:z[j % zs.length]?=some u':=by simpa using h1
  have e2:u=u':=by
   simp only [madeCells,Array.toList_map,List.getElem?_map,Array.toList_range,List.getElem?_range hj,Option.map_some,Option.some.injEq] at hu
   rw [← hu,← hl]
   rw [getElem!_pos z _ hm]
   rw [Array.getElem?_eq_getElem hm] at e1
   exact Option.some.inj e1
  rw [e2];exact h2
theorem repS_one {zs:List SV} (h:zs.all SV.one=true):∀ n,(repS zs n).all SV.one=true
 | 0=>rfl
 | n + 1=>by rw [repS,List.all_append,h,repS_one h n];rfl
def opAlloc (P:Program) (tm:T SV) (o:Op):Option (List SV × Nat × (Nat→SV)) :=
 match o with
 | .alloc t=>match zeroS P t with
  | some zs=>some (zs,t,fun k=>.ptr k 0)
  | none=>none
 | .box t x=>match evx tm x with
  | some v=>bif v.cs.all SV.one then some (v.cs,t,fun k=>.ptr k 0) else none
  | none=>none
 | .buildSlice t len ps=>match P.underlying t with
  | some (.slice el)=>match zeroS P el with
   | some zs=>match szT P el with
    | some (s + 1)=>bif Nat.beq zs.length (s + 1) && Nat.ble (len * (s + 1)) 16777216 then match evps tm ps.toList with
     | some l=>match fillS (fun i=>some (i * (s + 1),s + 1)) (repS zs len) l with
      | some cs=>bif cs.all SV.one then some (cs,el,fun k=>.sl k 0 len (s + 1) (some len)) else none
      | none=>none
     | none=>none
     else none
    | _=>none
   | none=>none
  | _=>none
 | .makeSlice t lo co=>match P.underlying t with
  | some (.slice el)=>match zeroS P el with
   | some zs=>match P.info? el with
    | some i=>match evx tm lo with
     | some (.int _ (.ofNat l))=>match evx tm co with
      | some (.int _ (.ofNat c))=>bif Nat.beq zs.length i.size && Nat.ble l c && Nat.ble (i.bytes * c) 281474976710656 && Nat.ble c 16777216 then
        some (repS zs c,el,fun k=>.sl k 0 l i.size (some c))
       else none
      | _=>none
     | _=>none
    | none=>none
   | none=>none
  | _=>none
 | _=>none
def MakesV (P:Program) (o:Oper) (a:Go.Act) (w:World) (e:Env) (id:Nat) (cs:List SV) (ty:Nat) (v:SV):Prop :=
 ∃ obj z u,(execOp a.eval o).run P w=.ok (.value u) (w.alloc obj)∧BlkR (e.put id (w.heap.size,0,z)) (w.alloc obj) w.heap.size 0 z (.cells cs false [] (some ty))∧VR (e.put id (w.heap.size,0,z)) v u
theorem newBlk {e e':Env} {w:World} {cs:List SV} {arr:Array Value} {t:TypeId} (h:VRs e cs arr.toList) (hl:e.le e') (h1:cs.all SV.one=true):BlkR e' (w.alloc (.cells arr t)) w.heap.size 0 arr.size (.cells cs false [] (some t)):=by
 have hlen:=h.length
 simp only [Array.length_toList] at hlen
 refine ⟨arr,t,(0,0),?_,by omega,⟨fun _=>rfl,fun T hT=>⟨Option.some.inj hT,rfl⟩⟩,by omega,fun j v hj=>⟨(List.all_eq_true.1 h1) v (List.mem_of_getElem? hj),?_⟩⟩
 ·exact MapKept.heap_alloc w _ |>.1
 ·obtain ⟨u,h2,h3⟩:=h.at j hj
  exact ⟨u,by rw [Nat.zero_add];simpa using h2,h3.mono hl⟩
theorem opAlloc_ok {P:Program} {tm:T SV} {o:Oper} {a:Go.Act} {e:Env} {cs:List SV} {ty:Nat} {mk:Nat→SV} (h:opAlloc P tm o.op=some (cs,ty,mk)) (hs:AS e tm a o.op.operands.toList) {id:Nat} (hid:e id=none) (w:World):MakesV P o a w e id cs ty (mk id):=by
 unfold opAlloc at h
 split at h
 ·rename_i t ho
  split at h
  ·rename_i zs hz
   cases h
   obtain ⟨i,z,hi,hzz,hzs⟩:=zeroS_ok hz
   obtain ⟨k1,k2⟩:=svs_ok e hzs
   refine ⟨.cells z.cells ty,z.cells.size,_,?_,newBlk k1 (Env.le_put hid _) k2,.ptr (Env.put_same _ _ _)⟩
   simp only [execOp,ho,Instr.alloc,Sem.run_bind,run_zeroS hi hzz,Result.andThen_ok]
   rfl
  ·cases h
 ·rename_i t x ho
  split at h
  ·rename_i v hv
   cases h1:v.cs.all SV.one with
   | false=>rw [h1] at h;cases h
   | true =>
    rw [h1] at h;cases h
    have k:=(hs x (by rw [ho];simp [Op.operands]) v hv).cells
    refine ⟨.cells (a.eval x).cells ty,(a.eval x).cells.size,_,?_,newBlk k (Env.le_put hid _) h1,.ptr (Env.put_same _ _ _)⟩
    simp only [execOp,ho,Instr.box]
    rfl
  ·cases h
 ·rename_i t len ps ho
  split at h
  ·rename_i el ht
   split at h
   ·rename_i zs hz
    split at h
    ·rename_i s hsz
     cases hc:Nat.beq zs.length (s + 1) && Nat.ble (len * (s + 1)) 16777216 with
     | false=>rw [hc] at h;cases h
     | true =>
      rw [hc] at h
      simp only [Bool.and_eq_true] at hc
      have hc1:=Nat.eq_of_beq_eq_true hc.1
      have hc2:=zB hc.2
      simp only [cond_true] at h
      split at h
      ·rename_i l hl
       split at h
       ·rename_i cs' hcs
        cases h1:cs'.all SV.one with
        | false=>rw [h1] at h;cases h
        | true =>
         rw [h1] at h;cases h
         obtain ⟨i,z,hi,hzz,hzs⟩:=zeroS_ok hz
         obtain ⟨k1,k2⟩:=svs_ok e hzs
         obtain ⟨g1,g2⟩:=evps_ok (fun x hx=>hs x (by rw [ho];simpa [Op.operands] using hx)) hl
         have hrep:=repS_ok k1 len (len * (s + 1)) (by rw [hc1])
         have his:i.size=s + 1:=by simpa [szT,hi] using hsz
         obtain ⟨out,f1,f2,f3⟩:=fillS_ok (us:=(ps.map fun (i,x)=>(i,a.eval x)).toList) hcs hrep (by rw [g1];simp [Function.comp_def]) (by simpa [Function.comp_def] using g2)
         have hosz:out.size=len * (s + 1):=by rw [f3];simp [madeCells]
         have hrun:(Instr.buildSlice t len (ps.map fun (i,x)=>(i,a.eval x))).run P w=.ok (.slice (some ⟨w.heap.size,0,none⟩) len len) (w.alloc (.cells out ty)):=by
          by_cases h0:len * i.size=0
          ·have hlen0:len=0:=by rcases Nat.mul_eq_zero.1 h0 with h | h<;>omega
           subst hlen0
           have:madeCells z.cells (0 * (s + 1))=#[]:=by simp [madeCells]
           rw [this] at f1
           have:(Array.range (0 * i.size)).map (fun x=>(#[]:Array Value)[x % (#[]:Array Value).size]!)=#[]:=by simp
           simp [Instr.buildSlice,run_underlying ht,sizeOf,typeInfo,hi,newRow,his]
           have e0:(Array.map (fun _=>default) (Array.range 0))=(#[]:Array Value):=by simp
           rw [Array.toList_map] at f1
           rw [e0,f1]
           rfl
          ·exact run_buildSlice w t ty len _ out i z ht hi hzz (by rw [his];omega) h0 (by rw [his];exact f1)
         refine ⟨.cells out ty,out.size,.slice (some ⟨w.heap.size,0,none⟩) len len,?_,newBlk f2 (Env.le_put hid _) h1,?_⟩
         ·simp only [execOp,ho,Sem.run_bind,hrun,Result.andThen_ok]
          rfl
         ·have:=VR.sl (e:=e.put id (w.heap.size,0,out.size)) (b:=id) (off:=0) (len:=len) (esz:=s + 1) (cap:=len) (ck:=some len) (Env.put_same _ _ _) (Nat.le_refl _) (by omega) (by
           have:len * 1≤len * (s + 1):=Nat.mul_le_mul_left _ (by omega)
           simp only [maxLen];omega) (.inr rfl)
          simpa using this
       ·cases h
      ·cases h
    ·cases h
   ·cases h
  ·cases h
 ·rename_i t lo co ho
  split at h
  ·rename_i el ht
   split at h
   ·rename_i zs hz
    split at h
    ·rename_i i hi
     split at h
     ·rename_i k l hl
      split at h
      ·rename_i k' c hc
       cases hb:Nat.beq zs.length i.size && Nat.ble l c && Nat.ble (i.bytes * c) 281474976710656 && Nat.ble c 16777216 with
       | false=>rw [hb] at h;cases h
       | true =>
        rw [hb] at h;cases h
        simp only [Bool.and_eq_true] at hb
        obtain ⟨⟨⟨b1,b2⟩,b3⟩,b4⟩:=hb
        have b1:=Nat.eq_of_beq_eq_true b1
        have b2:=zB b2
        have b3:=zB b3
        have b4:=zB b4
        obtain ⟨i',z,hi',hzz,hzs⟩:=zeroS_ok hz
        rw [hi] at hi';cases hi'
        obtain ⟨k1,k2⟩:=svs_ok e hzs
        have v1:=hs lo (by rw [ho];simp [Op.operands]) _ hl
        have v2:=hs co (by rw [ho];simp [Op.operands]) _ hc
        generalize hg1:a.eval lo=u1 at v1
        generalize hg2:a.eval co=u2 at v2
        cases v1;cases v2
        have hrun:(Instr.makeSlice t (.int k (Int.ofNat l)) (.int k' (Int.ofNat c))).run P w=.ok (.slice (some ⟨w.heap.size,0,none⟩) l c) (w.alloc (.cells (madeCells z.cells (c * i.size)) ty)):=run_make (P:=P) w t ty i z ht hi hzz k k' l c (by omega) (by omega) (by omega) (by omega)
        have hrep:=repS_ok k1 c (c * i.size) (by rw [b1])
        refine ⟨.cells (madeCells z.cells (c * i.size)) ty,(madeCells z.cells (c * i.size)).size,.slice (some ⟨w.heap.size,0,none⟩) l c,?_,newBlk hrep (Env.le_put hid _) (repS_one k2 c),?_⟩
        ·simp only [execOp,ho,hg1,hg2,Sem.run_bind]
         rw [hrun]
         rfl
        ·have:=VR.sl (e:=e.put id (w.heap.size,0,(madeCells z.cells (c * i.size)).size)) (b:=id) (off:=0) (len:=l) (esz:=i.size) (cap:=c) (ck:=some c) (Env.put_same _ _ _) b2 (by simp [madeCells]) (by simp only [maxLen];omega) (.inr rfl)
         simpa using this
      ·cases h
     ·cases h
    ·cases h
   ·cases h
  ·cases h
 ·cases h
def opNew (P:Program) (tm:T SV) (o:Op):Option (SB × (Nat→SV)):=match o with
 | .makeMap _ none=>some (.map [],fun k=>.map k)
 | o=>match opAlloc P tm o with
  | some p=>some (.cells p.1 false [] (some p.2.1),p.2.2)
  | none=>none
theorem opNew_k {P:Program} {tm:T SV} {o:Op} {k:SB} {mk:Nat→SV} (h:opNew P tm o=some (k,mk)):k.sib=[]∧k≠.emp:=by
 unfold opNew at h
 split at h
 ·cases h;exact ⟨rfl,nofun⟩
 ·split at h
  ·cases h;exact ⟨rfl,nofun⟩
  ·cases h
def MakesN (P:Program) (o:Oper) (a:Go.Act) (w:World) (e:Env) (id:Nat) (k:SB) (v:SV):Prop :=
 ∃ obj z u,(execOp a.eval o).run P w=.ok (.value u) (w.alloc obj)∧BlkR (e.put id (w.heap.size,0,z)) (w.alloc obj) w.heap.size 0 z k∧VR (e.put id (w.heap.size,0,z)) v u
theorem opNew_ok {P:Program} {tm:T SV} {o:Oper} {a:Go.Act} {e:Env} {k:SB} {mk:Nat→SV} (h:opNew P tm o.op=some (k,mk)) (hs:AS e tm a o.op.operands.toList) {id:Nat} (hid:e id=none) (w:World):MakesN P o a w e id k (mk id):=by
 unfold opNew at h
 split at h
 ·rename_i t ho
  cases h
  refine ⟨.map #[] 0,0,.map (some w.heap.size),?_,⟨#[],0,MapKept.heap_alloc w _ |>.1,.nil,.nil⟩,.map (Env.put_same _ _ _)⟩
  simp only [execOp,ho,Option.map_none,Sem.run_bind]
  rfl
 ·split at h
  ·rename_i p hp
   cases h
   obtain ⟨obj,z,u,h1,h2,h3⟩:=opAlloc_ok (cs:=p.1) (ty:=p.2.1) (mk:=p.2.2) hp hs hid w
   exact ⟨obj,z,u,h1,h2,h3⟩
  ·cases h
end
end Go.Proofs.YtmelcflkbfhohaaGreatDoor.W.E
