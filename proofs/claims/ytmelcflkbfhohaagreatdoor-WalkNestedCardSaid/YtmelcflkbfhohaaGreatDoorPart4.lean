/- EvN EvS -/
import Derived.Test.YtmelcflkbfhohaaGreatDoorEvB
import Derived.Laws.BytesString
set_option linter.unusedVariables false
set_option linter.unusedSimpArgs false
namespace Go.Proofs.YtmelcflkbfhohaaGreatDoor.W.E
section
open Go.RowKit
def eqKey (d:TypeDesc) (a b:SV):Option Bool :=
 match d with
 | .int _=>match a,b with
  | .int k x,.int j y=>bif decide (k=j) then some (x == y) else none
  | _,_=>none
 | .string=>match a,b with
  | .str s,.str t=>some (eqB s t)
  | _,_=>none
 | _=>none
theorem eqKey_ok {d:TypeDesc} {a b:SV} {r:Bool} (h:eqKey d a b=some r) {e:Env} {u v:Value} (hu:VR e a u) (hv:VR e b v) :
  Instr.sameNow d u v=some r∧(r=true→∀ n,Instr.sameBits (n + 1) v u=true)∧(∀ (P:Program) (t:TypeId),P.underlying t=some d→∀ emp n w,(Instr.checkKey emp (n + 1) t u).run P w=.ok () w):=by
 unfold eqKey at h
 split at h
 ·split at h
  ·rename_i k x j y
   cases hk:decide (k=j) with
   | false=>rw [hk] at h;cases h
   | true =>
    rw [hk] at h;cases h
    have:=of_decide_eq_true hk
    subst this
    cases hu;cases hv
    refine ⟨by simp [Instr.sameNow],fun hr n=>?_,fun P t ht emp n w=>?_⟩
    ·have:x=y:=by simpa using hr
     subst this;simp [Instr.sameBits]
    ·unfold Instr.checkKey;simp [run_underlying ht,Sem.run_bind]
  ·cases h
 ·split at h
  ·rename_i s t
   cases h
   cases hu;cases hv
   refine ⟨by simp [Instr.sameNow,eqB_ok,beq_bs],fun hr n=>?_,fun P t ht emp n w=>?_⟩
   ·rw [eqB_ok] at hr
    have:=of_decide_eq_true hr
    subst this;simp [Instr.sameBits,beq_bs]
   ·unfold Instr.checkKey;simp [run_underlying ht,Sem.run_bind]
  ·cases h
 ·cases h
def keyOk (d:TypeDesc) (a:SV):Bool :=
 match d with
 | .int _=>match a with
  | .int _ _=>true
  | _=>false
 | .string=>match a with
  | .str _=>true
  | _=>false
 | _=>false
theorem keyOk_ok {d:TypeDesc} {a:SV} (h:keyOk d a=true) {e:Env} {u:Value} (hu:VR e a u) {P:Program} {t:TypeId} (ht:P.underlying t=some d) (emp:Bool) (n:Nat) (w:World):(Instr.checkKey emp (n + 1) t u).run P w=.ok () w:=by
 unfold keyOk at h
 split at h
 ·split at h
  ·cases hu
   unfold Instr.checkKey;simp [run_underlying ht,Sem.run_bind]
  ·cases h
 ·split at h
  ·cases hu
   unfold Instr.checkKey;simp [run_underlying ht,Sem.run_bind]
  ·cases h
 ·cases h
def findS (d:TypeDesc) (k:SV):List (SV × SV)→Nat→Option (Option (Nat × SV))
 | [],_=>some none
 | p :: t,i=>match eqKey d k p.1 with
  | some true=>some (some (i,p.2))
  | some false=>findS d k t (i + 1)
  | none=>none
theorem findS_ok {d:TypeDesc} {k:SV} {e:Env} {u:Value} (hu:VR e k u):∀ {es:List (SV × SV)} {ms:List MapEntry} {i:Nat} {r:Option (Nat × SV)},findS d k es i=some r→VRs e (es.map (·.1)) (ms.map (·.key))→VRs e (es.map (·.2)) (ms.map (·.val)) →
  match r with
  | none=>Instr.findNow d u ms i=some none
  | some (j,v)=>∃ y,Instr.findNow d u ms i=some (some (j,y))∧VR e v y∧i≤j∧∃ m,ms[j - i]?=some m∧(∀ n,Instr.sameBits (n + 1) m.key u=true)
 | [],[],i,r,h,_,_=>by cases h;rfl
 | p :: t,m :: ms,i,r,h,hk,hv=>by
  cases hk with
  | cons hk1 hk2=>cases hv with
   | cons hv1 hv2 =>
    unfold findS at h
    split at h
    ·rename_i he
     cases h
     obtain ⟨q1,q2,q3⟩:=eqKey_ok he hu hk1
     refine ⟨m.val,by simp [Instr.findNow,q1],hv1,Nat.le_refl _,m,by simp,fun n=>?_⟩
     exact q2 rfl n
    ·rename_i he
     obtain ⟨q1,q2,q3⟩:=eqKey_ok he hu hk1
     have:=findS_ok hu h hk2 hv2
     cases r with
     | none=>simp only at this ⊢;simp [Instr.findNow,q1,this]
     | some jv =>
      obtain ⟨j,v⟩:=jv
      obtain ⟨y,a1,a2,a3,m',a4,a5⟩:=this
      refine ⟨y,by simp [Instr.findNow,q1,a1],a2,by omega,m',?_,a5⟩
      rw [show j - i=(j - (i + 1)) + 1 by omega,List.getElem?_cons_succ]
      exact a4
    ·cases h
 | [],_ :: _,_,_,_,hk,_=>by cases hk
 | _ :: _,[],_,_,_,hk,_=>by cases hk
def sameV:SV→SV→Bool
 | .int k a,.int j b=>decide (k=j) && (a == b)
 | .str s,.str t=>eqB s t
 | _,_=>false
def sameVs:List SV→List SV→Bool
 | [],[]=>true
 | x :: s,y :: t=>sameV x y && sameVs s t
 | _,_=>false
theorem sameV_ok {x y:SV} (h:sameV x y=true) {e:Env} {u v:Value} (hu:VR e x u) (hv:VR e y v) (n:Nat):Instr.sameBits n v u=true:=by
 unfold sameV at h
 split at h
 ·simp only [Bool.and_eq_true,decide_eq_true_eq] at h
  obtain ⟨rfl,h2⟩:=h
  cases hu;cases hv
  rename_i k a b
  have:a=b:=by simpa using h2
  subst this
  cases n<;>simp [Instr.sameBits]
 ·cases hu;cases hv
  rw [eqB_ok] at h
  have:=of_decide_eq_true h
  subst this
  cases n<;>simp [Instr.sameBits,beq_bs]
 ·cases h
theorem sameVs_ok {e:Env} {n:Nat}:∀ {xs ys:List SV} {us vs:List Value},sameVs xs ys=true→VRs e xs us→VRs e ys vs→us.length=vs.length∧((vs.zip us).all fun (x,y)=>Instr.sameBits n x y)=true
 | [],[],_,_,_,.nil,.nil=>⟨rfl,rfl⟩
 | x :: s,y :: t,_,_,h,.cons h1 h2,.cons k1 k2=>by
  unfold sameVs at h
  simp only [Bool.and_eq_true] at h
  obtain ⟨a,b⟩:=sameVs_ok h.2 h2 k2
  refine ⟨by simp [a],?_⟩
  rw [List.zip_cons_cons,List.all_cons,Bool.and_eq_true]
  exact ⟨sameV_ok h.1 h1 k1 n,b⟩
 | [],_ :: _,_,_,h,_,_=>by cases h
 | _ :: _,[],_,_,h,_,_=>by cases h
def okFs (P:Program) (xs:List SV):List Field→Bool
 | []=>true
 | f :: fs=>bif f.name == "_" then okFs P xs fs else match partS P f.type xs f.offset with
  | some a=>match P.underlying f.type with
   | some d=>keyOk d a && okFs P xs fs
   | none=>false
  | none=>false
theorem okFs_ok {P:Program} {e:Env} {emp:Bool} {n:Nat} {K:TypeId} {F:Array Field} (hK:P.underlying K=some (.struct F)) {xs:List SV} {us:List Value} (hx:VRs e xs us) (h:okFs P xs F.toList=true) (w:World):(Instr.checkKey emp (n + 2) K (.agg ⟨us⟩)).run P w=.ok () w:=by
 unfold Instr.checkKey
 simp only [Sem.run_bind,run_underlying hK,Result.andThen_ok]
 rw [← Array.forIn_toList]
 clear hK
 generalize F.toList=fs at h
 induction fs with
 | nil=>simp
 | cons f fs ih =>
  unfold okFs at h
  rw [List.forIn_cons,Sem.run_bind]
  cases hf:f.name == "_" with
  | true =>
   rw [hf] at h
   have hn:f.name= "_":=by simpa using hf
   simp only [hn,ne_eq,not_true_eq_false,if_false,Sem.run_pure,Result.andThen_ok]
   exact ih h
  | false =>
   rw [hf,cond_false] at h
   have hn:f.name≠ "_":=by simpa using hf
   split at h
   ·rename_i a ha
    split at h
    ·rename_i d hd
     simp only [Bool.and_eq_true] at h
     obtain ⟨u1,p1,q1⟩:=partS_ok ha hx w
     have:=keyOk_ok h.1 q1 hd emp n w
     simp only [hn,ne_eq,not_false_eq_true,if_true,Sem.run_bind,p1,this,Result.andThen_ok,Sem.run_pure]
     exact ih h.2
    ·cases h
   ·cases h
def eqKeyP (P:Program) (kt:TypeId) (a b:SV):Option Bool :=
 match a with
 | .agg xs=>match b with
  | .agg ys=>match eqT P 10000 kt a b with
   | some r=>bif r == sameVs xs ys then some r else none
   | none=>none
  | _=>none
 | _=>none
theorem eqKeyP_ok {P:Program} {kt:TypeId} {a b:SV} {r:Bool} (h:eqKeyP P kt a b=some r) {e:Env} {u v:Value} (hu:VR e a u) (hv:VR e b v):(∀ w,(Op.equal kt u v).run P w=.ok r w)∧(r=true→∀ n,Instr.sameBits (n + 1) v u=true):=by
 unfold eqKeyP at h
 split at h
 ·rename_i xs
  split at h
  ·rename_i ys
   split at h
   ·rename_i r' hr
    cases hb:r' == sameVs xs ys with
    | false=>rw [hb] at h;cases h
    | true =>
     rw [hb] at h;cases h
     have hs:r=sameVs xs ys:=by simpa using hb
     refine ⟨fun w=>eqT_ok 10000 kt _ _ r u v hr hu hv w,fun ht n=>?_⟩
     cases hu with
     | agg hu=>cases hv with
      | agg hv =>
       obtain ⟨a1,a2⟩:=sameVs_ok (n:=n) (hs.symm.trans ht) hu hv
       unfold Instr.sameBits
       simp only [List.size_toArray,Bool.and_eq_true,beq_iff_eq]
       exact ⟨a1.symm,a2⟩
   ·cases h
  ·cases h
 ·cases h
def findA (P:Program) (kt:TypeId) (k:SV):List (SV × SV)→Nat→Option (Option (Nat × SV))
 | [],_=>some none
 | p :: t,i=>match eqKeyP P kt k p.1 with
  | some true=>some (some (i,p.2))
  | some false=>findA P kt k t (i + 1)
  | none=>none
theorem findA_ok {P:Program} {kt:TypeId} {k:SV} {e:Env} {u:Value} (hu:VR e k u):∀ {es:List (SV × SV)} {ms:List MapEntry} {i:Nat} {r:Option (Nat × SV)},findA P kt k es i=some r→VRs e (es.map (·.1)) (ms.map (·.key))→VRs e (es.map (·.2)) (ms.map (·.val)) →
  match r with
  | none=>∀ w,(Instr.findAsking kt u ms i).run P w=.ok none w
  | some (j,v)=>∃ y,(∀ w,(Instr.findAsking kt u ms i).run P w=.ok (some (j,y)) w)∧VR e v y∧i≤j∧∃ m,ms[j - i]?=some m∧(∀ n,Instr.sameBits (n + 1) m.key u=true)
 | [],[],i,r,h,_,_=>by cases h;exact fun w=>rfl
 | p :: t,m :: ms,i,r,h,hk,hv=>by
  cases hk with
  | cons hk1 hk2=>cases hv with
   | cons hv1 hv2 =>
    unfold findA at h
    split at h
    ·rename_i he
     cases h
     obtain ⟨q1,q2⟩:=eqKeyP_ok he hu hk1
     refine ⟨m.val,fun w=>?_,hv1,Nat.le_refl _,m,by simp,fun n=>q2 rfl n⟩
     unfold Instr.findAsking
     simp only [Sem.run_bind,q1,Result.andThen_ok,if_true,Sem.run_pure]
    ·rename_i he
     obtain ⟨q1,q2⟩:=eqKeyP_ok he hu hk1
     have:=findA_ok hu h hk2 hv2
     have one:∀ w,(Instr.findAsking kt u (m :: ms) i).run P w=(Instr.findAsking kt u ms (i + 1)).run P w:=fun w=>by
      conv=>lhs;unfold Instr.findAsking
      simp only [Sem.run_bind,q1,Result.andThen_ok,Bool.false_eq_true,if_false]
     cases r with
     | none=>simp only at this ⊢;exact fun w=>(one w).trans (this w)
     | some jv =>
      obtain ⟨j,v⟩:=jv
      obtain ⟨y,a1,a2,a3,m',a4,a5⟩:=this
      refine ⟨y,fun w=>(one w).trans (a1 w),a2,by omega,m',?_,a5⟩
      rw [show j - i=(j - (i + 1)) + 1 by omega,List.getElem?_cons_succ]
      exact a4
    ·cases h
 | [],_ :: _,_,_,_,hk,_=>by cases hk
 | _ :: _,[],_,_,_,hk,_=>by cases hk
theorem run_findKey {P:Program} {kt:TypeId} {d:TypeDesc} (ht:P.underlying kt=some d) {u:Value} {ms:List MapEntry} {r:Option (Nat × Value)} (h:Instr.findNow d u ms 0=some r) (w:World):(Instr.findKey kt u ms).run P w=.ok r w:=by
 unfold Instr.findKey
 rw [Sem.run_bind,run_underlying ht]
 simp only [Result.andThen_ok,h]
 rfl
theorem run_findKeyA {P:Program} {kt:TypeId} {fs:Array Field} (ht:P.underlying kt=some (.struct fs)) {us:Array Value} {ms:List MapEntry} (w:World):(Instr.findKey kt (.agg us) ms).run P w=(Instr.findAsking kt (.agg us) ms 0).run P w:=by
 unfold Instr.findKey
 rw [Sem.run_bind,run_underlying ht]
 cases ms with
 | nil=>rfl
 | cons m ms =>
  have:Instr.findNow (.struct fs) (.agg us) (m :: ms) 0=none:=rfl
  simp only [Result.andThen_ok,this]
def keyP (P:Program) (d:TypeDesc) (k:SV):Bool:=match d with
 | .struct fs=>match k with
  | .agg xs=>okFs P xs fs.toList
  | _=>false
 | d=>keyOk d k
def findP (P:Program) (kt:TypeId) (d:TypeDesc) (k:SV) (es:List (SV × SV)):Option (Option (Nat × SV)):=match d with
 | .struct _=>match k with
  | .agg _=>findA P kt k es 0
  | _=>none
 | d=>findS d k es 0
theorem keyP_ok {P:Program} {d:TypeDesc} {k:SV} (h:keyP P d k=true) {e:Env} {u:Value} (hu:VR e k u) {kt:TypeId} (ht:P.underlying kt=some d) (emp:Bool) (w:World):(Instr.checkKey emp 10000 kt u).run P w=.ok () w:=by
 unfold keyP at h
 split at h
 ·split at h
  ·cases hu with
   | agg hu=>exact okFs_ok (n:=9998) ht hu h w
  ·cases h
 ·exact keyOk_ok h hu ht emp 9999 w
theorem findP_ok {P:Program} {kt:TypeId} {d:TypeDesc} (ht:P.underlying kt=some d) {k:SV} {e:Env} {u:Value} (hu:VR e k u) {es:List (SV × SV)} {ms:List MapEntry} {r:Option (Nat × SV)} (h:findP P kt d k es=some r) (hk:VRs e (es.map (·.1)) (ms.map (·.key))) (hv:VRs e (es.map (·.2)) (ms.map (·.val))) :
  match r with
  | none=>∀ w,(Instr.findKey kt u ms).run P w=.ok none w
  | some (j,v)=>∃ y,(∀ w,(Instr.findKey kt u ms).run P w=.ok (some (j,y)) w)∧VR e v y∧∃ m,ms[j]?=some m∧Instr.sameBits 10000 m.key u=true:=by
 unfold findP at h
 split at h
 ·split at h
  ·have:=findA_ok hu h hk hv
   cases hu with
   | agg hu =>
    cases r with
    | none=>exact fun w=>(run_findKeyA ht w).trans (this w)
    | some jv =>
     obtain ⟨j,v⟩:=jv
     obtain ⟨y,a1,a2,a3,m,a4,a5⟩:=this
     exact ⟨y,fun w=>(run_findKeyA ht w).trans (a1 w),a2,m,a4,a5 9999⟩
  ·cases h
 ·have:=findS_ok hu h hk hv
  cases r with
  | none=>exact run_findKey ht this
  | some jv =>
   obtain ⟨j,v⟩:=jv
   obtain ⟨y,a1,a2,a3,m,a4,a5⟩:=this
   exact ⟨y,run_findKey ht a1,a2,m,a4,a5 9999⟩
def zeroSV (P:Program) (t:TypeId):Option SV :=
 match P.info? t with
 | some i=>match i.zero with
  | some z=>svOf z
  | none=>none
 | none=>none
theorem zeroSV_ok {P:Program} {t:TypeId} {v:SV} (h:zeroSV P t=some v) (e:Env) (w:World):∃ z,(zeroValue t).run P w=.ok z w∧VR e v z:=by
 unfold zeroSV at h
 split at h
 ·rename_i i hi
  split at h
  ·rename_i z hz
   exact ⟨z,by simp [zeroValue,typeInfo,hi,hz],svOf_ok h e⟩
  ·cases h
 ·cases h
section
variable {X:Type} {L:EL X} {e:Env} {st:St X} {w:World} {F:FootE} {P:Program}
def lookupV (P:Program) (m:T SB) (t:TypeId) (x k:SV) (ok:Bool):Option SV :=
 match P.underlying t with
 | some (.map kt el)=>match P.underlying kt with
  | some d=>match x with
   | .map b=>match m.get b with
    | some (.map es)=>bif keyP P d k then match findP P kt d k es with
     | some (some p)=>some (bif ok then .tup [p.2,.bool true] else p.2)
     | some none=>match zeroSV P el with
      | some z=>some (bif ok then .tup [z,.bool false] else z)
      | none=>none
     | none=>none
     else none
    | _=>none
   | .nilm=>bif keyP P d k then match zeroSV P el with
     | some z=>some (bif ok then .tup [z,.bool false] else z)
     | none=>none
    else none
   | _=>none
  | none=>none
 | _=>none
theorem lookupV_ok {t:TypeId} {x k v:SV} {ok:Bool} (h:lookupV P st.m t x k ok=some v) (hR:Rl L e st w F) {u y:Value} (hx:VR e x u) (hk:VR e k y):∃ r,(Instr.lookup t u y ok).run P w=.ok r w∧VR e v r:=by
 unfold lookupV at h
 split at h
 ·rename_i kt el ht
  split at h
  ·rename_i d hd
   split at h
   ·rename_i b
    cases hx with
    | map hb =>
     rename_i c o z
     split at h
     ·rename_i es hm
      obtain ⟨es',ck,h1,h2,h3⟩:=(hR.blk b _ c o z hm hb).2
      cases hko:keyP P d k with
      | false=>rw [hko] at h;cases h
      | true =>
       rw [hko,cond_true] at h
       have hck:=keyP_ok hko hk hd es'.isEmpty w
       have hget:(getObj c).run P w=.ok (.map es' ck) w:=by simp [getObj,Sem.run,h1]
       split at h
       ·rename_i p hf
        cases h
        obtain ⟨y',a1,a2,a3,a4⟩:=findP_ok (r:=some p) hd hk hf (ms:=es'.toList) (by simpa using h2) (by simpa using h3)
        have hfk:=a1 w
        unfold Instr.lookup
        simp only [Sem.run_bind,Sem.run_pure,run_underlying ht,Result.andThen_ok,hget,hck,hfk]
        cases ok with
        | true=>exact ⟨_,rfl,.tup (.cons a2 (.cons (.bool _) .nil))⟩
        | false=>exact ⟨_,rfl,a2⟩
       ·rename_i hf
        split at h
        ·rename_i zv hz
         cases h
         have a1:=findP_ok (r:=none) hd hk hf (ms:=es'.toList) (by simpa using h2) (by simpa using h3)
         obtain ⟨z',z1,z2⟩:=zeroSV_ok hz e w
         have hfk:=a1 w
         unfold Instr.lookup
         simp only [Sem.run_bind,Sem.run_pure,run_underlying ht,Result.andThen_ok,hget,hck,hfk,z1]
         cases ok with
         | true=>exact ⟨_,rfl,.tup (.cons z2 (.cons (.bool _) .nil))⟩
         | false=>exact ⟨_,rfl,z2⟩
        ·cases h
       ·cases h
     ·cases h
   ·cases hx
    cases hko:keyP P d k with
    | false=>rw [hko] at h;cases h
    | true =>
     rw [hko,cond_true] at h
     split at h
     ·rename_i zv hz
      cases h
      have hck:=keyP_ok hko hk hd true w
      obtain ⟨z',z1,z2⟩:=zeroSV_ok hz e w
      have hfk:(Instr.findKey kt y []).run P w=.ok none w:=run_findKey hd (by rfl) w
      unfold Instr.lookup
      simp only [Sem.run_bind,run_underlying ht,Result.andThen_ok,Sem.run_pure,List.isEmpty_toArray,Array.isEmpty_empty,List.isEmpty_nil,hck,hfk,z1]
      cases ok with
      | true=>exact ⟨_,rfl,.tup (.cons z2 (.cons (.bool _) .nil))⟩
      | false=>exact ⟨_,rfl,z2⟩
     ·cases h
   ·cases h
  ·cases h
 ·cases h
theorem map_modify {α β:Type} {l:List α} {j:Nat} {m:α} (hj:l[j]?=some m) {f:α→α} {g:α→β}:(l.modify j f).map g=(l.map g).set j (g (f m)):=by
 apply List.ext_getElem?
 intro i
 rw [List.getElem?_map,List.getElem?_modify,List.getElem?_set,List.getElem?_map]
 by_cases hi:j=i
 ·subst hi
  obtain ⟨h1,h2⟩:=List.getElem?_eq_some_iff.1 hj
  simp [h1,h2]
 ·simp [hi]
def setS (es:List (SV × SV)) (i:Nat) (k v:SV):List (SV × SV):=es.take i++((k,v) :: es.drop (i + 1))
def updateV (P:Program) (st:St X) (t:TypeId) (x k v:SV):Option (St X) :=
 match P.underlying t with
 | some (.map kt _)=>match P.underlying kt with
  | some d=>match x with
   | .map b=>match st.m.get b with
    | some (.map es)=>bif keyP P d k && Nat.blt b TMax then match findP P kt d k es with
     | some (some p)=>some (st.turn b [] (.map (setS es p.1 k v)))
     | some none=>some (st.turn b [] (.map (es++[(k,v)])))
     | none=>none
     else none
    | _=>none
   | _=>none
  | none=>none
 | _=>none
theorem updateV_x {t:TypeId} {x k v:SV} {st':St X} (h:updateV P st t x k v=some st'):st'.x=st.x:=by
 unfold updateV at h
 split at h
 ·split at h
  ·rename_i d hd
   split at h
   ·rename_i b
    split at h
    ·cases hb:keyP P d k && Nat.blt b TMax with
     | false=>rw [hb] at h;cases h
     | true =>
      rw [hb,cond_true] at h
      split at h
      ·cases h;rfl
      ·cases h;rfl
      ·cases h
    ·cases h
   ·cases h
  ·cases h
 ·cases h
theorem setObj_world {w:World} {c:Nat} {o:Obj} {ob:Obj} (h:w.heap[c]?=some ob) (hc:∀ a t f,ob≠.cells a t f):(setObj c o).run P w=.ok () { w with heap:=w.heap.setIfInBounds c o }:=by
 unfold setObj
 cases ob<;>first | (exact absurd rfl (hc _ _ _)) | simp [Sem.run,h]
theorem VRs.set {e:Env} {vs:List SV} {us:List Value} (h:VRs e vs us) {i:Nat} {v:SV} {u:Value} (hv:VR e v u) (hi:i < us.length):VRs e (vs.take i++(v :: vs.drop (i + 1))) (us.set i u):=by
 have:us.set i u=us.take i++(u :: us.drop (i + 1)):=List.set_eq_take_append_cons_drop .. |>.trans (by simp [hi])
 rw [this]
 exact (h.take i).append (.cons hv (h.drop (i + 1)))
theorem updateV_ok {t:TypeId} {x k v:SV} {st':St X} (h:updateV P st t x k v=some st') (hR:Rl L e st w F) {u y z:Value} (hx:VR e x u) (hk:VR e k y) (hv:VR e v z) (B:Nat) :
  ∃ w',(Instr.mapUpdate t u y z).run P w=.ok () w'∧Rl L e st' w' F∧Nxt B e st w F e st' w' F:=by
 unfold updateV at h
 split at h
 ·rename_i kt el ht
  split at h
  ·rename_i d hd
   split at h
   ·rename_i b
    cases hx with
    | map hb =>
     rename_i c o zz
     split at h
     ·rename_i es hm
      obtain ⟨es',ck,h1,h2,h3⟩:=(hR.blk b _ c o zz hm hb).2
      cases hko:keyP P d k && Nat.blt b TMax with
      | false=>rw [hko] at h;cases h
      | true =>
       rw [hko,cond_true] at h
       simp only [Bool.and_eq_true,Nat.blt_eq] at hko
       obtain ⟨hko,hbm⟩:=hko
       have hck:=keyP_ok hko hk hd false w
       have hget:(getObj c).run P w=.ok (.map es' ck) w:=by simp [getObj,Sem.run,h1]
       have hclt:c < w.heap.size:=(zN h1).1
       -- the world behind it
       have fin:∀ (es2:List (SV × SV)) (ms2:Array MapEntry) (ck2:Nat),st'=st.turn b [] (.map es2)→VRs e (es2.map (·.1)) (ms2.toList.map (·.key))→VRs e (es2.map (·.2)) (ms2.toList.map (·.val)) →
         Rl L e st' { w with heap:=w.heap.setIfInBounds c (.map ms2 ck2) } F∧Nxt B e st w F e st' { w with heap:=w.heap.setIfInBounds c (.map ms2 ck2) } F:=fun es2 ms2 ck2 hst a1 a2=>by
        subst hst
        have hoth:∀ q,q < w.heap.size→q≠c→(w.heap.setIfInBounds c (.map ms2 ck2))[q]?=w.heap[q]?:=fun q _ hq=>Array.getElem?_setIfInBounds_ne (Ne.symm hq)
        have hsame:(w.heap.setIfInBounds c (.map ms2 ck2))[c]?=some (.map ms2 ck2):=by simp [hclt]
        exact ⟨hR.turn hm rfl hb hbm rfl rfl (by simp) hoth ⟨ms2,ck2,hsame,a1,a2⟩,Nxt.turn hR hm hb hbm rfl (by simp) hoth ⟨rfl,rfl,rfl⟩⟩
       split at h
       ·rename_i p hf
        cases h
        obtain ⟨j,pv⟩:=p
        obtain ⟨y',a1,a2,m,a4,a5⟩:=findP_ok (r:=some (j,pv)) hd hk hf (ms:=es'.toList) (by simpa using h2) (by simpa using h3)
        have hfk:=a1 w
        have hj:j < es'.size:=by have:=(List.getElem?_eq_some_iff.1 a4).1;simpa using this
        have hget2:es'[j]?=some m:=by simpa using a4
        have hkt:(Instr.keyThatStays m.key y).run P w=.ok y w:=by
         unfold Instr.keyThatStays
         rw [if_pos a5];rfl
        obtain ⟨f1,f2⟩:=fin (setS es j k v) (es'.modify j fun e=>{ e with key:=y,val:=z }) ck rfl (by
         have:(es'.modify j fun e=>{ e with key:=y,val:=z }).toList.map (·.key)=(es'.toList.map (·.key)).set j y:=by
          rw [Array.toList_modify,map_modify a4]
         rw [this]
         have:=VRs.set h2 hk (i:=j) (by simpa using hj)
         simpa [setS] using this) (by
         have:(es'.modify j fun e=>{ e with key:=y,val:=z }).toList.map (·.val)=(es'.toList.map (·.val)).set j z:=by
          rw [Array.toList_modify,map_modify a4]
         rw [this]
         have:=VRs.set h3 hv (i:=j) (by simpa using hj)
         simpa [setS] using this)
        refine ⟨_,?_,f1,f2⟩
        unfold Instr.mapUpdate
        simp only [Sem.run_bind,Sem.run_pure,run_underlying ht,Result.andThen_ok,hget,hck,hfk,hget2,Option.map_some,Option.getD_some,hkt]
        exact setObj_world h1 nofun
       ·rename_i hf
        cases h
        have hfk:=findP_ok (r:=none) hd hk hf (ms:=es'.toList) (by simpa using h2) (by simpa using h3) w
        obtain ⟨f1,f2⟩:=fin (es++[(k,v)]) (es'.push { key:=y,val:=z,born:=ck }) (ck + 1) rfl (by
         simp only [Array.toList_push,List.map_append,List.map_cons,List.map_nil]
         exact h2.append (.cons hk .nil)) (by
         simp only [Array.toList_push,List.map_append,List.map_cons,List.map_nil]
         exact h3.append (.cons hv .nil))
        refine ⟨_,?_,f1,f2⟩
        unfold Instr.mapUpdate
        simp only [Sem.run_bind,Sem.run_pure,run_underlying ht,Result.andThen_ok,hget,hck,hfk]
        exact setObj_world h1 nofun
       ·cases h
     ·cases h
   ·cases h
  ·cases h
 ·cases h
theorem makeMap_ok (hR:Rl L e st w F) (hn:st.nx < TMax) {t:TypeId} {u:Option Value} (hu:u=none):∃ x w' e',(Instr.makeMap t u).run P w=.ok x w'∧VR e' (.map st.nx) x∧Rl L e' (st.add (.map [])) w' F∧Nxt st.nx e st w F e' (st.add (.map [])) w' F:=by
 subst hu
 obtain ⟨R1,N1⟩:=hR.fresh hn (k:=.map []) rfl (obj:=.map #[] 0) (z:=0) ⟨#[],0,MapKept.heap_alloc w _ |>.1,.nil,.nil⟩
 exact ⟨_,_,_,rfl,.map (Env.put_same _ _ _),R1,N1⟩
end
end
section
open Go.RowKit
structure VF (X:Type) where
 val:Op→Option SV→X→Option (SV × X)
 same:SV→SV→X→Option X
 look:T SV→Op→Option SV
structure Cfg (X:Type) where
 P:Program
 L:EL X
 fn:Nat→Option Func
 ext:Nat→Option (List SV→St X→Option (SV × St X))
 bit:Bool→X→Option (Bool × X)
 val:VF X
 good:X→Prop
section
variable {X:Type} {P:Program} {L:EL X} {e:Env} {st st':St X} {w:World} {F:FootE}
def CallsR (P:Program) (L:EL X) (good:X→Prop) (f:Nat) (vs:List SV) (st:St X) (v:SV) (st':St X):Prop :=
 good st'.x→good st.x∧∀ e w F us,Rl L e st w F→VRs e vs us→Calls P f ⟨us⟩ w fun en w'=>∃ u e' F',en=.returned u∧VR e' v u∧Rl L e' st' w' F'∧Nxt st.nx e st w F e' st' w' F'
def Callable (P:Program) (f:Nat):Prop:=∃ g,P.funcs[f]?=some g∧g.body.isNone=false∧(g.name == "runtime.NumGoroutine")=false
def CallOk (P:Program) (L:EL X) (good:X→Prop) (call:Nat→List SV→St X→Option (SV × St X)):Prop :=
 ∀ f vs st v st',call f vs st=some (v,st')→Callable P f∧CallsR P L good f vs st v st'
def toBytes:List SV→Option (List Int)
 | []=>some []
 | .int .u8 n :: t=>match toBytes t with
  | some l=>some (n :: l)
  | none=>none
 | _=>none
theorem toBytes_ok {e:Env}:∀ {xs:List SV} {us:List Value} {l:List Int},toBytes xs=some l→VRs e xs us→us=l.map (Value.int .u8)
 | [],_,_,h,hv=>by cases h;cases hv;rfl
 | x :: t,us,l,h,hv=>by
  unfold toBytes at h
  split at h
  ·rename_i he;cases he
  ·rename_i n t' he
   split at h
   ·rename_i l' hl
    cases h;cases he
    cases hv with
    | cons h1 h2=>cases h1;rw [toBytes_ok hl h2];rfl
   ·cases h
  ·cases h
def bytesV (P:Program) (m:T SB) (s d:TypeId) (x:SV):Option SV :=
 match x with
 | .sl b off n esz _=>match P.underlying s with
  | some (.slice el)=>match P.underlying d with
   | some .string=>match P.underlying el with
    | some (.int .u8)=>match m.get b with
     | some (.cells cs _ _ _)=>bif Nat.beq esz 1 && Nat.ble (off + n) cs.length && Nat.blt 0 n then match toBytes ((cs.drop off).take n) with
       | some l=>some (.str (l.map fun z=>UInt8.ofNat z.toNat))
       | none=>none
      else none
     | _=>none
    | _=>none
   | _=>none
  | _=>none
 | _=>none
theorem fold_push:∀ (l:List Int) (s:ByteArray),l.foldl (fun r n=>r.push (UInt8.ofNat n.toNat)) s=⟨s.data++(l.map fun z=>UInt8.ofNat z.toNat).toArray⟩
 | [],s=>by simp
 | z :: t,s=>by rw [List.foldl_cons,fold_push t];congr 1;simp [ByteArray.push]
theorem bytesV_ok {s d:TypeId} {x v:SV} (h:bytesV P st.m s d x=some v) (hR:Rl L e st w F) {u:Value} (hx:VR e x u):∃ r,(convert s d u).run P w=.ok r w∧VR e v r:=by
 unfold bytesV at h
 split at h
 ·rename_i b off n esz ck
  split at h
  ·rename_i el hs
   split at h
   ·rename_i hd
    split at h
    ·rename_i hel
     split at h
     ·rename_i cs ro sib ty hm
      cases hc:Nat.beq esz 1 && Nat.ble (off + n) cs.length && Nat.blt 0 n with
      | false=>rw [hc] at h;cases h
      | true =>
       rw [hc,cond_true] at h
       simp only [Bool.and_eq_true,Nat.blt_eq] at hc
       obtain ⟨⟨h1,h2⟩,h4⟩:=hc
       have h1:=Nat.eq_of_beq_eq_true h1
       have h2:=zB h2
       split at h
       ·rename_i l hl
        cases h
        cases hx with
        | sl hb hle hz hmx hck =>
         rename_i c o z cap
         obtain ⟨hnF,hB⟩:=hR.blk b _ c o z hm hb
         obtain ⟨us,k1,k2,k3⟩:=part_row hB off n
         have hus:=toBytes_ok hl k1
         have hlen:us.length=n:=by
          have:=k1.length
          simp at this;omega
         have hr:=run_loadCells_list (P:=P) w ⟨c,o + off,none⟩ us (fun j u hj=>by rw [add_none];rw [Nat.add_assoc];exact k2 j u hj)
         refine ⟨.string (bs (l.map fun z=>UInt8.ofNat z.toNat)),?_,.str _⟩
         rw [run_convert_bytes_string w s d el _ _ _ hs hel hd]
         rw [run_bytesToString w _ n cap l (by rw [← hlen,hr,hus]),fold_push]
         congr 2
         simp [bs]
        | sle off' es o' hb=>omega
       ·cases h
     ·cases h
    ·cases h
   ·cases h
  ·cases h
 ·cases h
def opLoad (P:Program) (m:T SB) (tm:T SV) (o:Op):Option SV :=
 match o with
 | .load t x=>match evx tm x with
  | some v=>loadV P m t v
  | none=>none
 | .lookup t x k ok=>match evx tm x with
  | some v=>match evx tm k with
   | some u=>lookupV P m t v u ok
   | none=>none
  | none=>none
 | .convert s d x=>match evx tm x with
  | some v=>match convV P s d v with
   | some r=>some r
   | none=>bytesV P m s d v
  | none=>none
 | _=>none
theorem opLoad_ok {tm:T SV} {o:Oper} {a:Go.Act} {v:SV} (h:opLoad P st.m tm o.op=some v) (hs:AS e tm a o.op.operands.toList) (hR:Rl L e st w F):YieldsV P o a w e v:=by
 unfold opLoad at h
 split at h
 ·rename_i t x ho
  split at h
  ·rename_i y hy
   exact yv (s:=Instr.loadAt t (a.eval x)) (by simp only [execOp,ho]) (loadV_ok h hR (hs x (by rw [ho];simp [Op.operands]) y hy))
  ·cases h
 ·rename_i t x k ok ho
  split at h
  ·rename_i y hy
   split at h
   ·rename_i z hz
    exact yv (s:=Instr.lookup t (a.eval x) (a.eval k) ok) (by simp only [execOp,ho]) (lookupV_ok h hR (hs x (by rw [ho];simp [Op.operands]) y hy) (hs k (by rw [ho];simp [Op.operands]) z hz))
   ·cases h
  ·cases h
 ·rename_i s d x ho
  split at h
  ·rename_i y hy
   split at h
   ·rename_i r hr
    cases h
    exact yv (s:=convert s d (a.eval x)) (by simp only [execOp,ho]) (convV_ok hr (hs x (by rw [ho];simp [Op.operands]) y hy) w)
   ·exact yv (s:=convert s d (a.eval x)) (by simp only [execOp,ho]) (bytesV_ok h hR (hs x (by rw [ho];simp [Op.operands]) y hy))
  ·cases h
 ·cases h
theorem opLoad_add {tm:T SV} {o:Op} {v:SV} {n:Nat} {k:Option SB} {m:T SB} (h:opLoad P m tm o=some v) (hn:m.get n=none):opLoad P (m.upd n k) tm o=some v:=by
 unfold opLoad at *
 split at h
 ·split at h
  ·unfold loadV at *
   split at h
   ·rename_i b off _
    by_cases hb:b=n
    ·subst hb;rw [hn] at h;cases h
    ·simp only [T.upd_ne _ _ hb];exact h
   ·cases h
  ·cases h
 ·split at h
  ·split at h
   ·unfold lookupV at *
    split at h
    ·split at h
     ·split at h
      ·rename_i b _
       by_cases hb:b=n
       ·subst hb;rw [hn] at h;cases h
       ·simp only [T.upd_ne _ _ hb];exact h
      ·exact h
      ·cases h
     ·cases h
    ·cases h
   ·cases h
  ·cases h
 ·split at h
  ·split at h
   ·exact h
   ·unfold bytesV at *
    split at h
    ·rename_i b _ _ _ _ _ _
     by_cases hb:b=n
     ·subst hb
      split at h
      ·split at h
       ·split at h
        ·rw [hn] at h;cases h
        ·cases h
       ·cases h
      ·cases h
     ·simp only [T.upd_ne _ _ hb];exact h
    ·cases h
  ·cases h
 ·cases h
def mapS (P:Program) (tm:T SV) (st:St X) (t:TypeId) (x k y:Operand):Option (SV × St X) :=
 match evx tm x with
 | some p=>match evx tm k with
  | some q=>match evx tm y with
   | some v=>match updateV P st t p q v with
    | some st'=>some (.tup [],st')
    | none=>none
   | none=>none
  | none=>none
 | none=>none
def truncS (st:St X) (p:SV):St X:=match p with
 | .sl b off len esz none=>match st.m.get b with
  | some (.cells cs false sib ty)=>bif Nat.blt (Nat.add off (Nat.mul len esz)) cs.length && Nat.blt b TMax && sib.all (fun y=>Nat.blt y TMax) then st.turn b sib (.cells (cs.take (Nat.add off (Nat.mul len esz))) false [] ty) else st
  | _=>st
 | _=>st
theorem truncS_x (st:St X) (p:SV):(truncS st p).x=st.x∧(truncS st p).nx=st.nx:=by
 unfold truncS
 split
 ·split
  ·rename_i cs sib ty hm
   cases Nat.blt _ _ && Nat.blt _ TMax && sib.all (fun y=>Nat.blt y TMax)<;>exact ⟨rfl,rfl⟩
  ·exact ⟨rfl,rfl⟩
 ·exact ⟨rfl,rfl⟩
theorem truncS_ok (hR:Rl L e st w F) {p:SV} {u:Value} (hp:VR e p u) (B:Nat):Rl L e (truncS st p) w F∧Nxt B e st w F e (truncS st p) w F:=by
 unfold truncS
 split
 ·rename_i b off len esz
  split
  ·rename_i cs sib ty hm
   cases hc:Nat.blt (Nat.add off (Nat.mul len esz)) cs.length && Nat.blt b TMax && sib.all (fun y=>Nat.blt y TMax) with
   | false=>exact ⟨hR,.refl ..⟩
   | true =>
    rw [cond_true]
    simp only [Bool.and_eq_true,Nat.blt_eq] at hc
    obtain ⟨⟨h1,h2⟩,h3⟩:=hc
    obtain ⟨c,o,z,he⟩:∃ c o z,e b=some (c,o,z):=by
     cases hp with
     | sl hb=>exact ⟨_,_,_,hb⟩
     | sle _ _ _ hb=>exact ⟨_,_,_,hb⟩
    obtain ⟨g1,arr,t,fr,r1,r2,r3,r4,r5⟩:=hR.blk b _ c o z hm he
    have hB:BlkR e w c o z (.cells (cs.take (Nat.add off (Nat.mul len esz))) false [] ty):=⟨arr,t,fr,r1,r2,r3,Nat.le_trans (by rw [List.length_take];exact Nat.min_le_right _ _) r4,fun j v hj=>r5 j v (by
     rw [List.getElem?_take] at hj
     split at hj
     ·exact hj
     ·cases hj)⟩
    exact ⟨hR.turn (q:=.cells cs false sib ty) hm rfl he h2 h3 rfl (Nat.le_refl _) (fun _ _ _=>rfl) hB,Nxt.turn hR (q:=.cells cs false sib ty) hm he h2 h3 (Nat.le_refl _) (fun _ _ _=>rfl) ⟨rfl,rfl,rfl⟩⟩
  ·exact ⟨hR,.refl ..⟩
 ·exact ⟨hR,.refl ..⟩
def methV (P:Program) (t:TypeId) (name:String):Option Nat:=match P.info? t with
 | some i=>match i.methods.find? (·.name == name) with
  | some m=>bif m.path.isEmpty && (match P.underlying t with | some (.pointer _)=>false | some _=>true | none=>false) then (match m.func with
   | some (f,false)=>some f
   | _=>none) else none
  | none=>none
 | none=>none
theorem methV_ok {P:Program} {t:TypeId} {name:String} {f:Nat} (h:methV P t name=some f) (v:Value) (n:Nat) (w:World):(Go.method (n + 1) t v name).run P w=.ok (f,v) w:=by
 unfold methV at h
 split at h
 ·rename_i i hi
  split at h
  ·rename_i m hm
   cases hb:m.path.isEmpty && (match P.underlying t with | some (.pointer _)=>false | some _=>true | none=>false) with
   | false=>rw [hb] at h;cases h
   | true =>
    rw [hb,cond_true] at h
    simp only [Bool.and_eq_true] at hb
    obtain ⟨hp,hu⟩:=hb
    have hp:m.path=#[]:=by simpa using hp
    split at h
    ·rename_i g hg
     cases h
     cases hud:P.underlying t with
     | none=>rw [hud] at hu;cases hu
     | some d =>
      have hd:∀ x,d≠.pointer x:=fun x hx=>by rw [hud,hx] at hu;cases hu
      have h1:(typeInfo t).run P w=.ok i w:=by simp [typeInfo,program,Sem.run,Sem.run_bind,hi,Result.andThen]
      have h2:∀ x,(receiverAt t (.val v) false x).run P w=.ok v w:=fun x=>by
       unfold receiverAt
       rw [Sem.run_bind,run_underlying hud,Result.andThen_ok]
       clear hud
       cases d<;>first | rfl | (exact absurd rfl (hd _))
      unfold Go.method
      rw [Sem.run_bind,h1,Result.andThen_ok]
      simp only [hm,hp,hg]
      simp only [follow,Sem.run_bind,Sem.run_pure,Result.andThen_ok,h2]
    ·cases h
  ·cases h
 ·cases h
def effS (P:Program) (call:Nat→List SV→St X→Option (SV × St X)) (tm:T SV) (st:St X) (o:Op):Option (SV × St X) :=
 match o with
 | .store t x y=>match evx tm x with
  | some p=>match evx tm y with
   | some v=>match storeV P st t p v with
    | some st'=>some (.tup [],st')
    | none=>none
   | none=>none
  | none=>none
 | .mapUpdate t x k y=>mapS P tm st t x k y
 | .insert t x k y=>mapS P tm st t x k y
 | .makeMap t r=>match r with
  | none=>bif Nat.blt st.nx TMax then some (.map st.nx,st.add (.map [])) else none
  | some _=>none
 | .call c=>match c.callee with
  | .value f=>match evx tm f with
   | some (.fn k xs ys)=>match evxs tm c.args.toList with
    | some l=>call k (xs++l++ys) st
    | none=>none
   | _=>none
  | .invoke r name=>match evx tm r with
   | some (.iface t v)=>match methV P t name with
    | some k=>match evxs tm c.args.toList with
     | some l=>call k (v :: l) st
     | none=>none
    | none=>none
   | _=>none
  | .builtin b=>match b with
   | .append=>match c.argTypes.toList with
    | [t,tx]=>match c.args.toList with
     | [s,x]=>match evx tm s with
      | some p=>match evx tm x with
       | some q=>match appV P (truncS st p) t tx p q with
        | some r=>some r
        | none=>appZ P st t tx p q
       | none=>none
      | none=>none
     | _=>none
    | _=>none
   | _=>none
 | _=>none
structure ValOk (P:Program) (L:EL X) (good:X→Prop) (vf:VF X):Prop where
 val:∀ o v x v' x',vf.val o v x=some (v',x')→good x'→good x∧v=some v'∧∀ e w F,L.R e x w F→L.R e x' w F
 same:∀ a b x x',vf.same a b x=some x'→good x'→good x∧a=b∧∀ e w F,L.R e x w F→L.R e x' w F
 look:∀ tm (o:Oper) v,vf.look tm o.op=some v→∀ e x w F (a:Go.Act),L.R e x w F→AS e tm a o.op.operands.toList→YieldsV P o a w e v
theorem Rl.setx {L:EL X} {e:Env} {st:St X} {w:World} {F:FootE} (h:Rl L e st w F) {x:X} (hx:L.R e x w F):Rl L e ⟨st.m,st.nx,x⟩ w F:=⟨h.blk,h.dis,h.old,h.dom,h.sib,hx⟩
theorem Nxt.setx {B:Nat} {e:Env} {st:St X} {w:World} {F:FootE} {e':Env} {st':St X} {w':World} {F':FootE} (h:Nxt B e st w F e' st' w' F') (x x':X):Nxt B e ⟨st.m,st.nx,x⟩ w F e' ⟨st'.m,st'.nx,x'⟩ w' F':=⟨h.le,h.os,h.tape,h.output,h.size,h.frame,h.img,h.und,h.nx⟩
def stepOp (P:Program) (val:VF X) (call:Nat→List SV→St X→Option (SV × St X)) (tm:T SV) (st:St X) (o:Op):Option (SV × St X) :=
 match cls o with
 | 0=>match val.val o (opPure P tm o) st.x with
  | some (v',x)=>some (v',⟨st.m,st.nx,x⟩)
  | none=>none
 | 1=>match opLoad P st.m tm o with
  | some v=>some (v,st)
  | none=>match val.val o (val.look tm o) st.x with
   | some (v',x)=>some (v',⟨st.m,st.nx,x⟩)
   | none=>none
 | 2=>match opNew P tm o with
  | some p=>bif Nat.blt st.nx TMax then some (p.2 st.nx,st.add p.1) else none
  | none=>none
 | _=>effS P call tm st o
theorem YieldsV.wp {o:Oper} {a:Go.Act} {v:SV} (h:YieldsV P o a w e v) {K:Go.Act→World→Prop} {Q:Exit→Go.Act→World→Prop} (hK:∀ u,VR e v u→K (a.put o.dst u) w):o.wp P a w K Q:=by
 obtain ⟨u,h1,h2⟩:=h
 unfold Oper.wp
 rw [h1]
 exact hK u h2
theorem MakesV.wp {o:Oper} {a:Go.Act} {id:Nat} {cs:List SV} {ty:Nat} {v:SV} (h:MakesV P o a w e id cs ty v) {K:Go.Act→World→Prop} {Q:Exit→Go.Act→World→Prop}
  (hK:∀ u obj z,BlkR (e.put id (w.heap.size,0,z)) (w.alloc obj) w.heap.size 0 z (.cells cs false [] (some ty))→VR (e.put id (w.heap.size,0,z)) v u→K (a.put o.dst u) (w.alloc obj)):o.wp P a w K Q:=by
 obtain ⟨obj,z,u,h1,h2,h3⟩:=h
 unfold Oper.wp
 rw [h1]
 exact hK u obj z h2 h3
theorem MakesN.wp {o:Oper} {a:Go.Act} {id:Nat} {k:SB} {v:SV} (h:MakesN P o a w e id k v) {K:Go.Act→World→Prop} {Q:Exit→Go.Act→World→Prop}
  (hK:∀ u obj z,BlkR (e.put id (w.heap.size,0,z)) (w.alloc obj) w.heap.size 0 z k→VR (e.put id (w.heap.size,0,z)) v u→K (a.put o.dst u) (w.alloc obj)):o.wp P a w K Q:=by
 obtain ⟨obj,z,u,h1,h2,h3⟩:=h
 unfold Oper.wp
 rw [h1]
 exact hK u obj z h2 h3
theorem appV_x {t tx:TypeId} {s x v:SV} (h:appV P st t tx s x=some (v,st')):st'.x=st.x:=by
 unfold appV at h
 split at h
 ·split at h
  ·rename_i i hi
   split at h
   ·rename_i zs hz
    cases hc:Nat.beq zs.length i.size && Nat.blt st.nx TMax with
    | false=>rw [hc] at h;cases h
    | true =>
     rw [hc,cond_true] at h
     split at h
     ·rename_i n0 news hsrc
      split at h
      ·split at h
       ·cases h;rfl
       ·cases h;rfl
       ·cases h;rfl
       ·cases h
      ·rename_i n
       clear hsrc
       split at h
       ·cases hc2:Nat.ble ((n + 1) * i.bytes) 140737488355328 && Nat.ble (n + 1) 1000000000 with
        | false=>rw [hc2] at h;cases h
        | true=>rw [hc2] at h;cases h;rfl
       ·rename_i k esz
        cases hc2:Nat.beq esz i.size && Nat.ble ((n + 1) * i.bytes) 140737488355328 && Nat.ble (n + 1) 1000000000 && Nat.blt k TMax with
        | false=>rw [hc2] at h;cases h
        | true =>
         rw [hc2,cond_true] at h
         split at h
         ·cases h;rfl
         ·cases h
       ·rename_i b off len esz ck
        cases hc2:Nat.beq esz i.size && Nat.ble ((len + (n + 1)) * i.bytes) 140737488355328 && Nat.ble (len + (n + 1)) 1000000000 with
        | false=>rw [hc2] at h;cases h
        | true =>
         rw [hc2,cond_true] at h
         split at h
         ·rename_i cs ro sib ty hm
          cases hc3:Nat.ble (off + len * esz) cs.length with
          | false=>rw [hc3] at h;cases h
          | true =>
           rw [hc3,cond_true] at h
           split at h
           ·rename_i cap
            cases hc4:Nat.ble (len + (n + 1)) cap with
            | true =>
             rw [hc4,cond_true] at h
             split at h
             ·cases hc5:ltM b sib with
              | false=>rw [hc5] at h;cases h
              | true=>rw [hc5] at h;cases h;rfl
             ·cases h
            | false=>rw [hc4] at h;cases h;rfl
           ·split at h
            ·cases hc4:Nat.beq (off + len * esz) cs.length && Nat.blt b TMax with
             | false=>rw [hc4] at h;cases h
             | true=>rw [hc4] at h;cases h;rfl
            ·cases h
         ·cases h
       ·cases h
     ·cases h
   ·cases h
  ·cases h
 ·cases h
theorem mapS_ok {good:X→Prop} {tm:T SV} {o:Oper} {v:SV} {t:TypeId} {x k y:Operand} (h:mapS P tm st t x k y=some (v,st')) (hg:good st'.x) (ho:o.op=.mapUpdate t x k y∨o.op=.insert t x k y) :
    good st.x∧∀ e w F a (K:Go.Act→World→Prop) (Q:Exit→Go.Act→World→Prop),Rl L e st w F→AS e tm a o.op.operands.toList→(∀ u w' e' F',VR e' v u→Rl L e' st' w' F'→Nxt st.nx e st w F e' st' w' F'→K (a.put o.dst u) w')→o.wp P a w K Q:=by
  unfold mapS at h
  split at h
  · rename_i p hp
    split at h
    · rename_i q hq
      split at h
      · rename_i z hz
        split at h
        · rename_i st2 hst
          cases h
          refine ⟨updateV_x hst ▸ hg,fun e w F a K Q hR hs hK=>?_⟩
          obtain ⟨w',h1,h2,h3⟩:=updateV_ok hst hR (hs x (by rcases ho with ho | ho<;>(rw [ho];simp [Op.operands])) p hp) (hs k (by rcases ho with ho | ho<;>(rw [ho];simp [Op.operands])) q hq) (hs y (by rcases ho with ho | ho<;>(rw [ho];simp [Op.operands])) z hz) st.nx
          unfold Oper.wp
          have:(execOp a.eval o).run P w=.ok .skip w':=by
            rcases ho with ho | ho <;>
              (simp only [execOp,ho,Sem.run_bind,h1,Result.andThen_ok]
               rfl)
          rw [this]
          exact hK undef w' e F (.tup .nil) h2 h3
        · cases h
      · cases h
    · cases h
  · cases h
theorem effS_ok {good:X→Prop} {call:Nat→List SV→St X→Option (SV × St X)} (hc:CallOk P L good call) {tm:T SV} {o:Oper} {v:SV} (h:effS P call tm st o.op=some (v,st')) (hg:good st'.x) :
  good st.x∧∀ e w F a (K:Go.Act→World→Prop) (Q:Exit→Go.Act→World→Prop),Rl L e st w F→AS e tm a o.op.operands.toList→(∀ u w' e' F',VR e' v u→Rl L e' st' w' F'→Nxt st.nx e st w F e' st' w' F'→K (a.put o.dst u) w')→o.wp P a w K Q:=by
 unfold effS at h
 split at h
 ·rename_i t x y ho
  split at h
  ·rename_i p hp
   split at h
   ·rename_i q hq
    split at h
    ·rename_i st2 hst
     cases h
     have hx:st'.x=st.x:=by
      unfold storeV at hst
      split at hst
      ·split at hst
       ·split at hst
        ·cases hb:(Nat.beq _ _ && Nat.ble _ _ && _ && ltM _ _:Bool) with
         | false=>rw [hb] at hst;cases hst
         | true=>rw [hb] at hst;cases hst;rfl
        ·cases hst
       ·cases hst
      ·cases hst
     refine ⟨hx ▸ hg,fun e w F a K Q hR hs hK=>?_⟩
     obtain ⟨w',h1,h2,h3⟩:=storeV_ok hst hR (hs x (by rw [ho];simp [Op.operands]) p hp) (hs y (by rw [ho];simp [Op.operands]) q hq) st.nx
     unfold Oper.wp
     have:(execOp a.eval o).run P w=.ok .skip w':=by
      simp only [execOp,ho,Sem.run_bind,h1,Result.andThen_ok]
      rfl
     rw [this]
     exact hK undef w' e F (.tup .nil) h2 h3
    ·cases h
   ·cases h
  ·cases h
 ·rename_i t x k y ho
  exact mapS_ok h hg (.inl ho)
 ·rename_i t x k y ho
  exact mapS_ok h hg (.inr ho)
 ·rename_i t r ho
  split at h
  ·cases hb:Nat.blt st.nx TMax with
   | false=>rw [hb] at h;cases h
   | true =>
    rw [hb] at h;cases h
    have hn:st.nx < TMax:=by simpa [Nat.blt_eq] using hb
    refine ⟨hg,fun e w F a K Q hR hs hK=>?_⟩
    obtain ⟨u,w',e',h1,h2,h3,h4⟩:=makeMap_ok (P:=P) hR hn (t:=t) rfl
    unfold Oper.wp
    have:(execOp a.eval o).run P w=.ok (.value u) w':=by
     simp only [execOp,ho,Option.map_none,Sem.run_bind,h1,Result.andThen_ok]
     rfl
    rw [this]
    exact hK u w' e' F h2 h3 h4
  ·cases h
 ·rename_i c ho
  split at h
  ·rename_i f hf
   split at h
   ·rename_i k xs ys hk
    split at h
    ·rename_i l hl
     obtain ⟨⟨g,c1,c2,c3⟩,cr⟩:=hc _ _ _ _ _ h
     obtain ⟨cr1,cr2⟩:=cr hg
     refine ⟨cr1,fun e w F a K Q hR hs hK=>?_⟩
     have vf:=hs f (by rw [ho];simp [Op.operands,Call.operands,hf]) _ hk
     have va:=AS.list (fun x hx=>hs x (by rw [ho];simp [Op.operands,Call.operands,hf];exact .inr (by simpa using hx))) hl
     generalize hg2:a.eval f=u at vf
     cases vf with
     | fn v1 v2 =>
      rename_i us vs
      have hcall:=cr2 e w F _ hR ((v1.append va).append v2)
      have hrun:(execOp a.eval o).run P w=.ok (.enter k ⟨us++c.args.toList.map a.eval++vs⟩) w:=by
       have e1:(⟨us⟩++c.args.map a.eval++⟨vs⟩:Array Value)=⟨us++c.args.toList.map a.eval++vs⟩:=Array.toList_inj.1 (by simp)
       simp only [execOp,ho,resolve,hf,hg2,Deferred.ofValue,Sem.run_bind,Sem.run_pure,Result.andThen_ok,invoke,callFunc,e1]
       simp only [program,Sem.run,Result.andThen_ok,c1,c3,c2,Bool.false_eq_true,if_false]
       rfl
      unfold Oper.wp
      rw [hrun]
      exact hcall.mono fun en w' ⟨u,e',F',h1,h2,h3,h4⟩=>by subst h1;exact hK u w' e' F' h2 h3 h4
    ·cases h
   ·cases h
  ·rename_i r name hf
   split at h
   ·rename_i t v hk
    split at h
    ·rename_i k hm
     split at h
     ·rename_i l hl
      obtain ⟨⟨g,c1,c2,c3⟩,cr⟩:=hc _ _ _ _ _ h
      obtain ⟨cr1,cr2⟩:=cr hg
      refine ⟨cr1,fun e w F a K Q hR hs hK=>?_⟩
      have vf:=hs r (by rw [ho];simp [Op.operands,Call.operands,hf]) _ hk
      have va:=AS.list (fun x hx=>hs x (by rw [ho];simp [Op.operands,Call.operands,hf];exact .inr (by simpa using hx))) hl
      generalize hg2:a.eval r=u at vf
      cases vf with
      | iface v1 =>
       rename_i u1
       have hcall:=cr2 e w F _ hR (.cons v1 va)
       have hrun:(execOp a.eval o).run P w=.ok (.enter k ⟨u1 :: c.args.toList.map a.eval⟩) w:=by
        have h1:1≤Made.depth:=by decide
        obtain ⟨n,hn⟩:∃ n,P.types.size + Made.depth=n + 1:=⟨P.types.size + Made.depth - 1,by omega⟩
        have e1:(#[u1]++c.args.map a.eval:Array Value)=⟨u1 :: c.args.toList.map a.eval⟩:=Array.toList_inj.1 (by simp)
        have e2:((#[Value.iface t u1]++c.args.map a.eval).extract 1 (#[Value.iface t u1]++c.args.map a.eval).size:Array Value)=c.args.map a.eval:=by
         apply Array.toList_inj.1
         rw [Array.toList_extract]
         simp [List.extract]
         exact List.take_of_length_le (by simp)
        have e3:(#[Value.iface t u1]++c.args.map a.eval)[0]?=some (Value.iface t u1):=by rw [Array.getElem?_append_left (by simp)];rfl
        simp only [execOp,ho,resolve,hf,hg2,Sem.run_bind,Sem.run_pure,Result.andThen_ok,invoke,e3,e2,callMethod]
        have hm2:=methV_ok hm u1 n w
        have hpr:(program:Sem Program).run P w=.ok P w:=by simp [program,Sem.run]
        simp only [hpr,Result.andThen_ok,hn,hm2,callFunc,e1]
        simp only [program,Sem.run_bind,Sem.run,Result.andThen_ok,c1,c3,c2,Bool.false_eq_true,if_false]
        rfl
       unfold Oper.wp
       rw [hrun]
       exact hcall.mono fun en w' ⟨u,e',F',h1,h2,h3,h4⟩=>by subst h1;exact hK u w' e' F' h2 h3 h4
     ·cases h
    ·cases h
   ·cases h
  ·rename_i b hb
   split at h
   ·split at h
    ·rename_i t tx hts
     split at h
     ·rename_i s x hxs
      split at h
      ·rename_i p hp
       split at h
       ·rename_i q hq
        have e1:c.argTypes=#[t,tx]:=Array.toList_inj.1 hts
        split at h
        ·rename_i rr hap
         cases h
         have hx:st'.x=st.x:=(appV_x hap).trans (truncS_x st p).1
         refine ⟨hx ▸ hg,fun e w F a K Q hR hs hK=>?_⟩
         have v1:=hs s (by rw [ho];simp [Op.operands,Call.operands,hb];rw [← Array.mem_toList_iff,hxs];simp) p hp
         have v2:=hs x (by rw [ho];simp [Op.operands,Call.operands,hb];rw [← Array.mem_toList_iff,hxs];simp) q hq
         obtain ⟨t1,t2⟩:=truncS_ok hR v1 st.nx
         obtain ⟨u,w',e',h1,h2,h3,h4⟩:=appV_ok hap t1 v1 v2 o.type
         rw [(truncS_x st p).2] at h4
         have e2:c.args.map a.eval=#[a.eval s,a.eval x]:=Array.toList_inj.1 (by rw [Array.toList_map,hxs];rfl)
         unfold Oper.wp
         have:(execOp a.eval o).run P w=.ok (.value u) w':=by
          simp only [execOp,ho,resolve,hb,Sem.run_bind,Sem.run_pure,Result.andThen_ok,invoke,builtin,e1,e2,h1]
         rw [this]
         exact hK u w' e' F h2 h3 (t2.trans h4)
        ·have hx:st'.x=st.x:=(appZ_ok' h)
         refine ⟨hx ▸ hg,fun e w F a K Q hR hs hK=>?_⟩
         have v1:=hs s (by rw [ho];simp [Op.operands,Call.operands,hb];rw [← Array.mem_toList_iff,hxs];simp) p hp
         have v2:=hs x (by rw [ho];simp [Op.operands,Call.operands,hb];rw [← Array.mem_toList_iff,hxs];simp) q hq
         obtain ⟨-,u,w',e',h1,h2,h3,h4⟩:=appZ_ok h hR v1 v2 o.type
         have e2:c.args.map a.eval=#[a.eval s,a.eval x]:=Array.toList_inj.1 (by rw [Array.toList_map,hxs];rfl)
         unfold Oper.wp
         have:(execOp a.eval o).run P w=.ok (.value u) w':=by
          simp only [execOp,ho,resolve,hb,Sem.run_bind,Sem.run_pure,Result.andThen_ok,invoke,builtin,e1,e2,h1]
         rw [this]
         exact hK u w' e' F h2 h3 h4
       ·cases h
      ·cases h
     ·cases h
    ·cases h
   ·cases h
 ·cases h
end
end
end Go.Proofs.YtmelcflkbfhohaaGreatDoor.W.E
