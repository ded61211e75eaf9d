/- EvJ Heads RowM Merge -/
import Derived.Test.YtbbokgpklihkoaaGreatDoorPart15
import Derived.Test.YtbbokgpklihkoaaGreatDoorPart12
import Derived.Test.YtbbokgpklihkoaaGreatDoorPart11
import Derived.Test.YtbbokgpklihkoaaGreatDoorPart14
import Derived.WalkSpells
import Derived.Shelf.Abstract
import Derived.Scope
import Derived.ControlIn
import Derived.RegionIn
set_option linter.unusedVariables false
set_option linter.unusedSimpArgs false
namespace Go.Proofs.YtbbokgpklihkoaaGreatDoor.W.E
section
open Go.RowKit
def valsN (l:List (Int × Ob)):Nat:=l.foldr (fun p n=>p.2.items.length + p.2.d.length + n) 0
def smallB (h:Hp) (n:Nat):Bool:=Nat.ble (valsN h.all + n) 1000000000
theorem valsN_eq:∀ l:List (Int × Ob),(l.flatMap fun p=>p.2.values).length=valsN l
 | []=>rfl
 | p :: t=>by rw [List.flatMap_cons,List.length_append,valsN_eq t];simp [valsN,Ob.values]
theorem small_ok {h:Hp} {n:Nat} (hs:smallB h n=true):h.vals.length + n≤1000000000:=by
 have:=zB hs
 rw [← valsN_eq] at this
 exact this
theorem RefsOk.up {h:Hp} (r:RefsOk h) {l:List V} (hs:h.vals.length + l.length≤1000000000) (n:Int):hold 1 h.refs l n=h.refs n + occ n l :=
 hold_up l h.refs n fun m=>by have:=r m;have:=occ_le m h.vals;omega
theorem RefsOk.updown {h:Hp} (r:RefsOk h) {l d:List V} (hs:h.vals.length + l.length≤1000000000) (hd:∀ m,occ m d≤occ m h.vals) (n:Int):hold (-1) (hold 1 h.refs l) d n=h.refs n + occ n l - occ n d:=by
 rw [hold_down d _ n fun m=>?_,r.up hs n]
 have:=r m;have:=occ_le m h.vals;have:=occ_le m l;have:=hd m
 rw [r.up hs m];omega
theorem RefsOk.down {h:Hp} (r:RefsOk h) {d:List V} (hs:h.vals.length≤1000000000) (hd:∀ m,occ m d≤occ m h.vals) (n:Int):hold (-1) h.refs d n=h.refs n - occ n d:=by
 rw [hold_down d _ n fun m=>?_]
 have:=r m;have:=occ_le m h.vals;have:=hd m
 omega
theorem occ_vals_put {l:List (Int × Ob)} {m:Int} {o:Ob} (o':Ob) (h:get l m=some o) (n:Int):occ n ((put l m o').flatMap fun p=>p.2.values) + occ n o.values=occ n (l.flatMap fun p=>p.2.values) + occ n o'.values:=by
 induction l with
 | nil=>cases h
 | cons p t ih =>
  obtain ⟨k,v⟩:=p
  by_cases e:k=m
  ·rw [get,if_pos e] at h;cases h
   rw [put,if_pos e,List.flatMap_cons,List.flatMap_cons,occ_append,occ_append];simp only;omega
  ·rw [get,if_neg e] at h
   rw [put,if_neg e,List.flatMap_cons,List.flatMap_cons,occ_append,occ_append];have:=ih h;omega
theorem occ_vals_new {l:List (Int × Ob)} {m:Int} (o':Ob) (h:get l m=none) (n:Int):occ n ((put l m o').flatMap fun p=>p.2.values)=occ n (l.flatMap fun p=>p.2.values) + occ n o'.values:=by
 induction l with
 | nil=>simp [put,occ]
 | cons p t ih =>
  obtain ⟨k,v⟩:=p
  by_cases e:k=m
  ·rw [get,if_pos e] at h;cases h
  ·rw [get,if_neg e] at h
   rw [put,if_neg e,List.flatMap_cons,List.flatMap_cons,occ_append,occ_append];have:=ih h;omega
theorem occ_in {l:List (Int × Ob)} {m:Int} {o:Ob} (h:get l m=some o) (n:Int):occ n o.values≤occ n (l.flatMap fun p=>p.2.values):=by
 rw [occ_vals_del h n];omega
theorem of_get {h:Hp} {v:V} {o:Ob} (ho:h.of v=some o):get h.all v.n=some o:=by
 unfold Hp.of at ho
 split at ho
 ·exact ho
 ·cases ho
theorem RefsOk.set {h:Hp} (r:RefsOk h) {v:V} {o o':Ob} (ho:h.of v=some o) {f:Int→Int} (hf:∀ n,f n=h.refs n + occ n o'.values - occ n o.values):RefsOk { h.set v o' with refs:=f }:=by
 intro n
 show f n=occ n ((put h.all v.n o').flatMap fun p=>p.2.values)
 have:=occ_vals_put o' (of_get ho) n
 have h2:=r n
 have h3:h.vals=h.all.flatMap fun p=>p.2.values:=rfl
 rw [hf n,h2,h3]
 omega
theorem occ_put_old {d:Row} {k x was:V} (h:W.get d k=some was) (n:Int):occ n ((W.put d k x).map (·.2)) + occ n [was]=occ n (d.map (·.2)) + occ n [x]:=by
 induction d with
 | nil=>cases h
 | cons p t ih =>
  obtain ⟨a,b⟩:=p
  by_cases e:a=k
  ·rw [W.get,if_pos e] at h;cases h
   rw [W.put,if_pos e];simp only [List.map_cons,occ];omega
  ·rw [W.get,if_neg e] at h
   rw [W.put,if_neg e];have:=ih h;simp only [List.map_cons,occ] at this ⊢;omega
theorem occ_put_new {d:Row} {k x:V} (h:W.get d k=none) (n:Int):occ n ((W.put d k x).map (·.2))=occ n (d.map (·.2)) + occ n [x]:=by
 induction d with
 | nil=>simp [W.put,occ]
 | cons p t ih =>
  obtain ⟨a,b⟩:=p
  by_cases e:a=k
  ·rw [W.get,if_pos e] at h;cases h
  ·rw [W.get,if_neg e] at h
   rw [W.put,if_neg e];have:=ih h;simp only [List.map_cons,occ] at this ⊢;omega
theorem occ_del_old {d:Row} {k was:V} (h:W.get d k=some was) (n:Int):occ n ((W.del d k).map (·.2)) + occ n [was]=occ n (d.map (·.2)):=by
 induction d with
 | nil=>cases h
 | cons p t ih =>
  obtain ⟨a,b⟩:=p
  by_cases e:a=k
  ·rw [W.get,if_pos e] at h;cases h
   rw [W.del,if_pos e];simp only [List.map_cons,occ];omega
  ·rw [W.get,if_neg e] at h
   rw [W.del,if_neg e];have:=ih h;simp only [List.map_cons,occ] at this ⊢;omega
theorem occ_was {d:Row} {k was:V} (h:W.get d k=some was) (n:Int):occ n [was]≤occ n (d.map (·.2)):=by have:=occ_del_old h n;omega
theorem RefsOk.make {h:Hp} (r:RefsOk h) {kind:Int} {name:List UInt8} {n:Int} {l:List V} (hs:smallB h l.length=true) (hn:(get h.all (wrap64 (h.last + 1))).isNone=true):RefsOk (h.make kind name n l).1:=by
 unfold Hp.make
 split
 ·intro m
  show hold 1 h.refs l m=occ m ((put h.all (wrap64 (h.last + 1)) ⟨kind,name,n,l,[]⟩).flatMap fun p=>p.2.values)
  rw [r.up (small_ok hs) m,occ_vals_new _ (by simpa using hn) m,r m]
  simp [Hp.vals,Ob.values]
 ·exact r
theorem RefsOk.put {h:Hp} (r:RefsOk h) {v k x:V} (hs:smallB h 2=true):RefsOk (h.put v k x).1:=by
 have hs:=small_ok hs
 unfold Hp.put
 split
 ·rename_i o ho
  split
  ·refine r.set ho fun n=>?_
   have hv:∀ (o:Ob),occ n o.values=occ n o.items + occ n (o.d.map (·.2)):=fun o=>by rw [Ob.values,occ_append]
   cases hw:W.get o.d k with
   | some was =>
    simp only
    rw [r.updown (by simp;omega) (fun m=>?_) n,hv o]
    ·show _=h.refs n + occ n (Ob.values _) - _
     rw [hv]
     have:=occ_put_old (x:=x) hw n
     simp only;omega
    ·have h1:=occ_was hw m
     have h2:=occ_in (of_get ho) m
     have:occ m o.values=occ m o.items + occ m (o.d.map (·.2)):=by rw [Ob.values,occ_append]
     show occ m [was]≤occ m (h.all.flatMap fun p=>p.2.values)
     omega
   | none =>
    simp only
    rw [r.up (by simp;omega) n,hv o]
    show _=h.refs n + occ n (Ob.values _) - _
    rw [hv]
    have:=occ_put_new (x:=x) hw n
    simp only;omega
  ·exact r
 ·exact r
theorem RefsOk.del {h:Hp} (r:RefsOk h) {v k:V} (hs:smallB h 2=true):RefsOk (h.del v k).1:=by
 have hs:=small_ok hs
 unfold Hp.del
 split
 ·rename_i o ho
  split
  ·rename_i was hw
   refine r.set ho fun n=>?_
   have hv:∀ (o:Ob),occ n o.values=occ n o.items + occ n (o.d.map (·.2)):=fun o=>by rw [Ob.values,occ_append]
   rw [r.down (by omega) (fun m=>?_) n,hv o]
   ·rw [hv]
    have:=occ_del_old hw n
    simp only;omega
   ·have h1:=occ_was hw m
    have h2:=occ_in (of_get ho) m
    have:occ m o.values=occ m o.items + occ m (o.d.map (·.2)):=by rw [Ob.values,occ_append]
    show occ m [was]≤occ m (h.all.flatMap fun p=>p.2.values)
    omega
  ·exact r
 ·exact r
theorem occ_cut (l:List V) (a b:Nat) (hab:a≤b) (n:Int):occ n l=occ n (l.take a) + occ n ((l.take b).drop a) + occ n (l.drop b):=by
 have h1:l=l.take a++((l.take b).drop a++l.drop b):=by
  have e1:(l.take b).drop a++l.drop b=l.drop a:=by
   by_cases hb:b≤l.length
   ·have:l.drop a=(l.take b++l.drop b).drop a:=by rw [List.take_append_drop]
    rw [this,List.drop_append]
    rw [show a - (l.take b).length=0 by rw [List.length_take,Nat.min_eq_left hb];omega,List.drop_zero]
   ·rw [List.take_of_length_le (by omega),show l.drop b=[] from List.drop_eq_nil_of_le (by omega),List.append_nil]
  rw [e1,List.take_append_drop]
 have h2:=congrArg (occ n) h1
 rw [occ_append,occ_append] at h2
 omega
theorem RefsOk.replace {h:Hp} (r:RefsOk h) {v:V} {a b:Int} {l:List V} (hs:smallB h l.length=true):RefsOk (h.replace v a b l).1:=by
 have hs:=small_ok hs
 unfold Hp.replace
 split
 ·rename_i o ho
  split
  ·rename_i hab
   refine r.set ho fun n=>?_
   have hv:∀ (o:Ob) n,occ n o.values=occ n o.items + occ n (o.d.map (·.2)):=fun o n=>by rw [Ob.values,occ_append]
   have hcut:∀ n,occ n o.items=occ n (o.items.take a.toNat) + occ n ((o.items.take b.toNat).drop a.toNat) + occ n (o.items.drop b.toNat):=occ_cut o.items a.toNat b.toNat (by omega)
   rw [r.updown hs (fun m=>?_) n,hv o]
   ·rw [hv]
    have:=hcut n
    simp only [occ_append];omega
   ·have h1:=hcut m
    have h2:=occ_in (of_get ho) m
    have:=hv o m
    show occ m _≤occ m (h.all.flatMap fun p=>p.2.values)
    omega
  ·exact r
 ·exact r
theorem occ_set {l:List V} {i:Nat} (hi:i < l.length) (x:V) (n:Int):occ n (l.set i x) + occ n [l.getD i V.nil]=occ n l + occ n [x]:=by
 induction l generalizing i with
 | nil=>simp at hi
 | cons y t ih =>
  cases i with
  | zero=>simp [occ];omega
  | succ i=>have:=ih (i:=i) (by simpa using hi);simp only [List.set_cons_succ,List.getD_cons_succ,occ] at this ⊢;omega
theorem RefsOk.setAt {h:Hp} (r:RefsOk h) {v:V} {i:Int} {x:V} (hs:smallB h 2=true):RefsOk (h.setAt v i x).1:=by
 have hs:=small_ok hs
 unfold Hp.setAt
 split
 ·rename_i o ho
  split
  ·rename_i hi
   refine r.set ho fun n=>?_
   have hv:∀ (o:Ob) n,occ n o.values=occ n o.items + occ n (o.d.map (·.2)):=fun o n=>by rw [Ob.values,occ_append]
   have hset:∀ n,occ n (o.items.set i.toNat x) + occ n [o.items.getD i.toNat V.nil]=occ n o.items + occ n [x]:=occ_set (by omega) x
   have hin:∀ n,occ n [o.items.getD i.toNat V.nil]≤occ n o.items:=fun n=>by
    have h1:=hset n
    have h2:=occ_set (l:=o.items) (i:=i.toNat) (by omega) V.nil n
    have h3:occ n [V.nil]=0:=by simp [occ]
    omega
   rw [r.updown (by simp;omega) (fun m=>?_) n,hv o]
   ·rw [hv]
    have:=hset n
    simp only;omega
   ·have h1:=hin m
    have h2:=occ_in (of_get ho) m
    have:=hv o m
    show occ m _≤occ m (h.all.flatMap fun p=>p.2.values)
    omega
  ·exact r
 ·exact r
def fitsB (h:Hp) (v:V) (n:Nat):Bool:=match h.of v with | some o=>Nat.ble (o.items.length + n) 1048576 | none=>true
def toI:SV→Option Int
 | .int .i64 n=>some n
 | _=>none
theorem toI_ok {x:SV} {n:Int} (h:toI x=some n) {e:Env} {u:Value} (hx:VR e x u):u=.int .i64 n:=by
 unfold toI at h
 split at h
 ·cases h;cases hx;rfl
 ·cases h
def toS:SV→Option (List UInt8)
 | .str s=>some s
 | _=>none
theorem toS_ok {x:SV} {s:List UInt8} (h:toS x=some s) {e:Env} {u:Value} (hx:VR e x u):u=.string (bs s):=by
 unfold toS at h
 split at h
 ·cases h;cases hx;rfl
 ·cases h
theorem vrs_cons {e:Env} {v:SV} {vs:List SV} {us:List Value} (h:VRs e (v :: vs) us):∃ u ws,us=u :: ws∧VR e v u∧VRs e vs ws:=by
 cases h with | cons h1 h2=>exact ⟨_,_,rfl,h1,h2⟩
theorem vrs_nil {e:Env} {us:List Value} (h:VRs e [] us):us=[]:=by cases h;rfl
def xKind:ExtF:=fun vs st=>match vs with
 | [p,a0]=>(match heapAt st.x p with | some h=>(match toV a0 with | some x0=>some (.int .i64 (h.kind x0),st) | none=>none) | none=>none)
 | _=>none
theorem xKind_ok:ExtOk 92 xKind:=fun w0 vs st v st' h=>by
 unfold xKind at h
 split at h
 ·rename_i p a0
  split at h
  ·rename_i hh hq
   split at h
   ·rename_i y0 e0
    cases h
    refine ext_reader fun e w F us hR hvs=>?_
    obtain ⟨uq,us,rfl,q,hvs⟩:=vrs_cons hvs
    obtain ⟨uq0,us,rfl,q0,hvs⟩:=vrs_cons hvs
    cases vrs_nil hvs
    obtain ⟨b,c,F0,g1,k,rfl⟩:=heapAt_ok hq hR q
    obtain rfl:=toV_ok e0 q0
    exact ⟨_,.int _ _,kind_any w c hh F0 k.hr y0⟩
   ·cases h
  ·cases h
 ·cases h
def xName:ExtF:=fun vs st=>match vs with
 | [p,a0]=>(match heapAt st.x p with | some h=>(match toV a0 with | some x0=>some (.str (h.name x0),st) | none=>none) | none=>none)
 | _=>none
theorem xName_ok:ExtOk 88 xName:=fun w0 vs st v st' h=>by
 unfold xName at h
 split at h
 ·rename_i p a0
  split at h
  ·rename_i hh hq
   split at h
   ·rename_i y0 e0
    cases h
    refine ext_reader fun e w F us hR hvs=>?_
    obtain ⟨uq,us,rfl,q,hvs⟩:=vrs_cons hvs
    obtain ⟨uq0,us,rfl,q0,hvs⟩:=vrs_cons hvs
    cases vrs_nil hvs
    obtain ⟨b,c,F0,g1,k,rfl⟩:=heapAt_ok hq hR q
    obtain rfl:=toV_ok e0 q0
    exact ⟨_,.str _,name_any w c hh F0 k.hr y0⟩
   ·cases h
  ·cases h
 ·cases h
def xNum:ExtF:=fun vs st=>match vs with
 | [p,a0]=>(match heapAt st.x p with | some h=>(match toV a0 with | some x0=>some (.int .i64 (h.num x0),st) | none=>none) | none=>none)
 | _=>none
def xLen:ExtF:=fun vs st=>match vs with
 | [p,a0]=>(match heapAt st.x p with | some h=>(match toV a0 with | some x0=>some (.int .i64 ((h.len x0:Int)),st) | none=>none) | none=>none)
 | _=>none
theorem xLen_ok:ExtOk 279 xLen:=fun w0 vs st v st' h=>by
 unfold xLen at h
 split at h
 ·rename_i p a0
  split at h
  ·rename_i hh hq
   split at h
   ·rename_i y0 e0
    cases h
    refine ext_reader fun e w F us hR hvs=>?_
    obtain ⟨uq,us,rfl,q,hvs⟩:=vrs_cons hvs
    obtain ⟨uq0,us,rfl,q0,hvs⟩:=vrs_cons hvs
    cases vrs_nil hvs
    obtain ⟨b,c,F0,g1,k,rfl⟩:=heapAt_ok hq hR q
    obtain rfl:=toV_ok e0 q0
    exact ⟨_,.int _ _,len_any w c hh F0 k.hr y0⟩
   ·cases h
  ·cases h
 ·cases h
def xSize:ExtF:=fun vs st=>match vs with
 | [p,a0]=>(match heapAt st.x p with | some h=>(match toV a0 with | some x0=>some (.int .i64 ((h.size x0:Int)),st) | none=>none) | none=>none)
 | _=>none
def xAt:ExtF:=fun vs st=>match vs with
 | [p,a0,a1]=>(match heapAt st.x p with | some h=>(match toV a0 with | some x0=>(match toI a1 with | some x1=>some (.tup [((h.at x0 x1).1).sv,.bool ((h.at x0 x1).2)],st) | none=>none) | none=>none) | none=>none)
 | _=>none
theorem xAt_ok:ExtOk 91 xAt:=fun w0 vs st v st' h=>by
 unfold xAt at h
 split at h
 ·rename_i p a0 a1
  split at h
  ·rename_i hh hq
   split at h
   ·rename_i y0 e0
    split at h
    ·rename_i y1 e1
     cases h
     refine ext_reader fun e w F us hR hvs=>?_
     obtain ⟨uq,us,rfl,q,hvs⟩:=vrs_cons hvs
     obtain ⟨uq0,us,rfl,q0,hvs⟩:=vrs_cons hvs
     obtain ⟨uq1,us,rfl,q1,hvs⟩:=vrs_cons hvs
     cases vrs_nil hvs
     obtain ⟨b,c,F0,g1,k,rfl⟩:=heapAt_ok hq hR q
     obtain rfl:=toV_ok e0 q0
     obtain rfl:=toI_ok e1 q1
     exact ⟨_,.tup (.cons (V.sv_ok _ _) (.cons (.bool _) .nil)),at_any w c hh F0 k.hr y0 y1⟩
    ·cases h
   ·cases h
  ·cases h
 ·cases h
def xGet:ExtF:=fun vs st=>match vs with
 | [p,a0,a1]=>(match heapAt st.x p with | some h=>(match toV a0 with | some x0=>(match toV a1 with | some x1=>some (.tup [((h.get x0 x1).1).sv,.bool ((h.get x0 x1).2)],st) | none=>none) | none=>none) | none=>none)
 | _=>none
theorem xGet_ok:ExtOk 89 xGet:=fun w0 vs st v st' h=>by
 unfold xGet at h
 split at h
 ·rename_i p a0 a1
  split at h
  ·rename_i hh hq
   split at h
   ·rename_i y0 e0
    split at h
    ·rename_i y1 e1
     cases h
     refine ext_reader fun e w F us hR hvs=>?_
     obtain ⟨uq,us,rfl,q,hvs⟩:=vrs_cons hvs
     obtain ⟨uq0,us,rfl,q0,hvs⟩:=vrs_cons hvs
     obtain ⟨uq1,us,rfl,q1,hvs⟩:=vrs_cons hvs
     cases vrs_nil hvs
     obtain ⟨b,c,F0,g1,k,rfl⟩:=heapAt_ok hq hR q
     obtain rfl:=toV_ok e0 q0
     obtain rfl:=toV_ok e1 q1
     exact ⟨_,.tup (.cons (V.sv_ok _ _) (.cons (.bool _) .nil)),getH_any w c hh F0 k.hr y0 y1⟩
    ·cases h
   ·cases h
  ·cases h
 ·cases h
def xKeys:ExtF:=fun vs st=>match vs with
 | [p,a0]=>(match heapAt st.x p with | some h=>(match toV a0 with | some x0=>(bif Nat.blt st.nx TMax then some (st.row (h.keys x0)) else none) | none=>none) | none=>none)
 | _=>none
def xItems:ExtF:=fun vs st=>match vs with
 | [p,a0]=>(match heapAt st.x p with | some h=>(match toV a0 with | some x0=>(bif Nat.blt st.nx TMax then some (st.row (h.items x0)) else none) | none=>none) | none=>none)
 | _=>none
theorem xItems_ok:ExtOk 142 xItems:=fun w0 vs st v st' h=>by
 unfold xItems at h
 split at h
 ·rename_i p a0
  split at h
  ·rename_i hh hq
   split at h
   ·rename_i y0 e0
    cases hc:Nat.blt st.nx TMax with
    | false=>rw [hc] at h;cases h
    | true =>
     rw [hc,cond_true] at h
     have h1:=Option.some.inj h
     rw [show v=(st.row (hh.items y0)).1 from (congrArg Prod.fst h1).symm,show st'=(st.row (hh.items y0)).2 from (congrArg Prod.snd h1).symm]
     refine ext_row (by simpa [Nat.blt_eq] using hc) fun e w F us hR hvs=>?_
     obtain ⟨uq,us,rfl,q,hvs⟩:=vrs_cons hvs
     obtain ⟨uq0,us,rfl,q0,hvs⟩:=vrs_cons hvs
     cases vrs_nil hvs
     obtain ⟨b,c,F0,g1,k,rfl⟩:=heapAt_ok hq hR q
     obtain rfl:=toV_ok e0 q0
     exact items_any w c hh F0 k.hr y0
   ·cases h
  ·cases h
 ·cases h
def xLive:ExtF:=fun vs st=>match vs with
 | [p,a0]=>(match heapAt st.x p with | some h=>(match toI a0 with | some x0=>some (.int .i64 (wrap64 (h.live x0)),st) | none=>none) | none=>none)
 | _=>none
theorem xLive_ok:ExtOk 96 xLive:=fun w0 vs st v st' h=>by
 unfold xLive at h
 split at h
 ·rename_i p a0
  split at h
  ·rename_i hh hq
   split at h
   ·rename_i y0 e0
    cases h
    refine ext_reader fun e w F us hR hvs=>?_
    obtain ⟨uq,us,rfl,q,hvs⟩:=vrs_cons hvs
    obtain ⟨uq0,us,rfl,q0,hvs⟩:=vrs_cons hvs
    cases vrs_nil hvs
    obtain ⟨b,c,F0,g1,k,rfl⟩:=heapAt_ok hq hR q
    obtain rfl:=toI_ok e0 q0
    exact ⟨_,.int _ _,live_any w c hh F0 k.hr y0⟩
   ·cases h
  ·cases h
 ·cases h
def xMake:ExtF:=fun vs st=>match vs with
 | [p,a0,a1,a2,a3]=>(match heapAt st.x p with | some h=>(match toI a0 with | some x0=>(match toS a1 with | some x1=>(match toI a2 with | some x2=>(match rowV st.m a3 with | some x3=>(bif smallB h x3.length && (get h.all (wrap64 (h.last + 1))).isNone then some (((h.make x0 x1 x2 x3).2).sv,st.wh (hnum st.x) (h.make x0 x1 x2 x3).1) else none) | none=>none) | none=>none) | none=>none) | none=>none) | none=>none)
 | _=>none
theorem xMake_ok:ExtOk 18 xMake:=fun w0 vs st v st' h=>by
 unfold xMake at h
 split at h
 ·rename_i p a0 a1 a2 a3
  split at h
  ·rename_i hh hq
   split at h
   ·rename_i y0 e0
    split at h
    ·rename_i y1 e1
     split at h
     ·rename_i y2 e2
      split at h
      ·rename_i y3 e3
       cases hc:smallB hh y3.length && (get hh.all (wrap64 (hh.last + 1))).isNone with
       | false=>rw [hc] at h;cases h
       | true =>
        rw [hc,cond_true] at h
        simp only [Bool.and_eq_true] at hc
        cases h
        refine ext_writer (heapAt_x hq) fun e w F us c F0 hR hvs k=>?_
        obtain ⟨uq,us,rfl,q,hvs⟩:=vrs_cons hvs
        obtain ⟨uq0,us,rfl,q0,hvs⟩:=vrs_cons hvs
        obtain ⟨uq1,us,rfl,q1,hvs⟩:=vrs_cons hvs
        obtain ⟨uq2,us,rfl,q2,hvs⟩:=vrs_cons hvs
        obtain ⟨uq3,us,rfl,q3,hvs⟩:=vrs_cons hvs
        cases vrs_nil hvs
        obtain ⟨b',c',F1,g1,k',rfl⟩:=heapAt_ok hq hR q
        rw [heapAt_x hq] at g1;cases g1;obtain ⟨z1,a1⟩:=k.at_;obtain ⟨z2,a2⟩:=k'.at_;rw [a1] at a2;cases a2
        refine ⟨RefsOk.make k.ok hc.1 hc.2,?_⟩
        obtain rfl:=toI_ok e0 q0
        obtain rfl:=toS_ok e1 q1
        obtain rfl:=toI_ok e2 q2
        obtain ⟨r3,m3⟩:=rowV_ok e3 hR q3
        exact ⟨_,V.sv_ok _ _,make_any w c hh F0 k.hr y0 y1 y2 _ y3 (Vx.less r3 k.sub) m3⟩
      ·cases h
     ·cases h
    ·cases h
   ·cases h
  ·cases h
 ·cases h
def xPut:ExtF:=fun vs st=>match vs with
 | [p,a0,a1,a2]=>(match heapAt st.x p with | some h=>(match toV a0 with | some x0=>(match toV a1 with | some x1=>(match toV a2 with | some x2=>(bif smallB h 2 then some (.bool ((h.put x0 x1 x2).2),st.wh (hnum st.x) (h.put x0 x1 x2).1) else none) | none=>none) | none=>none) | none=>none) | none=>none)
 | _=>none
theorem xPut_ok:ExtOk 99 xPut:=fun w0 vs st v st' h=>by
 unfold xPut at h
 split at h
 ·rename_i p a0 a1 a2
  split at h
  ·rename_i hh hq
   split at h
   ·rename_i y0 e0
    split at h
    ·rename_i y1 e1
     split at h
     ·rename_i y2 e2
      cases hc:smallB hh 2 with
      | false=>rw [hc] at h;cases h
      | true =>
       rw [hc,cond_true] at h
       cases h
       refine ext_writer (heapAt_x hq) fun e w F us c F0 hR hvs k=>?_
       obtain ⟨uq,us,rfl,q,hvs⟩:=vrs_cons hvs
       obtain ⟨uq0,us,rfl,q0,hvs⟩:=vrs_cons hvs
       obtain ⟨uq1,us,rfl,q1,hvs⟩:=vrs_cons hvs
       obtain ⟨uq2,us,rfl,q2,hvs⟩:=vrs_cons hvs
       cases vrs_nil hvs
       obtain ⟨b',c',F1,g1,k',rfl⟩:=heapAt_ok hq hR q
       rw [heapAt_x hq] at g1;cases g1;obtain ⟨z1,a1⟩:=k.at_;obtain ⟨z2,a2⟩:=k'.at_;rw [a1] at a2;cases a2
       refine ⟨RefsOk.put k.ok hc,?_⟩
       obtain rfl:=toV_ok e0 q0
       obtain rfl:=toV_ok e1 q1
       obtain rfl:=toV_ok e2 q2
       exact ⟨_,.bool _,putH_any w c hh F0 k.hr y0 y1 y2⟩
     ·cases h
    ·cases h
   ·cases h
  ·cases h
 ·cases h
def xDel:ExtF:=fun vs st=>match vs with
 | [p,a0,a1]=>(match heapAt st.x p with | some h=>(match toV a0 with | some x0=>(match toV a1 with | some x1=>(bif smallB h 2 then some (.bool ((h.del x0 x1).2),st.wh (hnum st.x) (h.del x0 x1).1) else none) | none=>none) | none=>none) | none=>none)
 | _=>none
def xSetAt:ExtF:=fun vs st=>match vs with
 | [p,a0,a1,a2]=>(match heapAt st.x p with | some h=>(match toV a0 with | some x0=>(match toI a1 with | some x1=>(match toV a2 with | some x2=>(bif smallB h 2 then some (.bool ((h.setAt x0 x1 x2).2),st.wh (hnum st.x) (h.setAt x0 x1 x2).1) else none) | none=>none) | none=>none) | none=>none) | none=>none)
 | _=>none
theorem xSetAt_ok:ExtOk 155 xSetAt:=fun w0 vs st v st' h=>by
 unfold xSetAt at h
 split at h
 ·rename_i p a0 a1 a2
  split at h
  ·rename_i hh hq
   split at h
   ·rename_i y0 e0
    split at h
    ·rename_i y1 e1
     split at h
     ·rename_i y2 e2
      cases hc:smallB hh 2 with
      | false=>rw [hc] at h;cases h
      | true =>
       rw [hc,cond_true] at h
       cases h
       refine ext_writer (heapAt_x hq) fun e w F us c F0 hR hvs k=>?_
       obtain ⟨uq,us,rfl,q,hvs⟩:=vrs_cons hvs
       obtain ⟨uq0,us,rfl,q0,hvs⟩:=vrs_cons hvs
       obtain ⟨uq1,us,rfl,q1,hvs⟩:=vrs_cons hvs
       obtain ⟨uq2,us,rfl,q2,hvs⟩:=vrs_cons hvs
       cases vrs_nil hvs
       obtain ⟨b',c',F1,g1,k',rfl⟩:=heapAt_ok hq hR q
       rw [heapAt_x hq] at g1;cases g1;obtain ⟨z1,a1⟩:=k.at_;obtain ⟨z2,a2⟩:=k'.at_;rw [a1] at a2;cases a2
       refine ⟨RefsOk.setAt k.ok hc,?_⟩
       obtain rfl:=toV_ok e0 q0
       obtain rfl:=toI_ok e1 q1
       obtain rfl:=toV_ok e2 q2
       exact ⟨_,.bool _,setAt_any w c hh F0 k.hr y0 y1 y2⟩
     ·cases h
    ·cases h
   ·cases h
  ·cases h
 ·cases h
def xReplace:ExtF:=fun vs st=>match vs with
 | [p,a0,a1,a2,a3]=>(match heapAt st.x p with | some h=>(match toV a0 with | some x0=>(match toI a1 with | some x1=>(match toI a2 with | some x2=>(match rowV st.m a3 with | some x3=>(bif smallB h x3.length && fitsB h x0 x3.length then some (.bool ((h.replace x0 x1 x2 x3).2),st.wh (hnum st.x) (h.replace x0 x1 x2 x3).1) else none) | none=>none) | none=>none) | none=>none) | none=>none) | none=>none)
 | _=>none
end
end Go.Proofs.YtbbokgpklihkoaaGreatDoor.W.E
namespace Go.Proofs.YtbbokgpklihkoaaGreatDoor.W
section
open Go.RowKit
attribute [local go_sem] Oper.semAt_some
def headsOf (rows:List (List Int)):List Int:=rows.filterMap List.head?
def intArgs (l:List Int):List (Array Value):=l.map fun n=>#[.int .i64 n]
def headsR (box:Nat) (x:Value) (rows:List (List Int)) (W:World):Prop:=W.cell? ⟨box,0,none⟩=some x∧Rx (fun _=>False) W x rows
theorem headsOf_snoc (l:List (List Int)) (r:List Int):headsOf (l++[r])=headsOf l++(match r with | []=>[] | n :: _=>[n]):=by
 unfold headsOf
 rw [List.filterMap_append]
 cases r<;>rfl
theorem headsOf_at {rows:List (List Int)} {k:Nat} {n:Int} {t:List Int} (h:rows[k]?=some (n :: t)):(headsOf rows)[(headsOf (rows.take k)).length]?=some n:=by
 have hlt:=(List.getElem?_eq_some_iff.1 h).1
 have e:rows=rows.take k++(n :: t) :: rows.drop (k + 1):=by
  have h2:rows[k]=n :: t:=(List.getElem?_eq_some_iff.1 h).2
  rw [← h2,← List.drop_eq_getElem_cons hlt,List.take_append_drop]
 have e2:headsOf rows=headsOf (rows.take k)++n :: headsOf (rows.drop (k + 1)):=by
  conv=>lhs;rw [e]
  unfold headsOf
  rw [List.filterMap_append]
  rfl
 rw [e2,List.getElem?_append_right (Nat.le_refl _),Nat.sub_self]
 rfl
set_option maxRecDepth 100000 in
set_option maxHeartbeats 8000000 in
theorem heads_seq (box:Nat) (x:Value) (rows:List (List Int)) (hl:rows.length≤big) (hr:∀ r∈rows,r.length≤big):SeqOfR Tryz.prog 479 #[.pointer (some ⟨box,0,none⟩)] (intArgs (headsOf rows)) (headsR box x rows):=by
 rintro l J Y sJ sY ltJ hR hY F W hJ
 obtain ⟨hbox,hrx⟩:=hR 0 F W hJ
 obtain ⟨n,hn⟩:∃ n,n=rows.length:=⟨_,rfl⟩
 obtain ⟨xa,xc,rfl,-⟩:=hrx.form
 rw [← hn] at hl hR hbox
 replace hl:n≤1048576:=hl
 have HN:=zH hn
 have HJ:=zH hJ
 have HSJ:=zH sJ
 have HLT:=zH ltJ
 have HY:=zH hY
 have HR:=zH hR
 have HRL:=zH hr
 clear hrx hJ sJ ltJ hY sY hR hn hr
 refine callsIn_of_wp Tryz.func479 rfl trivial ?_ rfl
 simp only [Tryz.ntmps479,zS,Nat.reduceAdd,Nat.reduceSub]
 gi_wp2
 gi_loopw [4,7] (fun v4 v wr=>∃ (k:Nat) (F':Foot),k≤n∧v=.int .i64 k∧Step W.heap.size F W wr F'∧J (headsOf (rows.take k)).length F' wr) (fun _ v _=>n - (intOf v).toNat)
 case atStart=>exact ⟨0,F,Nat.zero_le _,rfl,Step.refl (HLT.out 0 F W HJ.out),HJ.out⟩
 case round =>
  obtain ⟨k,F',hk,rfl,hst,hJ⟩:=hrel
  obtain ⟨hbox2,hrx⟩:=HR.out _ F' wr hJ
  by_cases hlt:k < n
  ·obtain ⟨r,hr⟩:∃ r,rows[k]?=some r:=⟨_,List.getElem?_eq_getElem (by rw [← HN.out];exact hlt)⟩
   obtain ⟨b,o,rfl,y,hy,hix⟩:∃ b o,xa=some ⟨b,o,none⟩∧∃ y,wr.cell? ⟨b,o + k,none⟩=some y∧Ix (fun _=>False) wr y r:=by
    obtain ⟨a2,c2,e2,-,h2,h3⟩:=hrx.form
    injection e2 with e3 _ _
    subst e3
    obtain ⟨b,o,rfl,-⟩:=h2 (by rw [← HN.out];omega)
    exact ⟨b,o,rfl,h3 b o rfl k r hr⟩
   have hsnoc:=headsOf_snoc (rows.take k) r
   have htk:rows.take (k + 1)=rows.take k++[r]:=by rw [List.take_add_one,hr];rfl
   rw [← htk] at hsnoc
   obtain ⟨ya,yc,rfl,-,hya,hcell⟩:=hix.form
   have hrl:=HRL.out r (List.mem_of_getElem? hr)
   replace hrl:r.length≤1048576:=hrl
   cases r with
   | nil =>
    have HREL:=zH (show J (headsOf (rows.take (k + 1))).length F' wr from by rw [hsnoc,List.append_nil];exact hJ)
    have HST:=zH hst
    clear hsnoc htk hix hJ hst hr hrx hcell hya hbox hbox2
    rw [List.length_nil] at hy
    gi_wp2
    refine ⟨fun _ h=>(by cases h),?_⟩
    gi_wp2
    go_roundw
    case rel=>exact ⟨k + 1,F',by omega,by go_num,HST.out,HREL.out⟩
    case measure=>simp [intOf];omega
   | cons m t =>
    obtain ⟨yb,yo,rfl,-⟩:=hya (by simp)
    have y0:wr.cell? ⟨yb,yo,none⟩=some (.int .i64 m):=by have:=hcell yb yo rfl 0 m rfl;simpa using this
    have hx:(intArgs (headsOf rows))[(headsOf (rows.take k)).length]?=some #[.int .i64 m]:=by
     unfold intArgs;rw [List.getElem?_map,headsOf_at hr];rfl
    obtain ⟨fn,tmps,assign,body,hyy,hRd⟩:=HY.out _ _ F' wr hx hJ
    have HS:=zH (show (headsOf (rows.take (k + 1))).length=(headsOf (rows.take k)).length + 1 by rw [hsnoc];simp)
    have HST:=zH hst
    rw [List.length_cons] at hy hrl
    clear hsnoc htk hix hJ hst hr hrx hcell hya hbox hbox2 hx
    gi_wp2
    refine hRd.mono ?_
    rintro e W3 ⟨F3,hst3,(⟨rfl,hJ3⟩ | ⟨rfl,hY3⟩)⟩
    ·have HREL:=zH (show Step W.heap.size F W W3 F3∧J (headsOf (rows.take (k + 1))).length F3 W3 from ⟨HST.out.call HST.out.size hst3,by rw [HS.out];exact hJ3⟩)
     clear hst3 hJ3
     gi_wp2
     go_roundw
     case rel=>exact ⟨k + 1,F3,by omega,by go_num,HREL.out.1,HREL.out.2⟩
     case measure=>simp [intOf];omega
    ·have HREL:=zH (show Step W.heap.size F W W3 F3∧Y F3 W3 from ⟨HST.out.call HST.out.size hst3,hY3⟩)
     clear hst3 hY3
     gi_wp2
     refine bodyPost_ret (results_none rfl _ _ _) rfl ?_
     exact ⟨⟨_,rfl⟩,F3,HREL.out.1,.inr HREL.out.2⟩
  ·obtain rfl:k=n:=by omega
   have HREL:=zH (show Step W.heap.size F W wr F'∧J (intArgs (headsOf rows)).length F' wr from ⟨hst,by rw [HN.out,List.take_length] at hJ;unfold intArgs;rw [List.length_map];exact hJ⟩)
   clear hst hJ hrx
   gi_wp2
   go_end0
   exact ⟨⟨_,rfl⟩,F',HREL.out.1,.inl HREL.out.2⟩
theorem heads_any (w:World) (a:Option Addr) (n c:Nat):Calls Tryz.prog 437 #[.slice a n c] w fun e w'=>e=.returned (.func (.func 479) #[] #[.pointer (some ⟨w.heap.size,0,none⟩)])∧w.alloc (.cells #[.slice a n c] 217)=w':=by
 go_enter Tryz.func437,Tryz.ntmps437
 go_wp2
 go_ret
 exact ⟨rfl,rfl⟩
end
section
open Go.RowKit
theorem Tryz.infoR:(Tryz.prog.info? 114).map (fun i=>(i.zero,i.size,i.bytes))=some (some (.slice none 0 0),1,24):=by kernel_rfl
theorem clone_rows (w:World) (b o n c:Nat) (news:List Value) (hl:news.length=n * 1) (hnews:∀ j u,news[j]?=some u→w.cell? ⟨b,o + j,none⟩=some u) (h1:∀ u∈news,u.oneCell'=true) (hb:b < w.heap.size) (hn:n≤maxLen) (hby:n * 24≤140737488355328) :
  Calls Tryz.prog 436 #[.slice (some ⟨b,o,none⟩) n c] w (Fresh w 114 1 n news):=by
 obtain ⟨i0,hi,hz0,hz1,hz2⟩:=info_parts Tryz.infoR
 have hown:(w.alloc (.cells #[] 114)).ownsRow 0 114 1 (.slice (some ⟨w.heap.size,0,none⟩) 0 0) 0 [] :=
  ⟨rfl,.inr ⟨w.heap.size,0,#[],rfl,Nat.zero_le _,(MapKept.heap_alloc w _).1,Nat.le_refl _,Nat.zero_le _,rfl,rfl⟩⟩
 obtain ⟨v',w4,hap,ho,hgrow,hblk⟩:=run_app (P:=Tryz.prog) (w.alloc (.cells #[] 114)) 217 217 114 i0 _ 1 24 Tryz.underlying217 hi hz0 hz1 hz2 rfl (by decide) _ _ _ hown ⟨b,o,none⟩ n c news hl
  (fun j u h=>by rw [Addr.add_lit,World.cell?_of_block (w:=w) (a:=⟨b,o + j,none⟩) (Below.heap_alloc w _ b hb)];exact hnews j u h) h1 (by simpa using hn) (by simpa using hby)
 have HF:=zH (show Fresh w 114 1 n news (.returned v') w4 from by
  rw [Nat.zero_add,List.nil_append] at ho
  have hz:=hgrow.size
  rw [zL] at hz
  have hbl:Bl w w4:=⟨hgrow.os,hgrow.tape,hgrow.output,by omega,fun k hk=>(hgrow.block k (by rw [zL];omega) (fun e=>by simp [Value.ownBlock] at e;omega)).trans (Below.heap_alloc w _ k hk)⟩
  refine ⟨v',rfl,⟨ho.1,ho.2.elim .inl (fun ⟨g,cap,cur,e,_,r⟩=>.inr ⟨g,cap,cur,e,?_,r⟩)⟩,hbl⟩
  rcases hblk with e2 | ⟨g2,e2,h2⟩
  ·rw [e] at e2;simp [Value.ownBlock] at e2;omega
  ·rw [e] at e2;simp [Value.ownBlock] at e2;rw [zL] at h2;omega)
 clear hown ho hgrow hblk hl hnews h1 hb hn hby hi hz0 hz1 hz2
 have hnn:=fun w':World=>Lib.run_eql_slice_nil (P:=Tryz.prog) (w:=w') 217 114 (some ⟨b,o,none⟩) n c 0 0 Tryz.underlying217
 go_enter Tryz.func436,Tryz.ntmps436
 go_wp2_with (at_builtin;refine wpList_app rfl _ _ 217 rfl _ _ rfl rfl _ _ hap ?_)
 go_ret
 exact HF.out
theorem clone_rows_nil (w:World):Calls Tryz.prog 436 #[.slice none 0 0] w fun e w'=>e=.returned (.slice none 0 0)∧w=w':=by
 have hnn:=fun w':World=>Lib.run_eql_slice_nil (P:=Tryz.prog) (w:=w') 217 114 none 0 0 0 0 Tryz.underlying217
 go_enter Tryz.func436,Tryz.ntmps436
 go_wp2
 go_ret
 exact ⟨rfl,rfl⟩
def behindB (rows:List (List Int)) (m:Int):Bool:=rows.any (behindR · m)
def stepRow (m:Int) (r:List Int):List Int:=match r with | []=>[] | n :: t=>if n=m then t else n :: t
def stepR (rows:List (List Int)) (m:Int):List (List Int):=rows.map (stepRow m)
def total (rows:List (List Int)):Nat:=(rows.map List.length).sum
def mergeF:Nat→List (List Int)→List Int→Option (List Int)
 | n,rows,out=>match (headsOf rows).find? fun x=>!behindB rows x with
  | none=>if headsOf rows=[] then some out else none
  | some x=>match n with
   | 0=>none
   | n + 1=>mergeF n (stepR rows x) (out++[x])
theorem stepRow_le (m:Int) (r:List Int):(stepRow m r).length≤r.length:=by
 cases r with
 | nil=>exact Nat.le_refl _
 | cons n t=>simp only [stepRow];split<;>simp
theorem total_le (rows:List (List Int)) (m:Int):total (stepR rows m)≤total rows:=by
 induction rows with
 | nil=>exact Nat.le_refl _
 | cons r t ih =>
  have:=stepRow_le m r
  simp only [total,stepR,List.map_cons,List.sum_cons] at ih ⊢
  omega
theorem total_lt {rows:List (List Int)} {m:Int} (h:m∈headsOf rows):total (stepR rows m) < total rows:=by
 induction rows with
 | nil=>cases h
 | cons r t ih =>
  have h1:=stepRow_le m r
  have h2:=total_le t m
  simp only [total,stepR,List.map_cons,List.sum_cons] at ih h2 ⊢
  cases r with
  | nil =>
   have:m∈headsOf t:=h
   have:=ih this
   omega
  | cons n u =>
   have hh:m=n∨m∈headsOf t:=by
    have:m∈n :: headsOf t:=h
    simpa using this
   rcases hh with rfl | hh
   ·simp only [stepRow,if_true,List.length_cons];omega
   ·have:=ih hh;omega
theorem mergeF_step {n:Nat} {rows:List (List Int)} {out:List Int} {x:Int} (h:(headsOf rows).find? (fun x=>!behindB rows x)=some x) (hn:total rows≤n):∃ n',total (stepR rows x)≤n'∧mergeF n rows out=mergeF n' (stepR rows x) (out++[x]):=by
 have hm:=List.mem_of_find?_eq_some h
 have hlt:=total_lt hm
 match n,hn with
 | 0,hn=>omega
 | n + 1,hn=>exact ⟨n,by omega,by conv=>lhs;unfold mergeF;rw [h]⟩
theorem mergeF_end {n:Nat} {rows:List (List Int)} {out:List Int} (h:(headsOf rows).find? (fun x=>!behindB rows x)=none):mergeF n rows out=if headsOf rows=[] then some out else none:=by
 unfold mergeF;rw [h]
end
section
open Go.RowKit Go.Shelf
attribute [local go_sem] Oper.semAt_some
theorem len_total {rows:List (List Int)} {r:List Int} (h:r∈rows):r.length≤total rows:=by
 induction rows with
 | nil=>cases h
 | cons q t ih =>
  simp only [total,List.map_cons,List.sum_cons] at ih ⊢
  rcases List.mem_cons.1 h with rfl | h
  ·omega
  ·have:=ih h;omega
structure MSt (w:World) (rb ob:Nat) (W:World) (rows:List (List Int)) (out:List Int) (xs:List Value) (v vo:Value):Prop where
 bl:Bl w W
 rest:Coll rb w.heap.size 217 114 1 rows.length xs v W
 ix:∀ (j:Nat) (y:Value) (r:List Int),xs[j]?=some y→rows[j]?=some r→Ix (fun _=>False) w y r
 out:Wait ob w.heap.size out vo W
 ap:∀ b,CFoot rb v b→¬ CFoot ob vo b
 ge:w.heap.size≤rb∧w.heap.size≤ob
def MF (rb ob:Nat) (v vo:Value):Foot:=fun b=>CFoot rb v b∨CFoot ob vo b
section
variable {w W W':World} {rb ob:Nat} {rows:List (List Int)} {out:List Int} {xs:List Value} {v vo:Value}
theorem MSt.keep (s:MSt w rb ob W rows out xs v vo) (hk:∀ b,MF rb ob v vo b→W'.heap[b]?=W.heap[b]?) (hb:Bl w W'):MSt w rb ob W' rows out xs v vo :=
 ⟨hb,s.rest.keep fun b h=>hk b (.inl h),s.ix,s.out.keep fun b h=>hk b (.inr h),s.ap,s.ge⟩
theorem MSt.lt (s:MSt w rb ob W rows out xs v vo):∀ b,MF rb ob v vo b→b < W.heap.size:=fun b h=>h.elim (s.rest.lt b) (s.out.lt b)
theorem MSt.foot (s:MSt w rb ob W rows out xs v vo):∀ b,MF rb ob v vo b→w.heap.size≤b:=by
 rintro b ((rfl | h) | (rfl | h))
 ·exact s.ge.1
 ·exact (s.rest.row.lt b h).1
 ·exact s.ge.2
 ·exact (s.out.row.lt b h).1
theorem MSt.blx (s:MSt w rb ob W rows out xs v vo) (h:Bl W W'):MSt w rb ob W' rows out xs v vo:=s.keep (fun b hb=>h.at (s.lt b hb)) (s.bl.trans h)
theorem MSt.len (s:MSt w rb ob W rows out xs v vo):xs.length=rows.length:=by have:=s.rest.row.1;omega
theorem MSt.rx (s:MSt w rb ob W rows out xs v vo):Rx (fun _=>False) W v rows:=by
 refine ⟨?_,fun _ _ _ _ _ h=>h⟩
 rcases s.rest.row.2 with ⟨rfl,h0⟩ | ⟨g,cap,cur,rfl,h1,hg,h2,h3,h4,h5⟩
 ·exact .inl ⟨rfl,List.eq_nil_of_length_eq_zero h0⟩
 ·refine .inr ⟨g,0,cap,xs,rfl,(zN hg).1,h2,h3,s.len,fun j y hj=>?_,fun j y r hy hr=>(s.ix j y r hy hr).bl s.bl⟩
  have:=s.rest.row.cellAt j (by have:=(List.getElem?_eq_some_iff.1 hj).1;have:=s.len;omega)
  rw [Nat.zero_add,this];exact hj
end
theorem MSt.kp {w W W':World} {rb ob:Nat} {rows:List (List Int)} {out:List Int} {xs:List Value} {v vo:Value} {F:Foot} (s:MSt w rb ob W rows out xs v vo) (hk:Keep F W W') (h1:∀ b,b < w.heap.size→F b) (h2:∀ b,MF rb ob v vo b→F b):MSt w rb ob W' rows out xs v vo :=
 s.keep (fun b hb=>hk.block b (h2 b hb)) ⟨hk.os.trans s.bl.os,hk.tape.trans s.bl.tape,hk.output.trans s.bl.output,Nat.le_trans s.bl.size hk.size,fun b hb=>(hk.block b (h1 b hb)).trans (s.bl.block b hb)⟩
def Mk (ds:List Nat) (W:World):Prop:=∀ d∈ds,W.heap[d]?=some (.deferred (some []))
def mark (d:Nat):Deferred:={ target:=.collected d,args:=#[] }
theorem Mk.lt {ds:List Nat} {W:World} (h:Mk ds W):∀ d∈ds,d < W.heap.size:=fun d hd=>(zN (h d hd)).1
theorem Mk.bl {ds:List Nat} {W W':World} (h:Mk ds W) (hb:Bl W W'):Mk ds W':=fun d hd=>(hb.at (h.lt d hd)).trans (h d hd)
theorem Mk.setCell {ds:List Nat} {W:World} (h:Mk ds W) {b:Nat} {arr:Array Value} {t:TypeId} {fr:Nat × Nat} (hb:W.heap[b]?=some (.cells arr t fr)) (o:Nat) (u:Value):Mk ds (W.setCell ⟨b,o,none⟩ u):=fun d hd =>
 (Below.heap_setCell _ _ _ _ (fun e=>by have e2:d=b:=e;have:=h d hd;rw [e2,hb] at this;cases this)).trans (h d hd)
theorem MSt.nomark {w W:World} {rb ob:Nat} {rows:List (List Int)} {out:List Int} {xs:List Value} {v vo:Value} (s:MSt w rb ob W rows out xs v vo) {ds:List Nat} (h:Mk ds W):∀ d∈ds,¬ MF rb ob v vo d:=by
 rintro d hd ((rfl | e) | (rfl | e))
 ·have:=h _ hd;rw [s.rest.box] at this;cases this
 ·rcases s.rest.row.2 with ⟨e2,-⟩ | ⟨g,cap,cur,e2,-,hg,-⟩
  ·rw [e2] at e;cases e
  ·rw [e2] at e;cases e
   have:=h _ hd;rw [hg] at this;cases this
 ·have:=h _ hd;rw [s.out.box] at this;cases this
 ·rcases s.out.row.2 with ⟨e2,-⟩ | ⟨g,cap,cur,e2,-,hg,-⟩
  ·rw [e2] at e;cases e
  ·rw [e2] at e;cases e
   have:=h _ hd;rw [hg] at this;cases this
theorem leaves_marks {F:Fence} {n:Nat} {P:Program} {fn:Func} {tmps:Array Value} {R:Ending→World→Prop} (Pw:World→Prop) (hend:∀ w,Pw w→LeavesInM F n P fn tmps R [] .returning w) :
  ∀ (ds:List Nat) (w:World),ds.Nodup→Mk ds w→(∀ d∈ds,∀ w,Pw w→Pw (w.putObj d (.deferred none)))→Pw w→LeavesInM F n P fn tmps R (ds.map mark) .returning w
 | [],w,_,_,_,hw=>hend w hw
 | d :: ds,w,hn,hm,hp,hw=>by
  have hnd:=List.nodup_cons.1 hn
  refine ⟨by simp,.inl ⟨_,_,rfl,run_takeDeferred (hm d List.mem_cons_self),?_⟩⟩
  refine leaves_marks Pw hend ds _ hnd.2 (fun e he=>?_) (fun e he=>hp e (List.mem_cons_of_mem _ he)) (hp d List.mem_cons_self w hw)
  exact (World.putObj_heap_other (fun h=>hnd.1 (by rw [← h];exact he))).trans (hm e (List.mem_cons_of_mem _ he))
structure MI (w:World) (ds:List Nat) (rb ob eb hb B:Nat) (rows:List (List Int)) (out:List Int) (xs:List Value) (v vo:Value) (k:Nat) (F:Foot) (W:World):Prop where
 s:MSt w rb ob W rows out xs v vo
 e:W.heap[eb]?=some (.cells #[.bool (decide (k=0))] 4 (0,0))
 h:W.cell? ⟨hb,0,none⟩=some v
 n:∀ x∈(headsOf rows).take k,behindB rows x=true
 cov:∀ b,b < B→F b
 lt:∀ b,F b→b < W.heap.size
 small:w.heap.size≤B∧eb < B∧hb < B∧∀ b,MF rb ob v vo b→b < B
 ap:¬ MF rb ob v vo eb∧¬ MF rb ob v vo hb∧eb≠hb
 mks:Mk ds W∧∀ d∈ds,d < B
structure MX (w:World) (ds:List Nat) (rb ob B:Nat) (rows:List (List Int)) (out:List Int) (v:Value) (c:Code) (F:Foot) (W:World):Prop where
 c:c=Code.exit 1
 s:∃ (x:Int) (xs:List Value) (vo:Value),(headsOf rows).find? (fun x=>!behindB rows x)=some x∧MSt w rb ob W (stepR rows x) (out++[x]) xs v vo∧∀ b,MF rb ob v vo b→F b
 cov:∀ b,b < B→F b
 lt:∀ b,F b→b < W.heap.size
 small:w.heap.size≤B
 mks:Mk ds W∧∀ d∈ds,d < B
theorem find_first {l:List Int} {p:Int→Bool} {k:Nat} {x:Int} (h1:∀ y∈l.take k,p y=false) (h2:l[k]?=some x) (h3:p x=true):l.find? p=some x:=by
 induction l generalizing k with
 | nil=>simp at h2
 | cons y t ih =>
  cases k with
  | zero=>simp at h2;subst h2;simp [h3]
  | succ k =>
   have hy:p y=false:=h1 y (by simp)
   rw [List.find?_cons,hy]
   exact ih (k:=k) (fun z hz=>h1 z (by simp [hz])) (by simpa using h2)
theorem MSt.push {w W:World} {rb ob:Nat} {rows:List (List Int)} {out:List Int} {xs:List Value} {v vo:Value} (s:MSt w rb ob W rows out xs v vo) (h:Int) (hl:out.length≤1048576) :
  ∃ g' cap' w4,(Builtin.append_ #[114,114] 114 #[vo,.slice (some ⟨W.heap.size,0,none⟩) 1 1]).run Tryz.prog (W.alloc (.cells #[.int .i64 h] 2))=.ok (.slice (some ⟨g',0,none⟩) (out.length + 1) cap') w4 ∧
   w4.cell? ⟨ob,0,none⟩=some vo∧w4.frozen? ⟨ob,0,none⟩=false∧MSt w rb ob (w4.setCell ⟨ob,0,none⟩ (.slice (some ⟨g',0,none⟩) (out.length + 1) cap')) rows (out++[h]) xs v (.slice (some ⟨g',0,none⟩) (out.length + 1) cap') ∧
   (∀ G:Foot,(∀ b,MF rb ob v vo b→G b)→(∀ b,G b→b < W.heap.size)→Step W.heap.size G W (w4.setCell ⟨ob,0,none⟩ (.slice (some ⟨g',0,none⟩) (out.length + 1) cap')) (fun b=>G b∨b=g'))∧∀ ds,Mk ds W→Mk ds (w4.setCell ⟨ob,0,none⟩ (.slice (some ⟨g',0,none⟩) (out.length + 1) cap')):=by
 obtain ⟨i0,hi,hz0,hz1,hz2⟩:=info_parts Tryz.infoI
 obtain ⟨g',cap',w4,hap,d1,d2,hsz4,hC3,hstep⟩:=s.out.app 114 i0 _ 8 Tryz.underlying114 hi hz0 hz1 hz2 rfl (by decide) [.int .i64 h] rfl (by intro u hu;simp at hu;rw [hu];rfl) (by unfold maxLen;omega) (by omega) s.bl.sz (by decide)
 obtain ⟨F',hst,hF'⟩:=hstep (CFoot ob vo) (fun b hb=>hb) s.out.lt
 have hg:CFoot ob vo g'∨W.heap.size≤g':=hst.foot g' ((hF' g').2 (.inr rfl))
 have hcs:=s.bl.sz
 have hoth:∀ b,b < W.heap.size→¬ CFoot ob vo b→(w4.setCell ⟨ob,0,none⟩ (.slice (some ⟨g',0,none⟩) (out.length + 1) cap')).heap[b]?=W.heap[b]?:=fun b h1 h2=>hst.block b h1 h2
 have hof:∀ b,CFoot ob vo b→w.heap.size≤b:=fun b hb=>s.foot b (.inr hb)
 refine ⟨g',cap',w4,hap _,d1,d2,⟨⟨hst.os.trans s.bl.os,hst.tape.trans s.bl.tape,hst.output.trans s.bl.output,Nat.le_trans hcs hst.size,fun b hb=>(hoth b (by omega) (fun hc=>by have:=hof b hc;omega)).trans (s.bl.at hb)⟩,s.rest.keep fun b hb=>hoth b (s.rest.lt b hb) (s.ap b hb),s.ix,by simpa [Wait,ints] using hC3,fun b hb hc=>?_,s.ge⟩,fun G h1 h2=>?_,fun ds hm d hd=>(hoth d (hm.lt d hd) (fun hc=>s.nomark hm d hd (.inr hc))).trans (hm d hd)⟩
 ·rcases hc with hc | hc
  ·exact s.ap b hb (.inl hc)
  ·have e2:g'=b:=by injection hc
   subst e2
   rcases hg with hg | hg
   ·exact s.ap _ hb hg
   ·have:=s.rest.lt _ hb;omega
 ·refine ⟨hst.os,hst.tape,hst.output,hst.size,fun b q1 q2=>hoth b q1 (fun hc=>q2 (h1 b (.inr hc))),?_,?_⟩
  ·rintro b (hb | rfl)
   ·exact .inl hb
   ·exact hg.imp (fun hc=>h1 _ (.inr hc)) id
  ·rintro b (hb | rfl)
   ·exact Nat.lt_of_lt_of_le (h2 b hb) hst.size
   ·exact hst.lt _ ((hF' _).2 (.inr rfl))
theorem MSt.setRow {w W:World} {rb ob:Nat} {rows:List (List Int)} {out:List Int} {xs:List Value} {vo:Value} {g n c:Nat} (s:MSt w rb ob W rows out xs (.slice (some ⟨g,0,none⟩) n c) vo) {i:Nat} {y:Value} {r:List Int} (hy:Ix (fun _=>False) w y r) :
  MSt w rb ob (W.setCell ⟨g,i,none⟩ y) (rows.set i r) out (xs.set i y) (.slice (some ⟨g,0,none⟩) n c) vo:=by
 have hgf:CFoot rb (.slice (some ⟨g,0,none⟩) n c) g:=.inr rfl
 have hne:g≠rb:=by
  rintro rfl
  rcases s.rest.row.2 with ⟨e,-⟩ | ⟨g',cap',cur,e,-,q2,-⟩
  ·cases e
  ·cases e
   rw [s.rest.box] at q2
   injection q2 with q2
   injection q2 with _ e2 _;exact absurd e2 (by decide)
 have hw:=s.foot g (.inl hgf)
 have hoth:∀ b,b≠g→(W.setCell ⟨g,i,none⟩ y).heap[b]?=W.heap[b]?:=fun b h=>Below.heap_setCell _ _ _ _ h
 have hn:rows.length=n:=by
  rcases s.rest.row.2 with ⟨e,-⟩ | ⟨g',cap',cur,e,-⟩
  ·cases e
  ·cases e;rfl
 refine ⟨s.bl.set' _ hw _,⟨(hoth rb hne.symm).trans s.rest.box,?_⟩,fun j z q hz hq=>?_,s.out.keep fun b hb=>hoth b (fun e=>s.ap g hgf (by rw [← e];exact hb)),s.ap,s.ge⟩
 ·rw [List.length_set]
  have:=s.rest.row
  rw [hn] at this ⊢
  exact (this.stored i y).1
 ·by_cases e:i=j
  ·subst e
   have h1:=(List.getElem?_eq_some_iff.1 hz).1
   have h2:=(List.getElem?_eq_some_iff.1 hq).1
   rw [List.length_set] at h1 h2
   rw [List.getElem?_set_self h1] at hz
   rw [List.getElem?_set_self h2] at hq
   cases hz;cases hq;exact hy
  ·rw [List.getElem?_set_ne e] at hz hq
   exact s.ix j z q hz hq
def mixed (rows:List (List Int)) (m:Int) (i:Nat):List (List Int):=(rows.take i).map (stepRow m)++rows.drop i
theorem mixed_zero (rows:List (List Int)) (m:Int):mixed rows m 0=rows:=by simp [mixed]
theorem mixed_all {rows:List (List Int)} {m:Int} {n:Nat} (h:n=rows.length):mixed rows m n=stepR rows m:=by subst h;simp [mixed,stepR]
theorem mixed_len (rows:List (List Int)) (m:Int) (i:Nat):(mixed rows m i).length=rows.length:=by simp [mixed];omega
theorem mixed_at {rows:List (List Int)} {m:Int} {i:Nat} {r:List Int} (h:rows[i]?=some r):(mixed rows m i)[i]?=some r:=by
 have:=(List.getElem?_eq_some_iff.1 h).1
 unfold mixed
 rw [List.getElem?_append_right (by simp;omega)]
 simp [Nat.min_eq_left (Nat.le_of_lt this),h]
theorem mixed_succ {rows:List (List Int)} {m:Int} {i:Nat} {r:List Int} (h:rows[i]?=some r):mixed rows m (i + 1)=(mixed rows m i).set i (stepRow m r):=by
 have hlt:=(List.getElem?_eq_some_iff.1 h).1
 unfold mixed
 rw [List.set_append_right _ _ (by simp;omega)]
 have e:rows.drop i=r :: rows.drop (i + 1):=by
  rw [List.drop_eq_getElem_cons hlt];congr 1;exact (List.getElem?_eq_some_iff.1 h).2
 rw [e,List.take_add_one,h]
 simp [Nat.min_eq_left (Nat.le_of_lt hlt)]
theorem Wait.ix {wb base:Nat} {wait:List Int} {v:Value} {w:World} (h:Wait wb base wait v w):Ix (fun b=>b < base) w v wait:=by
 have hr:=h.row
 refine ⟨?_,fun b o n c e hb=>?_⟩
 ·rcases hr.2 with ⟨rfl,h0⟩ | ⟨g,cap,cur,rfl,h1,hg,h2,h3,h4,h5⟩
  ·exact .inl ⟨rfl,List.eq_nil_of_length_eq_zero h0⟩
  ·refine .inr ⟨g,0,cap,rfl,(zN hg).1,h2,h3,fun j n hj=>?_⟩
   rw [Nat.zero_add,hr.cellAt j (by have:=(List.getElem?_eq_some_iff.1 hj).1;omega)]
   simp [ints,hj]
 ·rcases hr.2 with ⟨rfl,-⟩ | ⟨g,cap,cur,rfl,h1,-⟩
  ·cases e
  ·cases e;omega
theorem Ix.put {F:Foot} {w:World} {a:Option Addr} {n c:Nat} {l:List Int} (h:Ix F w (.slice a n c) l) {d:Nat} (hd:∀ b o,a=some ⟨b,o,none⟩→b≠d) (o:Obj):Ix F (w.putObj d o) (.slice a n c) l:=by
 refine ⟨h.is.elim .inl fun ⟨b,o',c',e,h1,h2,h3,h4⟩=>.inr ⟨b,o',c',e,by rw [putObj_size];exact h1,h2,h3,fun j m hj=>?_⟩,h.out⟩
 have hne:b≠d:=by injection e with e1 _ _;exact hd b o' e1
 rw [World.cell?_of_block (w:=w) (a:=⟨b,o' + j,none⟩) (World.putObj_heap_other hne)]
 exact h4 j m hj
theorem Bl.put {a w:World} (h:Bl a w) {d:Nat} (hd:a.heap.size≤d) (o:Obj):Bl a (w.putObj d o) :=
 ⟨h.os,h.tape,h.output,by rw [putObj_size];exact h.sz,fun b hb=>(World.putObj_heap_other (by omega)).trans (h.at hb)⟩
end
end Go.Proofs.YtbbokgpklihkoaaGreatDoor.W
