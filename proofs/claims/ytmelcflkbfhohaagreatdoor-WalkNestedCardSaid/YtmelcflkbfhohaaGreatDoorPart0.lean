/- Map Abs Mem EvT EvV EvM0 EvM EvO -/
import Derived.WalkKit
import Derived.Below
import Derived.MapKept
import Derived.Laws.StructEq
import Derived.Lib.Hide
import Derived.Test.YtmelcflkbfhohaaGreatDoorProg
import Derived.BigQuiet
import Derived.Deep.QuietTactic
import Derived.Deep.Draws
import Derived.Outline
import Derived.Laws.AppendOwn
import Derived.Laws.OwnMore
import Derived.Maps.AppendAt
set_option linter.unusedVariables false
set_option linter.unusedSimpArgs false
namespace Go.Proofs.YtmelcflkbfhohaaGreatDoor.W
section
open Go.RowKit
section
variable {α β:Type}
structure Ents (ek:α→Value) (ev:β→Value) (es:List MapEntry) (l:List (α × β)):Prop where
 keys:es.map (·.key)=l.map fun p=>ek p.1
 vals:es.map (·.val)=l.map fun p=>ev p.2
variable {ek:α→Value} {ev:β→Value}
theorem Ents.nil:Ents ek ev [] []:=⟨rfl,rfl⟩
theorem Ents.length {es:List MapEntry} {l:List (α × β)} (h:Ents ek ev es l):es.length=l.length:=by
 have:=congrArg List.length h.keys
 simpa using this
theorem Ents.cons {e:MapEntry} {es:List MapEntry} {p:α × β} {l:List (α × β)} (h:Ents ek ev (e :: es) (p :: l)):e.key=ek p.1∧e.val=ev p.2∧Ents ek ev es l:=by
 have h1:=h.keys
 have h2:=h.vals
 simp only [List.map_cons,List.cons.injEq] at h1 h2
 exact ⟨h1.1,h2.1,⟨h1.2,h2.2⟩⟩
theorem Ents.push {es:List MapEntry} {l:List (α × β)} (h:Ents ek ev es l) {e:MapEntry} {p:α × β} (h1:e.key=ek p.1) (h2:e.val=ev p.2):Ents ek ev (es++[e]) (l++[p]) :=
 ⟨by simp [h.keys,h1],by simp [h.vals,h2]⟩
end
section
variable {α β:Type} [DecidableEq α]
def get:List (α × β)→α→Option β
 | [],_=>none
 | (k,v) :: t,a=>if k=a then some v else get t a
def put:List (α × β)→α→β→List (α × β)
 | [],a,b=>[(a,b)]
 | (k,v) :: t,a,b=>if k=a then (k,b) :: t else (k,v) :: put t a b
def del:List (α × β)→α→List (α × β)
 | [],_=>[]
 | (k,v) :: t,a=>if k=a then t else (k,v) :: del t a
def fnd:List α→α→Option Nat
 | [],_=>none
 | k :: t,a=>if k=a then some 0 else (fnd t a).map (· + 1)
structure Key (P:Program) (K:TypeId) (ek:α→Value):Prop where
 check:∀ b a w,(Instr.checkKey b 10000 K (ek a)).run P w=.ok () w
 find:∀ (a:α) (es:List MapEntry) (ks:List α) (w:World),es.map (·.key)=ks.map ek →
  (Instr.findKey K (ek a) es).run P w=.ok ((fnd ks a).map fun i=>(i,(es.getD i default).val)) w
 bits:∀ a,Instr.sameBits 10000 (ek a) (ek a)=true
variable {ek:α→Value} {ev:β→Value}
end
section
variable {α β:Type} [DecidableEq α] {P:Program} {T K E:TypeId} {ek:α→Value} {ev:β→Value} {w:World} {b c:Nat} {es:Array MapEntry} {l:List (α × β)}
def Born (es:Array MapEntry) (c:Nat):Prop:=(∀ x∈es.toList,x.born < c)∧(es.toList.map (·.born)).Nodup
theorem Born.nil (c:Nat):Born #[] c:=⟨by simp,by simp⟩
theorem Born.push {es:Array MapEntry} {c:Nat} (h:Born es c) (k v:Value):Born (es.push { key:=k,val:=v,born:=c }) (c + 1):=by
 refine ⟨fun x hx=>?_,?_⟩
 ·simp only [Array.toList_push,List.mem_append,List.mem_singleton] at hx
  rcases hx with hx | hx
  ·exact Nat.lt_succ_of_lt (h.1 x hx)
  ·rw [hx];exact Nat.lt_succ_self _
 ·rw [Array.toList_push,List.map_append,List.nodup_append]
  refine ⟨h.2,by simp,?_⟩
  intro a ha b hb
  simp only [List.map_cons,List.map_nil,List.mem_singleton] at hb
  obtain ⟨x,hx,rfl⟩:=List.mem_map.1 ha
  have:=h.1 x hx
  omega
end
end
section
open Go.RowKit
structure V where
 k:Int
 n:Int
 s:List UInt8
deriving DecidableEq
abbrev V.nil:V:=⟨0,0,[]⟩
structure Exc where
 name:List UInt8
 arg:V
 has:Bool
deriving DecidableEq
abbrev Exc.nil:Exc:=⟨[],V.nil,false⟩
structure Act where
 kind:Int
 code:Int
 after:Int
 v:V
 keep:V
 args:List V
 cells:List V
deriving DecidableEq
@[reducible] def bs (l:List UInt8):ByteArray:=⟨l.toArray⟩
abbrev Row:=List (V × V)
structure Ob where
 kind:Int
 name:List UInt8
 num:Int
 items:List V
 d:Row
structure Hp where
 all:List (Int × Ob)
 refs:Int→Int
 last:Int
def keyB (v:V):Bool :=
 if v.k=0 then decide (v=V.nil) else if v.k=1 then decide (v.s=[]) && (decide (v.n=0) || decide (v.n=1)) else if v.k=2 then decide (v.s=[])
 else if v.k=3 then decide (v.n=0) else false
def dputB (d:Row) (k:V):Bool:=(get d k).isSome || (keyB k && decide (d.length < 4096))
def Hp.of (h:Hp) (v:V):Option Ob:=if v.k=4 then get h.all v.n else none
def upd (r:Int→Int) (n:Int) (x:Int):Int→Int:=fun m=>if m=n then x else r m
def hold (by_:Int):(Int→Int)→List V→Int→Int
 | r,[]=>r
 | r,v :: t=>hold by_ (if v.k=4 then upd r v.n (wrap64 (r v.n + by_)) else r) t
def Hp.set (h:Hp) (v:V) (o:Ob):Hp:={ h with all:=put h.all v.n o }
def Hp.kind (h:Hp) (v:V):Int:=match h.of v with | some o=>o.kind | none=>0
def Hp.name (h:Hp) (v:V):List UInt8:=match h.of v with | some o=>o.name | none=>[]
def Hp.num (h:Hp) (v:V):Int:=match h.of v with | some o=>o.num | none=>0
def Hp.items (h:Hp) (v:V):List V:=match h.of v with | some o=>o.items | none=>[]
def Hp.len (h:Hp) (v:V):Nat:=(h.items v).length
def Hp.at (h:Hp) (v:V) (i:Int):V × Bool :=
 match h.of v with
 | some o=>if 0≤i∧i < o.items.length then (o.items.getD i.toNat V.nil,true) else (V.nil,false)
 | none=>(V.nil,false)
def Hp.replace (h:Hp) (v:V) (a b:Int) (l:List V):Hp × Bool :=
 match h.of v with
 | some o=>if 0≤a∧a≤b∧b≤o.items.length then
   ({ h.set v { o with items:=o.items.take a.toNat++l++o.items.drop b.toNat } with refs:=hold (-1) (hold 1 h.refs l) ((o.items.take b.toNat).drop a.toNat) },true) else (h,false)
 | none=>(h,false)
def Hp.get (h:Hp) (v key:V):V × Bool:=match h.of v with | some o=>((W.get o.d key).getD V.nil,(W.get o.d key).isSome) | none=>(V.nil,false)
def Hp.put (h:Hp) (v key x:V):Hp × Bool :=
 match h.of v with
 | some o =>
  if dputB o.d key then
   ({ h.set v { o with d:=W.put o.d key x } with refs:=(match W.get o.d key with | some was=>hold (-1) (hold 1 h.refs [x]) [was] | none=>hold 1 h.refs [x]) },true)
  else (h,false)
 | none=>(h,false)
def Hp.del (h:Hp) (v key:V):Hp × Bool :=
 match h.of v with
 | some o=>match W.get o.d key with
  | some was=>({ h.set v { o with d:=W.del o.d key } with refs:=hold (-1) h.refs [was] },true)
  | none=>(h,false)
 | none=>(h,false)
def Hp.keys (h:Hp) (v:V):List V:=match h.of v with | some o=>o.d.map (·.1) | none=>[]
def Hp.size (h:Hp) (v:V):Nat:=match h.of v with | some o=>o.d.length | none=>0
def Ob.values (o:Ob):List V:=o.items++o.d.map (·.2)
def Hp.drop (h:Hp) (n:Int):Hp × List V :=
 match W.get h.all n with
 | some o=>({ h with all:=W.del h.all n,refs:=hold (-1) h.refs o.values },o.values)
 | none=>(h,[])
def Hp.live (h:Hp) (kind:Int):Nat:=(h.all.filter fun p=>decide (kind=0) || decide (p.2.kind=kind)).length
end
section
open Go.RowKit
abbrev V.cs (v:V):List Value:=[.int .i64 v.k,.int .i64 v.n,.string (bs v.s)]
def Bl (w w':World):Prop:=Below w.heap.size w w'
theorem Bl.trans {a b c:World} (h:Bl a b) (k:Bl b c):Bl a c:=Below.trans h (Below.mono k (Below.size h))
theorem Bl.sz {w w':World} (h:Bl w w'):w.heap.size≤w'.heap.size:=Below.size h
theorem Bl.at {w w':World} (h:Bl w w') {b:Nat} (hb:b < w.heap.size):w'.heap[b]?=w.heap[b]?:=Below.block h b hb
structure Step (B:Nat) (F:Nat→Prop) (w w':World) (F':Nat→Prop):Prop where
 os:w'.os=w.os
 tape:w'.tape=w.tape
 output:w'.output=w.output
 size:w.heap.size≤w'.heap.size
 block:∀ k,k < B→¬ F k→w'.heap[k]?=w.heap[k]?
 foot:∀ k,F' k→F k∨B≤k
 lt:∀ k,F' k→k < w'.heap.size
section
variable {B:Nat} {F F1 F2:Nat→Prop} {a w w1 w2:World}
theorem Step.alloc (h:Step B F a w F1) (hB:B≤w.heap.size) (o:Obj):Step B F a (w.alloc o) F1 :=
 ⟨h.os,h.tape,h.output,by rw [World.size_alloc];exact Nat.le_succ_of_le h.size,fun k hk hf=>(Below.heap_alloc w o k (Nat.lt_of_lt_of_le hk hB)).trans (h.block k hk hf),h.foot,
  fun k hk=>by rw [World.size_alloc];exact Nat.lt_succ_of_lt (h.lt k hk)⟩
theorem Step.setCell (h:Step B F a w F1) {p:Addr} (hp:B≤p.block∨F p.block) (u:Value):Step B F a (w.setCell p u) F1 :=
 ⟨h.os,h.tape,h.output,by rw [World.size_setCell];exact h.size,fun k hk hf=>(Below.heap_setCell w p u k (by
  rintro rfl
  rcases hp with hp | hp
  ·omega
  ·exact hf hp)).trans (h.block k hk hf),h.foot,fun k hk=>by rw [World.size_setCell];exact h.lt k hk⟩
theorem Step.bl (h:Step B F a w F1) (hb:Bl w w1) (hB:B≤w.heap.size):Step B F a w1 F1 :=
 ⟨hb.os.trans h.os,hb.tape.trans h.tape,hb.output.trans h.output,Nat.le_trans h.size hb.sz,fun k hk hf=>(hb.at (Nat.lt_of_lt_of_le hk hB)).trans (h.block k hk hf),h.foot,
  fun k hk=>Nat.lt_of_lt_of_le (h.lt k hk) hb.sz⟩
theorem Step.call (h:Step B F a w F1) (hB:B≤w.heap.size) (k:Step w.heap.size F1 w w1 F2):Step B F a w1 F2 :=
 ⟨k.os.trans h.os,k.tape.trans h.tape,k.output.trans h.output,Nat.le_trans h.size k.size,
  fun i hi hf=>(k.block i (Nat.lt_of_lt_of_le hi hB) (fun hf1=>(h.foot i hf1).elim hf (by omega))).trans (h.block i hi hf),
  fun i hi=>(k.foot i hi).elim (fun h1=>h.foot i h1) (fun h1=>.inr (Nat.le_trans hB h1)),k.lt⟩
def Loc (F:Nat→Prop) (w:World) (b:Nat):Prop:=b < w.heap.size∧¬ F b
theorem Loc.alloc {b:Nat} (h:Loc F w b) (o:Obj):Loc F (w.alloc o) b:=⟨by rw [World.size_alloc];exact Nat.lt_succ_of_lt h.1,h.2⟩
theorem Loc.setCell {b:Nat} (h:Loc F w b) (p:Addr) (u:Value):Loc F (w.setCell p u) b:=⟨by rw [World.size_setCell];exact h.1,h.2⟩
theorem Loc.bl {b:Nat} (h:Loc F w b) (k:Bl w w1):Loc F w1 b:=⟨Nat.lt_of_lt_of_le h.1 k.sz,h.2⟩
theorem Loc.block {b:Nat} (h:Loc F w b) (k:Step w.heap.size F w w1 F1):w1.heap[b]?=w.heap[b]?:=k.block b h.1 h.2
end
theorem cell_of {w:World} {b o:Nat} {arr:Array Value} {t:TypeId} {fr:Nat × Nat} (h:w.heap[b]?=some (.cells arr t fr)):w.cell? ⟨b,o,none⟩=arr[o]?:=by
 simp [World.cell?,h]
theorem beq_bs (a b:List UInt8):(bs a == bs b)=decide (a=b):=by
 rw [beq_toListBytes,ByteArray.toList_eq,ByteArray.toList_eq]
 by_cases h:a=b<;>simp [h]
theorem zG {α:Type}:(∀ (xs:List α) (i:Nat),xs.toArray[i]?=xs[i]?)∧(∀ (a:α) (l:List α) (i:Nat),(a :: l)[i + 1]?=l[i]?)∧∀ (a:α) (l:List α),(a :: l)[0]?=some a :=
 ⟨fun _ _=>List.getElem?_toArray,fun _ _ _=>rfl,fun _ _=>rfl⟩
theorem zS {α:Type}:(∀ (l:List α),l.toArray.size=l.length)∧(∀ (a:α) (l:List α),(a :: l).length=l.length + 1)∧([]:List α).length=0∧(∀ (n:Nat) (a:α),Array.replicate (n + 1) a=(Array.replicate n a).push a)∧(∀ (a:α),Array.replicate 0 a=#[]) ∧
  (∀ (l:List α) (a:α),l.toArray.push a=(l++[a]).toArray)∧(∀ (l m:List α),l.toArray++m.toArray=(l++m).toArray)∧(∀ (l:List α),[]++l=l)∧∀ (a:α) (l m:List α),(a :: l)++m=a :: (l++m) :=
 ⟨fun _=>rfl,fun _ _=>rfl,rfl,fun _ _=>Array.replicate_succ,fun _=>Array.replicate_zero,fun _ _=>List.push_toArray _ _,fun _ _=>List.append_toArray _ _,fun _=>rfl,fun _ _ _=>rfl⟩
theorem zH {p:Prop} (h:p):Go.RowKit.Hid p:=h
theorem zN {α:Type} {xs:Array α} {i:Nat} {b:α} (h:xs[i]?=some b):∃ h':i < xs.size,xs[i]=b:=Array.getElem?_eq_some_iff.1 h
theorem zL (w:World) (o:Obj):(w.alloc o).heap.size=w.heap.size + 1:=World.size_alloc ..
theorem zB {a b:Nat} (h:Nat.ble a b=true):a≤b:=Nat.le_of_ble_eq_true h
end
end Go.Proofs.YtmelcflkbfhohaaGreatDoor.W
namespace Go.Proofs.YtmelcflkbfhohaaGreatDoor.W.E
section
inductive T (α:Type) where
 | e
 | n (l:T α) (v:Option α) (r:T α)
inductive Pth where
 | z
 | l (p:Pth)
 | r (p:Pth)
def pthF (f:Nat):Nat→Pth:=Nat.rec (fun _=>.z) (fun _ ih k=>Nat.casesOn k .z (fun k=>Nat.casesOn (Nat.mod k 2) (.r (ih (Nat.div k 2))) (fun _=>.l (ih (Nat.div k 2))))) f
def pth (k:Nat):Pth:=pthF k k
abbrev TMax:Nat:=1000000
def T.getF {α:Type} (f:Nat):T α→Pth→Option α :=
 Nat.rec (fun _ _=>none) (fun _ ih t p=>T.casesOn t none (fun l v r=>Pth.casesOn p v (fun q=>ih l q) (fun q=>ih r q))) f
def T.get {α:Type} (t:T α) (k:Nat):Option α:=T.getF (nat_lit 21) t (pth k)
def T.updF {α:Type} (x:Option α) (f:Nat):Pth→T α→T α :=
 Nat.rec (fun _ t=>t) (fun _ ih p t=>Pth.casesOn p (T.casesOn t (.n .e x .e) (fun l _ r=>.n l x r))
  (fun q=>T.casesOn t (.n (ih q .e) none .e) (fun l v r=>.n (ih q l) v r))
  (fun q=>T.casesOn t (.n .e none (ih q .e)) (fun l v r=>.n l v (ih q r)))) f
def T.upd {α:Type} (t:T α) (k:Nat) (x:Option α):T α:=T.updF x (nat_lit 21) (pth k) t
theorem beq_dec (a b:Nat):Nat.beq a b=decide (a=b):=by
 by_cases h:a=b
 ·subst h;simp
 ·rw [decide_eq_false h]
  cases hq:Nat.beq a b with
  | false=>rfl
  | true=>exact absurd (Nat.eq_of_beq_eq_true hq) h
theorem pthF_succ (f k:Nat):pthF (f + 1) (k + 1)=if k % 2=0 then .r (pthF f (k / 2)) else .l (pthF f (k / 2)):=by
 show Nat.casesOn (motive:=fun _=>Pth) (k % 2) (Pth.r (pthF f (k / 2))) (fun _=>Pth.l (pthF f (k / 2)))=_
 cases k % 2 with
 | zero=>rfl
 | succ n=>rfl
theorem pthF_zero (f:Nat):pthF f 0=.z:=by cases f<;>rfl
theorem pthF_more:∀ (f g k:Nat),k≤f→k≤g→pthF f k=pthF g k
 | f,g,0,_,_=>by rw [pthF_zero,pthF_zero]
 | f + 1,g + 1,k + 1,h1,h2=>by
  rw [pthF_succ,pthF_succ,pthF_more f g (k / 2) (by omega) (by omega)]
theorem pth_zero:pth 0=.z:=rfl
theorem pth_r {k:Nat} (h:k % 2=0):pth (k + 1)=.r (pth (k / 2)):=by
 rw [pth,pthF_succ,if_pos h,pthF_more k (k / 2) (k / 2) (by omega) (Nat.le_refl _)];rfl
theorem pth_l {k:Nat} (h:¬ k % 2=0):pth (k + 1)=.l (pth (k / 2)):=by
 rw [pth,pthF_succ,if_neg h,pthF_more k (k / 2) (k / 2) (by omega) (Nat.le_refl _)];rfl
theorem pth_inj:∀ (n j k:Nat),j≤n→pth j=pth k→j=k
 | _,0,0,_,_=>rfl
 | _,0,k + 1,_,h=>by by_cases hk:k % 2=0<;>simp [pth_zero,pth_r,pth_l,hk] at h
 | _,j + 1,0,_,h=>by by_cases hj:j % 2=0<;>simp [pth_zero,pth_r,pth_l,hj] at h
 | n + 1,j + 1,k + 1,hn,h=>by
  by_cases hj:j % 2=0<;>by_cases hk:k % 2=0<;>simp only [pth_r,pth_l,hj,hk,not_false_eq_true] at h
  ·injection h with h;have:=pth_inj n (j / 2) (k / 2) (by omega) h;omega
  ·cases h
  ·cases h
  ·injection h with h;have:=pth_inj n (j / 2) (k / 2) (by omega) h;omega
def plen:Pth→Nat
 | .z=>0
 | .l p=>plen p + 1
 | .r p=>plen p + 1
theorem pth_len:∀ (j k:Nat),k + 1 < 2 ^ (j + 1)→plen (pth k)≤j
 | _,0,_=>Nat.zero_le _
 | 0,k + 1,h=>absurd h (by simp)
 | j + 1,k + 1,h=>by
  have hp:2 ^ (j + 1 + 1)=2 * 2 ^ (j + 1):=by rw [Nat.pow_succ];omega
  have ih:=pth_len j (k / 2) (by omega)
  by_cases hk:k % 2=0
  ·rw [pth_r hk];exact Nat.succ_le_succ ih
  ·rw [pth_l hk];exact Nat.succ_le_succ ih
@[simp] theorem T.get_e {α:Type} (k:Nat):(T.e:T α).get k=none:=rfl
theorem T.getF_upd_same {α:Type} (x:Option α):∀ (f:Nat) (p:Pth) (t:T α),plen p < f→T.getF f (T.updF x f p t) p=x
 | 0,_,_,h=>absurd h (Nat.not_lt_zero _)
 | f + 1,.z,t,_=>by cases t<;>rfl
 | f + 1,.l q,t,h=>by cases t<;>exact T.getF_upd_same x f q _ (Nat.lt_of_succ_lt_succ h)
 | f + 1,.r q,t,h=>by cases t<;>exact T.getF_upd_same x f q _ (Nat.lt_of_succ_lt_succ h)
theorem T.getF_e {α:Type} (f:Nat) (p:Pth):T.getF f (T.e:T α) p=none:=by cases f<;>rfl
theorem T.getF_upd_ne {α:Type} (x:Option α):∀ (f:Nat) (p q:Pth) (t:T α),q≠p→T.getF f (T.updF x f p t) q=T.getF f t q
 | 0,_,_,_,_=>rfl
 | _ + 1,.z,.z,_,h=>absurd rfl h
 | f + 1,.z,.l q,t,_=>by cases t<;>first | rfl | exact T.getF_e f q
 | f + 1,.z,.r q,t,_=>by cases t<;>first | rfl | exact T.getF_e f q
 | f + 1,.l p,.z,t,_=>by cases t<;>rfl
 | f + 1,.l p,.l q,t,h=>by
  cases t
  ·exact (T.getF_upd_ne x f p q .e (fun hq=>h (by rw [hq]))).trans (T.getF_e f q)
  ·exact T.getF_upd_ne x f p q _ (fun hq=>h (by rw [hq]))
 | f + 1,.l p,.r q,t,_=>by cases t<;>first | rfl | exact T.getF_e f q
 | f + 1,.r p,.z,t,_=>by cases t<;>rfl
 | f + 1,.r p,.l q,t,_=>by cases t<;>first | rfl | exact T.getF_e f q
 | f + 1,.r p,.r q,t,h=>by
  cases t
  ·exact (T.getF_upd_ne x f p q .e (fun hq=>h (by rw [hq]))).trans (T.getF_e f q)
  ·exact T.getF_upd_ne x f p q _ (fun hq=>h (by rw [hq]))
theorem T.upd_ne {α:Type} (t:T α) {j k:Nat} (x:Option α) (h:j≠k):(t.upd k x).get j=t.get j:=T.getF_upd_ne _ _ _ _ _ fun hq=>h (pth_inj j j k (Nat.le_refl _) hq)
theorem T.upd_same {α:Type} (t:T α) {k:Nat} (x:Option α) (h:k < TMax):(t.upd k x).get k=x:=T.getF_upd_same _ _ _ _ (Nat.lt_succ_of_le (pth_len 20 k (by simp only [TMax] at h;omega)))
theorem T.get_upd {α:Type} (t:T α) {k:Nat} (x:Option α) (h:k < TMax) (j:Nat):(t.upd k x).get j=if j=k then x else t.get j:=by
 by_cases hj:j=k
 ·subst hj;rw [if_pos rfl,T.upd_same t x h]
 ·rw [if_neg hj,T.upd_ne t x hj]
end
section
open Go.RowKit
inductive SV where
 | bool (b:Bool)
 | int (k:IntKind) (n:Int)
 | str (s:List UInt8)
 | ptr (b off:Nat)
 | sl (b off len esz:Nat) (cap:Option Nat)
 | map (b:Nat)
 | fn (f:Nat) (first caps:List SV)
 | yld (l:Nat)
 | nilp | nils | nilm | nilf | nili
 | emp (k esz:Nat)
 | we
 | iface (t:Nat) (v:SV)
 | agg (cs:List SV)
 | tup (vs:List SV)
deriving Inhabited
abbrev Env:=Nat→Option (Nat × Nat × Nat)
def Env.le (e e':Env):Prop:=∀ b x,e b=some x→e' b=some x
theorem Env.le.refl (e:Env):e.le e:=fun _ _ h=>h
theorem Env.le.trans {a b c:Env} (h:a.le b) (k:b.le c):a.le c:=fun x y q=>k x y (h x y q)
def Env.put (e:Env) (k:Nat) (x:Nat × Nat × Nat):Env:=fun b=>if b=k then some x else e b
theorem Env.le_put {e:Env} {k:Nat} (h:e k=none) (x:Nat × Nat × Nat):e.le (e.put k x):=fun b y hb=>by
 unfold Env.put
 by_cases hk:b=k
 ·subst hk;rw [h] at hb;cases hb
 ·rw [if_neg hk];exact hb
theorem Env.put_same (e:Env) (k:Nat) (x:Nat × Nat × Nat):e.put k x k=some x:=if_pos rfl
theorem Env.put_ne (e:Env) {k b:Nat} (x:Nat × Nat × Nat) (h:b≠k):e.put k x b=e b:=if_neg h
mutual
inductive VR (e:Env):SV→Value→Prop
 | bool (b:Bool):VR e (.bool b) (.bool b)
 | int (k:IntKind) (n:Int):VR e (.int k n) (.int k n)
 | str (s:List UInt8):VR e (.str s) (.string (bs s))
 | ptr {b off c o z:Nat} (h:e b=some (c,o,z)):VR e (.ptr b off) (.pointer (some ⟨c,o + off,none⟩))
 | sl {b off len esz c o z cap:Nat} {ck:Option Nat} (h:e b=some (c,o,z)) (hl:len≤cap) (hz:off + cap * esz≤z) (hm:cap≤maxLen) (hc:ck=none∨ck=some cap):VR e (.sl b off len esz ck) (.slice (some ⟨c,o + off,none⟩) len cap)
 | sle {b c o z:Nat} (off esz o':Nat) (h:e b=some (c,o,z)):VR e (.sl b off 0 esz none) (.slice (some ⟨c,o',none⟩) 0 0)
 | map {b c o z:Nat} (h:e b=some (c,o,z)):VR e (.map b) (.map (some c))
 | empn (k esz:Nat):VR e (.emp k esz) (.slice none 0 0)
 | emps {k esz c o z cap:Nat} (h:e k=some (c,o,z)) (hz:cap * esz≤z) (hm:cap≤maxLen):VR e (.emp k esz) (.slice (some ⟨c,o,none⟩) 0 cap)
 | we (a:Addr):VR e .we (.slice (some a) 0 0)
 | fn {f:Nat} {xs ys:List SV} {us vs:List Value} (h1:VRs e xs us) (h2:VRs e ys vs):VR e (.fn f xs ys) (.func (.func f) ⟨us⟩ ⟨vs⟩)
 | yld {l c o z:Nat} (h:e l=some (c,o,z)):VR e (.yld l) (.func (.yield c) #[] #[])
 | nilp:VR e .nilp (.pointer none)
 | nils:VR e .nils (.slice none 0 0)
 | nilm:VR e .nilm (.map none)
 | nilf:VR e .nilf .nilFunc
 | nili:VR e .nili .nilIface
 | iface {t:Nat} {v:SV} {u:Value} (h:VR e v u):VR e (.iface t v) (.iface t u)
 | agg {cs:List SV} {us:List Value} (h:VRs e cs us):VR e (.agg cs) (.agg ⟨us⟩)
 | tup {cs:List SV} {us:List Value} (h:VRs e cs us):VR e (.tup cs) (.tuple ⟨us⟩)
inductive VRs (e:Env):List SV→List Value→Prop
 | nil:VRs e [] []
 | cons {v:SV} {u:Value} {vs:List SV} {us:List Value} (h:VR e v u) (t:VRs e vs us):VRs e (v :: vs) (u :: us)
end
mutual
theorem VR.mono {e e':Env} (hl:e.le e'):∀ {v:SV} {u:Value},VR e v u→VR e' v u
 | _,_,.bool b=>.bool b
 | _,_,.int k n=>.int k n
 | _,_,.str s=>.str s
 | _,_,.ptr h=>.ptr (hl _ _ h)
 | _,_,.sl h h1 h2 h3 h4=>.sl (hl _ _ h) h1 h2 h3 h4
 | _,_,.sle o z a h=>.sle o z a (hl _ _ h)
 | _,_,.map h=>.map (hl _ _ h)
 | _,_,.empn k z=>.empn k z
 | _,_,.emps h h1 h2=>.emps (hl _ _ h) h1 h2
 | _,_,.we a=>.we a
 | _,_,.fn h1 h2=>.fn (VRs.mono hl h1) (VRs.mono hl h2)
 | _,_,.yld h=>.yld (hl _ _ h)
 | _,_,.nilp=>.nilp
 | _,_,.nils=>.nils
 | _,_,.nilm=>.nilm
 | _,_,.nilf=>.nilf
 | _,_,.nili=>.nili
 | _,_,.iface h=>.iface (VR.mono hl h)
 | _,_,.agg h=>.agg (VRs.mono hl h)
 | _,_,.tup h=>.tup (VRs.mono hl h)
theorem VRs.mono {e e':Env} (hl:e.le e'):∀ {v:List SV} {u:List Value},VRs e v u→VRs e' v u
 | _,_,.nil=>.nil
 | _,_,.cons h t=>.cons (VR.mono hl h) (VRs.mono hl t)
end
theorem VRs.length {e:Env}:∀ {vs:List SV} {us:List Value},VRs e vs us→vs.length=us.length
 | _,_,.nil=>rfl
 | _,_,.cons _ t=>by simp [t.length]
theorem VRs.at {e:Env}:∀ {vs:List SV} {us:List Value} (h:VRs e vs us) (j:Nat) {v:SV},vs[j]?=some v→∃ u,us[j]?=some u∧VR e v u
 | _,_,.nil,j,v,h=>by simp at h
 | _,_,.cons h t,0,v,hj=>by simp at hj;subst hj;exact ⟨_,rfl,h⟩
 | _,_,.cons h t,j + 1,v,hj=>by simp at hj;simpa using t.at j hj
theorem VRs.of_at {e:Env}:∀ {vs:List SV} {us:List Value},vs.length=us.length→(∀ (j:Nat) v u,vs[j]?=some v→us[j]?=some u→VR e v u)→VRs e vs us
 | [],[],_,_=>.nil
 | v :: vs,u :: us,hl,h=>.cons (h 0 v u rfl rfl) (VRs.of_at (by simpa using hl) fun j a b h1 h2=>h (j + 1) a b (by simpa using h1) (by simpa using h2))
 | [],_ :: _,hl,_=>by simp at hl
 | _ :: _,[],hl,_=>by simp at hl
theorem VRs.append {e:Env}:∀ {vs:List SV} {us:List Value} {vs2:List SV} {us2:List Value},VRs e vs us→VRs e vs2 us2→VRs e (vs++vs2) (us++us2)
 | _,_,_,_,.nil,k=>k
 | _,_,_,_,.cons h t,k=>.cons h (t.append k)
theorem VRs.take {e:Env}:∀ {vs:List SV} {us:List Value} (n:Nat),VRs e vs us→VRs e (vs.take n) (us.take n)
 | _,_,0,_=>by simp;exact .nil
 | _,_,n + 1,.nil=>by simp;exact .nil
 | _,_,n + 1,.cons h t=>by simp;exact .cons h (t.take n)
theorem VRs.drop {e:Env}:∀ {vs:List SV} {us:List Value} (n:Nat),VRs e vs us→VRs e (vs.drop n) (us.drop n)
 | _,_,0,h=>h
 | _,_,n + 1,.nil=>.nil
 | _,_,n + 1,.cons h t=>t.drop n
def SV.one:SV→Bool
 | .agg _=>false
 | .tup _=>false
 | _=>true
def SV.cs:SV→List SV
 | .agg cs=>cs
 | v=>[v]
theorem VR.one {e:Env} {v:SV} {u:Value} (h:VR e v u) (h1:v.one=true):u.oneCell'=true:=by
 cases h<;>first | rfl | (simp [SV.one] at h1)
theorem VR.cells {e:Env} {v:SV} {u:Value} (h:VR e v u):VRs e v.cs u.cells.toList:=by
 cases h with
 | agg h=>exact h
 | _=>refine .cons ?_ .nil;constructor<;>assumption
def sv1:Value→Option SV
 | .bool b=>some (.bool b)
 | .int k n=>some (.int k n)
 | .string s=>some (.str s.data.toList)
 | .pointer none=>some .nilp
 | .slice none 0 0=>some .nils
 | .map none=>some .nilm
 | .nilFunc=>some .nilf
 | .nilIface=>some .nili
 | _=>none
def svs:List Value→Option (List SV)
 | []=>some []
 | v :: t=>match sv1 v with
  | some x=>match svs t with
   | some l=>some (x :: l)
   | none=>none
  | none=>none
def svOf:Value→Option SV
 | .agg cs=>match svs cs.toList with
  | some l=>some (.agg l)
  | none=>none
 | .tuple vs=>match vs.toList with
  | []=>some (.tup [])
  | _=>none
 | v=>sv1 v
theorem sv1_ok {v:Value} {x:SV} (h:sv1 v=some x) (e:Env):VR e x v∧x.one=true:=by
 unfold sv1 at h
 split at h<;>first | (cases h;exact ⟨by constructor,rfl⟩) | cases h
theorem svs_ok (e:Env):∀ {l:List Value} {xs:List SV},svs l=some xs→VRs e xs l∧xs.all SV.one=true
 | [],xs,h=>by simp [svs] at h;subst h;exact ⟨.nil,rfl⟩
 | v :: t,xs,h=>by
  unfold svs at h
  split at h
  ·rename_i x hx
   split at h
   ·rename_i l hl
    cases h
    obtain ⟨h1,h2⟩:=svs_ok e hl
    obtain ⟨h3,h4⟩:=sv1_ok hx e
    exact ⟨.cons h3 h1,by simp [h4];simpa using h2⟩
   ·cases h
  ·cases h
theorem svOf_ok {v:Value} {x:SV} (h:svOf v=some x) (e:Env):VR e x v:=by
 unfold svOf at h
 split at h
 ·rename_i cs
  split at h
  ·rename_i l hl
   cases h
   exact .agg (svs_ok e hl).1
  ·cases h
 ·rename_i vs
  split at h
  ·rename_i hv
   cases h
   obtain ⟨vs⟩:=vs
   simp at hv;subst hv
   exact .tup .nil
  ·cases h
 ·exact (sv1_ok h e).1
def eqB:List UInt8→List UInt8→Bool
 | []=>fun b=>List.casesOn b true (fun _ _=>false)
 | a :: s=>fun b=>List.casesOn b false (fun x t=>cond (Nat.beq a.toNat x.toNat) (eqB s t) false)
theorem eqB_ok:∀ (s t:List UInt8),eqB s t=decide (s=t)
 | [],[]=>rfl
 | [],_ :: _=>rfl
 | _ :: _,[]=>rfl
 | a :: s,b :: t=>by
  show cond (Nat.beq a.toNat b.toNat) (eqB s t) false=_
  rw [eqB_ok s t,beq_dec]
  by_cases h1:a=b<;>by_cases h2:s=t<;>simp [h1,h2,UInt8.toNat_inj]
def kNum (k:IntKind):Nat:=IntKind.casesOn k (nat_lit 0) (nat_lit 1) (nat_lit 2) (nat_lit 3) (nat_lit 4) (nat_lit 5) (nat_lit 6) (nat_lit 7)
def kEq (k j:IntKind):Bool:=Nat.beq (kNum k) (kNum j)
theorem kEq_ok {k j:IntKind} (h:kEq k j=true):k=j:=by cases k<;>cases j<;>first | rfl | cases h
def eqI (a b:Int):Bool:=Int.casesOn a (fun m=>Int.casesOn b (fun n=>Nat.beq m n) (fun _=>false)) (fun m=>Int.casesOn b (fun _=>false) (fun n=>Nat.beq m n))
theorem eqI_eq (a b:Int):eqI a b=(a == b):=by
 cases a with
 | ofNat m=>cases b with
  | ofNat n=>show Nat.beq m n=_;rw [beq_dec,Bool.eq_iff_iff];simp [Int.ofNat_inj]
  | negSucc n=>rfl
 | negSucc m=>cases b with
  | ofNat n=>rfl
  | negSucc n=>show Nat.beq m n=_;rw [beq_dec,Bool.eq_iff_iff];simp [Int.negSucc_inj]
def optEq (a b:Option Nat):Bool:=match a with
 | none=>match b with
  | none=>true
  | some _=>false
 | some x=>match b with
  | none=>false
  | some y=>Nat.beq x y
theorem optEq_ok {a b:Option Nat} (h:optEq a b=true):a=b:=by
 cases a<;>cases b<;>first | rfl | cases h | exact congrArg some (Nat.eq_of_beq_eq_true h)
def fuelL:Nat:=200
def beqL (q:SV→SV→Bool) (f:Nat):List SV→List SV→Bool :=
 Nat.rec (fun _ _=>false) (fun _ ih a b=>List.casesOn a (List.casesOn b true (fun _ _=>false)) (fun x s=>List.casesOn b false (fun y t=>cond (q x y) (ih s t) false))) f
def SV.beq1 (q:SV→SV→Bool) (a b:SV):Bool:=match a with
 | .bool x=>match b with | .bool y=>cond x y (not y) | _=>false
 | .int k x=>match b with | .int j y=>cond (kEq k j) (eqI x y) false | _=>false
 | .str s=>match b with | .str t=>eqB s t | _=>false
 | .ptr x o=>match b with | .ptr y p=>cond (Nat.beq x y) (Nat.beq o p) false | _=>false
 | .sl a b' c d e=>match b with | .sl a2 b2 c2 d2 e2=>cond (Nat.beq a a2) (cond (Nat.beq b' b2) (cond (Nat.beq c c2) (cond (Nat.beq d d2) (optEq e e2) false) false) false) false | _=>false
 | .map x=>match b with | .map y=>Nat.beq x y | _=>false
 | .fn f x y=>match b with | .fn g u v=>cond (Nat.beq f g) (cond (beqL q fuelL x u) (beqL q fuelL y v) false) false | _=>false
 | .yld x=>match b with | .yld y=>Nat.beq x y | _=>false
 | .emp x z=>match b with | .emp y u=>cond (Nat.beq x y) (Nat.beq z u) false | _=>false
 | .nilp=>match b with | .nilp=>true | _=>false
 | .nils=>match b with | .nils=>true | _=>false
 | .nilm=>match b with | .nilm=>true | _=>false
 | .nilf=>match b with | .nilf=>true | _=>false
 | .nili=>match b with | .nili=>true | _=>false
 | .we=>false
 | .iface t v=>match b with | .iface u w=>cond (Nat.beq t u) (q v w) false | _=>false
 | .agg x=>match b with | .agg y=>beqL q fuelL x y | _=>false
 | .tup x=>match b with | .tup y=>beqL q fuelL x y | _=>false
def SV.beqN (f:Nat):SV→SV→Bool:=Nat.rec (fun _ _=>false) (fun _ ih a b=>SV.beq1 ih a b) f
def SV.beq (a b:SV):Bool:=SV.beqN (nat_lit 30) a b
theorem beqL_ok {q:SV→SV→Bool} (hq:∀ a b,q a b=true→a=b):∀ (f:Nat) {a b:List SV},beqL q f a b=true→a=b
 | 0,_,_,h=>by cases h
 | f + 1,[],[],_=>rfl
 | f + 1,[],_ :: _,h=>by cases h
 | f + 1,_ :: _,[],h=>by cases h
 | f + 1,x :: s,y :: t,h=>by
  have h':cond (q x y) (beqL q f s t) false=true:=h
  cases hx:q x y with
  | false=>rw [hx] at h';cases h'
  | true=>rw [hx] at h';rw [hq x y hx,beqL_ok hq f h']
theorem cond_and {a b:Bool} (h:cond a b false=true):a=true∧b=true:=by cases a<;>simp_all
theorem beq1_agg {q:SV→SV→Bool} (hq:∀ a b,q a b=true→a=b) {x y:List SV} (h:SV.beq1 q (.agg x) (.agg y)=true):SV.agg x=SV.agg y:=by
 have h2:beqL q fuelL x y=true:=h
 rw [beqL_ok hq fuelL h2]
theorem beq1_tup {q:SV→SV→Bool} (hq:∀ a b,q a b=true→a=b) {x y:List SV} (h:SV.beq1 q (.tup x) (.tup y)=true):SV.tup x=SV.tup y:=by
 have h2:beqL q fuelL x y=true:=h
 rw [beqL_ok hq fuelL h2]
theorem SV.beq1_ok {q:SV→SV→Bool} (hq:∀ a b,q a b=true→a=b) {a b:SV} (h:SV.beq1 q a b=true):a=b:=by
 cases a<;>cases b<;>first
  | rfl
  | (exact absurd (show false=true from h) Bool.false_ne_true)
  | (have h2:=cond_and h;rw [kEq_ok h2.1];have:=h2.2;rw [eqI_eq] at this;rw [eq_of_beq this])
  | (have h2:=cond_and h;rw [Nat.eq_of_beq_eq_true h2.1,Nat.eq_of_beq_eq_true h2.2])
  | (rw [Nat.eq_of_beq_eq_true (h:Nat.beq _ _=true)])
  | (have h2:eqB _ _=true:=h;rw [eqB_ok] at h2;rw [of_decide_eq_true h2])
  | (have h2:=cond_and h;have h3:=cond_and h2.2;have h4:=cond_and h3.2;have h5:=cond_and h4.2;rw [Nat.eq_of_beq_eq_true h2.1,Nat.eq_of_beq_eq_true h3.1,Nat.eq_of_beq_eq_true h4.1,Nat.eq_of_beq_eq_true h5.1,optEq_ok h5.2])
  | (have h2:=cond_and h;have h3:=cond_and h2.2;rw [Nat.eq_of_beq_eq_true h2.1,beqL_ok hq _ h3.1,beqL_ok hq _ h3.2])
  | (have h2:=cond_and h;rw [Nat.eq_of_beq_eq_true h2.1,hq _ _ h2.2])
  | exact beq1_agg hq h
  | exact beq1_tup hq h
  | (rename_i x y;cases x<;>cases y<;>first | rfl | cases h)
theorem SV.beqN_ok:∀ (f:Nat) {a b:SV},SV.beqN f a b=true→a=b
 | 0,_,_,h=>by cases h
 | f + 1,a,b,h=>SV.beq1_ok (fun _ _ h=>SV.beqN_ok f h) h
theorem SV.beq_ok {a b:SV} (h:SV.beq a b=true):a=b:=SV.beqN_ok _ h
end
section
open Go.RowKit
def cls:Op→Nat
 | .load ..=>1
 | .lookup ..=>1
 | .convert ..=>1
 | .makeMap _ none=>2
 | .makeMap ..=>3
 | .insert ..=>3
 | .mapUpdate ..=>3
 | .alloc ..=>2
 | .box ..=>2
 | .buildSlice ..=>2
 | .makeSlice ..=>2
 | .store ..=>3
 | .call c=>match c.callee with
  | .builtin b=>match b with
   | .len=>0
   | .cap=>0
   | .min=>0
   | .max=>0
   | _=>3
  | _=>3
 | _=>0
def tb (m i:Nat):Bool:=m.testBit i
def looksO (opl:List Oper) (o:Oper):List Operand :=
 match o.guard with
 | none=>o.op.operands.toList
 | some (j,_)=>match (opl[j]?).bind (·.dst) with
  | some d=>.tmp d :: o.op.operands.toList
  | none=>o.op.operands.toList
def depB (o:Oper) (done:Nat):Bool:=o.after.toList.all fun e=>!Region.binds .any e || tb done e.on
def depM (o:Oper):Nat:=o.after.toList.foldl (fun m e=>if Region.binds .any e then m ||| 2 ^ e.on else m) 0
def ancF (opl:List Oper):Nat→Nat→Nat
 | 0,m=>m
 | j + 1,m=>ancF opl j (if tb m j then match opl[j]? with | some o=>m ||| depM o | none=>m else m)
def anc (opl:List Oper) (i:Nat):Nat:=match opl[i]? with | some o=>ancF opl i (depM o) | none=>0
abbrev Plan:=List (Nat × Bool)
def idxs:List Oper→Nat→List (Nat × Oper)
 | [],_=>[]
 | o :: t,k=>(k,o) :: idxs t (k + 1)
def readyB (il:List (Nat × Oper)) (done x:Nat):Bool:=il.all fun p=>tb done p.1 || Nat.beq p.1 x || !depB p.2 done
def planGo (opl:List Oper) (il:List (Nat × Oper)):Plan→Nat→Bool
 | [],done=>il.all fun p=>tb done p.1
 | (i,fl) :: t,done=>match opl[i]? with
  | some o=>!tb done i && depB o done && (match fl with | true=>readyB il done i | false=>true) && planGo opl il t (done ||| 2 ^ i)
  | none=>false
def flagged (pl:Plan) (j:Nat):Bool:=pl.any fun p=>Nat.beq p.1 j && p.2
def isT (t:Tmp):Operand→Bool
 | .tmp u=>Nat.beq u t
 | _=>false
def planOk (opl:List Oper) (pl:Plan):Bool :=
 let il:=idxs opl 0
 planGo opl il pl 0 && il.all fun p=>Nat.blt (depM p.2) (2 ^ p.1) && match p.2.dst with
  | none=>true
  | some t=>il.all fun q=>(Nat.beq p.1 q.1 || match q.2.dst with | some u=>!Nat.beq t u | none=>true) &&
    (!(looksO opl q.2).any (isT t) || tb (depM q.2) p.1 || (flagged pl p.1 && tb (anc opl p.1) q.1))
def noDef:Op→Bool
 | .defer _=>false
 | _=>true
def okG (pf:Nat→Option Plan):Code→Bool
 | .region id ops draw=>(ops.toList.all fun o=>noDef o.op) && match draw with
  | false=>true
  | true=>match pf id with
   | some pl=>planOk ops.toList pl
   | none=>true
 | .seq a b=>okG pf a && okG pf b
 | .cond _ a b=>okG pf a && okG pf b
 | .block _ c=>okG pf c
 | .loop c=>okG pf c
 | .rangeFunc _ _ a b=>okG pf a && okG pf b
 | _=>true
end
section
open Go.RowKit
abbrev FootE:=Nat→Prop
inductive SB where
 | cells (c:List SV) (ro:Bool) (sib:List Nat) (ty:Option Nat)
 | map (es:List (SV × SV))
 | siter (s:List UInt8) (pos:Nat)
 | emp
 | loop (pf:Nat→Option Plan) (N:Nat) (tm:T SV) (params:List Nat) (assign body:Code) (state:LoopState) (pend:Option Code)
def SB.wr:SB→Bool
 | .cells _ ro _ _=>!ro
 | _=>true
def SB.sib:SB→List Nat
 | .cells _ _ s _=>s
 | _=>[]
def SB.len:SB→Nat
 | .cells c _ _ _=>c.length
 | _=>0
def AR (e:Env) (tm:T SV) (ts:Array Value):Prop:=∀ t v,tm.get t=some v→∃ u,ts[t]?=some u∧VR e v u
theorem AR.mono {e e':Env} {tm:T SV} {ts:Array Value} (h:AR e tm ts) (hl:e.le e'):AR e' tm ts:=fun t v hv=>let ⟨u,h1,h2⟩:=h t v hv;⟨u,h1,h2.mono hl⟩
theorem AR.put {e:Env} {tm:T SV} {ts:Array Value} (h:AR e tm ts) {d:Nat} (hd:d < ts.size) (hd2:d < TMax) {v:SV} {u:Value} (hv:VR e v u):AR e (tm.upd d (some v)) (ts.setIfInBounds d u):=by
 intro t x hx
 rw [T.get_upd _ _ hd2] at hx
 by_cases ht:t=d
 ·subst ht
  rw [if_pos rfl] at hx
  cases hx
  exact ⟨u,by simp [hd],hv⟩
 ·rw [if_neg ht] at hx
  obtain ⟨y,h1,h2⟩:=h t x hx
  exact ⟨y,by rw [Array.getElem?_setIfInBounds_ne (Ne.symm ht)];exact h1,h2⟩
def BlkR (e:Env) (w:World) (c o z:Nat):SB→Prop
 | .cells cs ro sib ty=>∃ arr t fr,w.heap[c]?=some (.cells arr t fr)∧o + z≤arr.size∧((ro=false→fr=(0,0))∧∀ T,ty=some T→t=T∧o=0)∧cs.length≤z∧∀ j v,cs[j]?=some v→v.one=true∧∃ u,arr[o + j]?=some u∧VR e v u
 | .map es=>∃ es' k,w.heap[c]?=some (.map es' k)∧VRs e (es.map (·.1)) (es'.toList.map (·.key))∧VRs e (es.map (·.2)) (es'.toList.map (·.val))
 | .siter s pos=>w.heap[c]?=some (.stringIter (bs s) pos)
 | .emp=>∃ arr t,w.heap[c]?=some (.cells arr t (0,0))∧o + z≤arr.size
 | .loop pf N tm params assign body state pend=>∃ l:Loop,w.heap[c]?=some (.loop l)∧N≤l.tmps.size∧AR e tm l.tmps∧l.params.toList=params∧l.assign=assign∧l.body=body∧l.state=state∧l.pending=pend∧okG pf assign=true∧okG pf body=true
theorem BlkR.lt {e:Env} {w:World} {c o z:Nat}:∀ {b:SB},BlkR e w c o z b→c < w.heap.size
 | .cells ..,h=>let ⟨_,_,_,h1,_⟩:=h;(zN h1).1
 | .map ..,h=>let ⟨_,_,h1,_⟩:=h;(zN h1).1
 | .siter ..,h=>(zN h).1
 | .emp,h=>let ⟨_,_,h1,_⟩:=h;(zN h1).1
 | .loop ..,h=>let ⟨_,h1,_⟩:=h;(zN h1).1
theorem BlkR.keep {e e':Env} {w w':World} {c o z:Nat} (hl:e.le e') (hc:w'.heap[c]?=w.heap[c]?):∀ {b:SB},BlkR e w c o z b→BlkR e' w' c o z b
 | .cells ..,⟨arr,t,fr,h1,h2,h3,h4,h5⟩=>⟨arr,t,fr,hc.trans h1,h2,h3,h4,fun j v hj=>let ⟨a,u,b,k⟩:=h5 j v hj;⟨a,u,b,k.mono hl⟩⟩
 | .map ..,⟨es,k,h1,h2,h3⟩=>⟨es,k,hc.trans h1,h2.mono hl,h3.mono hl⟩
 | .siter ..,h=>Eq.trans hc h
 | .emp,⟨arr,t,h1,h2⟩=>⟨arr,t,hc.trans h1,h2⟩
 | .loop ..,⟨l,h1,h2,h3,h4⟩=>⟨l,hc.trans h1,h2,h3.mono hl,h4⟩
structure EL (X:Type) where
 R:Env→X→World→FootE→Prop
 keep:∀ e x w w' F,R e x w F→w.heap.size≤w'.heap.size→(∀ b,F b→w'.heap[b]?=w.heap[b]?)→R e x w' F
 lt:∀ e x w F,R e x w F→∀ b,F b→b < w.heap.size
 mono:∀ e e' x w F,R e x w F→e.le e'→R e' x w F
structure St (X:Type) where
 m:T SB
 nx:Nat
 x:X
section
variable {X:Type} {L:EL X}
def Im (e:Env) (st:St X) (F:FootE) (c:Nat):Prop:=F c∨∃ b blk o z,st.m.get b=some blk∧e b=some (c,o,z)
structure Rl (L:EL X) (e:Env) (st:St X) (w:World) (F:FootE):Prop where
 blk:∀ b k c o z,st.m.get b=some k→e b=some (c,o,z)→¬ F c∧BlkR e w c o z k
 dis:∀ x y bx by_ c o z c' o' z',st.m.get x=some bx→st.m.get y=some by_→x≠y→bx.wr=true→e x=some (c,o,z)→e y=some (c',o',z')→c≠c'∨(y∈bx.sib∧by_.wr=false∧o' + by_.len≤o + bx.len)
 old:∀ b k,st.m.get b=some k→b < st.nx
 dom:∀ b x,e b=some x→b < st.nx
 sib:∀ x bx,st.m.get x=some bx→e x≠none→∀ y∈bx.sib,e y≠none
 ext:L.R e st.x w F
structure Nxt (B:Nat) (e:Env) (st:St X) (w:World) (F:FootE) (e':Env) (st':St X) (w':World) (F':FootE):Prop where
 le:e.le e'
 os:w'.os=w.os
 tape:w'.tape=w.tape
 output:w'.output=w.output
 size:w.heap.size≤w'.heap.size
 frame:∀ c,c < w.heap.size→¬ Im e st F c→w'.heap[c]?=w.heap[c]?
 img:∀ c,c < w.heap.size→Im e' st' F' c→Im e st F c
 und:∀ b,b < B→e b=none→e' b=none∧(st.m.get b≠some .emp→st'.m.get b=st.m.get b)
 nx:st.nx≤st'.nx
theorem Nxt.refl (B:Nat) (e:Env) (st:St X) (w:World) (F:FootE):Nxt B e st w F e st w F:=⟨.refl e,rfl,rfl,rfl,Nat.le_refl _,fun _ _ _=>rfl,fun _ _ h=>h,fun _ _ h=>⟨h,fun _=>rfl⟩,Nat.le_refl _⟩
theorem Nxt.trans {B:Nat} {e:Env} {st:St X} {w:World} {F:FootE} {e1:Env} {st1:St X} {w1:World} {F1:FootE} {e2:Env} {st2:St X} {w2:World} {F2:FootE}
  (h:Nxt B e st w F e1 st1 w1 F1) (k:Nxt B e1 st1 w1 F1 e2 st2 w2 F2):Nxt B e st w F e2 st2 w2 F2 :=
 ⟨h.le.trans k.le,k.os.trans h.os,k.tape.trans h.tape,k.output.trans h.output,Nat.le_trans h.size k.size,
  fun c hc hn=>(k.frame c (Nat.lt_of_lt_of_le hc h.size) (fun hi=>hn (h.img c hc hi))).trans (h.frame c hc hn),
  fun c hc hi=>h.img c hc (k.img c (Nat.lt_of_lt_of_le hc h.size) hi),
  fun b hb he=>let ⟨h1,h2⟩:=h.und b hb he;let ⟨k1,k2⟩:=k.und b hb h1;⟨k1,fun hne=>(k2 (by rw [h2 hne];exact hne)).trans (h2 hne)⟩,Nat.le_trans h.nx k.nx⟩
theorem Nxt.less {B B':Nat} {e:Env} {st:St X} {w:World} {F:FootE} {e1:Env} {st1:St X} {w1:World} {F1:FootE} (h:Nxt B e st w F e1 st1 w1 F1) (hB:B'≤B):Nxt B' e st w F e1 st1 w1 F1 :=
 ⟨h.le,h.os,h.tape,h.output,h.size,h.frame,h.img,fun b hb=>h.und b (Nat.lt_of_lt_of_le hb hB),h.nx⟩
def St.add (st:St X) (k:SB):St X:={ st with m:=st.m.upd st.nx (some k),nx:=st.nx + 1 }
variable {e:Env} {st:St X} {w w':World} {F:FootE}
theorem Rl.none (h:Rl L e st w F):e st.nx=none:=by
 cases hq:e st.nx with
 | none=>rfl
 | some x=>exact absurd (h.dom _ x hq) (Nat.lt_irrefl _)
theorem Rl.add (h:Rl L e st w F) (hn:st.nx < TMax) (k:SB):Rl L e (st.add k) w F:=by
 have hnone:=h.none
 have hg:∀ b x,e b≠.none→(st.add k).m.get b=some x→st.m.get b=some x:=fun b x hb hx=>by
  by_cases hq:b=st.nx
  ·subst hq;exact absurd hnone hb
  ·rwa [St.add,T.upd_ne _ _ hq] at hx
 refine ⟨fun b q c o z h1 h2=>h.blk b q c o z (hg b q (by rw [h2];nofun) h1) h2,fun x y bx by_ c o z c' o' z' h1 h2 h3 h4 h5 h6=>h.dis x y bx by_ c o z c' o' z' (hg x bx (by rw [h5];nofun) h1) (hg y by_ (by rw [h6];nofun) h2) h3 h4 h5 h6,
  fun b q hb=>?_,fun b x hb=>Nat.lt_succ_of_lt (h.dom b x hb),fun x bx h1 h2=>h.sib x bx (hg x bx h2 h1) h2,h.ext⟩
 by_cases hq:b=st.nx
 ·subst hq;exact Nat.lt_succ_self _
 ·rw [St.add,T.upd_ne _ _ hq] at hb;exact Nat.lt_succ_of_lt (h.old b q hb)
theorem Nxt.add (h:Rl L e st w F) (k:SB):Nxt st.nx e st w F e (st.add k) w F:=by
 have hnone:=h.none
 refine ⟨.refl e,rfl,rfl,rfl,Nat.le_refl _,fun _ _ _=>rfl,fun c hc hi=>?_,fun b hb he=>⟨he,fun _=>?_⟩,Nat.le_succ _⟩
 ·rcases hi with hi | ⟨b,q,o,z,h1,h2⟩
  ·exact .inl hi
  ·by_cases hq:b=st.nx
   ·subst hq;rw [hnone] at h2;cases h2
   ·rw [St.add,T.upd_ne _ _ hq] at h1;exact .inr ⟨b,q,o,z,h1,h2⟩
 ·rw [St.add,T.upd_ne _ _ (Nat.ne_of_lt hb)]
theorem Rl.mat (h:Rl L e st w F) {k:Nat} {q:SB} {obj:Obj} {z:Nat} (hk:e k=.none) (hq:st.m.get k=some q) (hs:q.sib=[]) (hb:BlkR (e.put k (w.heap.size,0,z)) (w.alloc obj) w.heap.size 0 z q) :
  Rl L (e.put k (w.heap.size,0,z)) st (w.alloc obj) F:=by
 have hl:=Env.le_put hk (w.heap.size,0,z)
 have hkeep:∀ c,c < w.heap.size→(w.alloc obj).heap[c]?=w.heap[c]?:=fun c hc=>Below.heap_alloc w obj c hc
 have hF:=L.lt _ _ _ _ h.ext
 have old:∀ {b q c o z'},st.m.get b=some q→b≠k→(e.put k (w.heap.size,0,z)) b=some (c,o,z')→e b=some (c,o,z')∧c < w.heap.size:=fun {b q c o z'} h1 h2 h3=>by
  rw [Env.put_ne _ _ h2] at h3;exact ⟨h3,(h.blk b q c o z' h1 h3).2.lt⟩
 refine ⟨fun b q' c o z' h1 h2=>?_,fun x y bx by_ c o z1 c' o' z2 h1 h2 h3 h4 h5 h6=>?_,h.old,fun b x hb=>?_,fun x bx h1 h2 y hy=>?_,?_⟩
 ·by_cases hbk:b=k
  ·subst hbk
   rw [hq] at h1;cases h1
   rw [Env.put_same] at h2;cases h2
   exact ⟨fun hf=>Nat.lt_irrefl _ (hF _ hf),hb⟩
  ·obtain ⟨h3,h4⟩:=old h1 hbk h2
   exact ⟨(h.blk b q' c o z' h1 h3).1,(h.blk b q' c o z' h1 h3).2.keep hl (hkeep c h4)⟩
 ·by_cases hx:x=k
  ·subst hx
   rw [Env.put_same] at h5;cases h5
   have:=(old h2 (Ne.symm h3) h6).2
   exact .inl (Nat.ne_of_gt this)
  ·obtain ⟨a1,a2⟩:=old h1 hx h5
   by_cases hy:y=k
   ·subst hy
    rw [Env.put_same] at h6;cases h6
    exact .inl (Nat.ne_of_lt a2)
   ·exact h.dis x y bx by_ c o z1 c' o' z2 h1 h2 h3 h4 a1 (old h2 hy h6).1
 ·by_cases hbk:b=k
  ·subst hbk;exact h.old _ _ hq
  ·rw [Env.put_ne _ _ hbk] at hb;exact h.dom b x hb
 ·by_cases hx:x=k
  ·subst hx
   rw [hq] at h1;cases h1
   rw [hs] at hy;cases hy
  ·rw [Env.put_ne _ _ hx] at h2
   have:=h.sib x bx h1 h2 y hy
   intro hn
   cases hy2:e y with
   | none=>exact this hy2
   | some v=>rw [hl y v hy2] at hn;cases hn
 ·exact L.mono _ _ _ _ _ (L.keep _ _ _ _ _ h.ext (by rw [zL];exact Nat.le_succ _) fun b hb=>hkeep b (hF b hb)) hl
theorem Nxt.mat (h:Rl L e st w F) {k z:Nat} {obj:Obj} {B:Nat} (hB:B≤k) (hk:e k=.none):Nxt B e st w F (e.put k (w.heap.size,0,z)) st (w.alloc obj) F:=by
 refine ⟨Env.le_put hk _,rfl,rfl,rfl,by rw [zL];exact Nat.le_succ _,fun c hc _=>Below.heap_alloc w obj c hc,fun c hc hi=>?_,fun b hb he=>⟨?_,fun _=>rfl⟩,Nat.le_refl _⟩
 ·rcases hi with hi | ⟨b,q,o,z',h1,h2⟩
  ·exact .inl hi
  ·by_cases hbk:b=k
   ·subst hbk;rw [Env.put_same] at h2;cases h2;exact absurd hc (Nat.lt_irrefl _)
   ·rw [Env.put_ne _ _ hbk] at h2;exact .inr ⟨b,q,o,z',h1,h2⟩
 ·rw [Env.put_ne _ _ (by omega)];exact he
def dropAll (m:T SB):List Nat→T SB
 | []=>m
 | y :: t=>dropAll (m.upd y none) t
theorem dropAll_get (m:T SB):∀ (l:List Nat) (b:Nat) (k:SB),(dropAll m l).get b=some k→(∀ y∈l,y < TMax)→m.get b=some k∧b ∉ l
 | [],b,k,h,_=>⟨h,by simp⟩
 | y :: t,b,k,h,hl=>by
  obtain ⟨h1,h2⟩:=dropAll_get (m.upd y none) t b k h fun z hz=>hl z (List.mem_cons_of_mem _ hz)
  rw [T.get_upd _ _ (hl y (List.mem_cons_self ..))] at h1
  by_cases hb:b=y
  ·rw [if_pos hb] at h1;cases h1
  ·rw [if_neg hb] at h1
   exact ⟨h1,by simp [hb,h2]⟩
theorem dropAll_out (m:T SB):∀ (l:List Nat) (b:Nat),b ∉ l→(dropAll m l).get b=m.get b
 | [],_,_=>rfl
 | y :: t,b,h=>by
  rw [dropAll,dropAll_out _ t b (fun hb=>h (List.mem_cons_of_mem _ hb)),T.upd_ne _ _ (fun e=>h (by rw [e];exact List.mem_cons_self ..))]
def St.turn (st:St X) (b:Nat) (sib:List Nat) (k:SB):St X:={ st with m:=(dropAll st.m sib).upd b (some k) }
theorem Rl.turn (h:Rl L e st w F) {b c o z:Nat} {q q':SB} (hb:st.m.get b=some q) (hw:q.wr=true) (he:e b=some (c,o,z)) (hbm:b < TMax) (hsm:q.sib.all (fun y=>Nat.blt y TMax)=true) (hq:q'.sib=[])
  (hs:w.heap.size≤w'.heap.size) (hk:∀ d,d < w.heap.size→d≠c→w'.heap[d]?=w.heap[d]?) (hB:BlkR e w' c o z q'):Rl L e (st.turn b q.sib q') w' F:=by
 have hsm':∀ y∈q.sib,y < TMax:=fun y hy=>by have:=List.all_eq_true.1 hsm y hy;simpa [Nat.blt_eq] using this
 have hg:∀ {x k},(st.turn b q.sib q').m.get x=some k→x≠b→st.m.get x=some k∧x ∉ q.sib:=fun {x k} h1 h2=>by
  rw [St.turn,T.upd_ne _ _ h2] at h1;exact dropAll_get _ _ _ _ h1 hsm'
 have hg0:(st.turn b q.sib q').m.get b=some q':=T.upd_same _ _ hbm
 have nc:∀ {x k c1 o1 z1},st.m.get x=some k→x≠b→x ∉ q.sib→e x=some (c1,o1,z1)→c1≠c:=fun {x k c1 o1 z1} h1 h2 h3 h4=>by
  rcases h.dis b x q k c o z c1 o1 z1 hb h1 (Ne.symm h2) hw he h4 with h5 | h5
  ·exact Ne.symm h5
  ·exact absurd h5.1 h3
 have hF:=h.blk b q c o z hb he
 refine ⟨fun x k c1 o1 z1 h1 h2=>?_,fun x y bx by_ c1 o1 z1 c2 o2 z2 h1 h2 h3 h4 h5 h6=>?_,fun x k h1=>?_,h.dom,fun x bx h1 h2 y hy=>?_,?_⟩
 ·by_cases hx:x=b
  ·subst hx
   rw [he] at h2;cases h2
   rw [hg0] at h1;cases h1
   exact ⟨hF.1,hB⟩
  ·obtain ⟨h3,h4⟩:=hg h1 hx
   have h5:=h.blk x k c1 o1 z1 h3 h2
   exact ⟨h5.1,h5.2.keep (.refl e) (hk c1 h5.2.lt (nc h3 hx h4 h2))⟩
 ·by_cases hx:x=b
  ·subst hx
   rw [he] at h5;cases h5
   obtain ⟨a1,a2⟩:=hg h2 (Ne.symm h3)
   exact .inl (Ne.symm (nc a1 (Ne.symm h3) a2 h6))
  ·obtain ⟨a1,a2⟩:=hg h1 hx
   by_cases hy:y=b
   ·subst hy
    rw [he] at h6;cases h6
    exact .inl (nc a1 hx a2 h5)
   ·obtain ⟨a3,a4⟩:=hg h2 hy
    exact h.dis x y bx by_ c1 o1 z1 c2 o2 z2 a1 a3 h3 h4 h5 h6
 ·by_cases hx:x=b
  ·subst hx;exact h.old _ _ hb
  ·exact h.old x k (hg h1 hx).1
 ·by_cases hx:x=b
  ·subst hx
   rw [hg0] at h1;cases h1
   rw [hq] at hy;cases hy
  ·exact h.sib x bx (hg h1 hx).1 h2 y hy
 ·exact L.keep _ _ _ _ _ h.ext hs fun d hd=>hk d (L.lt _ _ _ _ h.ext d hd) fun e=>hF.1 (by rw [← e];exact hd)
theorem Nxt.turn (h:Rl L e st w F) {b c o z:Nat} {q q':SB} {B:Nat} (hb:st.m.get b=some q) (he:e b=some (c,o,z)) (hbm:b < TMax) (hsm:q.sib.all (fun y=>Nat.blt y TMax)=true) (hs:w.heap.size≤w'.heap.size) (hk:∀ d,d < w.heap.size→d≠c→w'.heap[d]?=w.heap[d]?)
  (ho:w'.os=w.os∧w'.tape=w.tape∧w'.output=w.output):Nxt B e st w F e (st.turn b q.sib q') w' F:=by
 have hsm':∀ y∈q.sib,y < TMax:=fun y hy=>by have:=List.all_eq_true.1 hsm y hy;simpa [Nat.blt_eq] using this
 refine ⟨.refl e,ho.1,ho.2.1,ho.2.2,hs,fun d hd hn=>hk d hd fun hdc=>hn (.inr ⟨b,q,o,z,hb,by rw [hdc];exact he⟩),fun d hd hi=>?_,fun x hx hn=>⟨hn,fun _=>?_⟩,Nat.le_refl _⟩
 ·rcases hi with hi | ⟨x,k,o1,z1,h1,h2⟩
  ·exact .inl hi
  ·by_cases hx:x=b
   ·subst hx;exact .inr ⟨x,q,o1,z1,hb,h2⟩
   ·rw [St.turn,T.upd_ne _ _ hx] at h1
    exact .inr ⟨x,k,o1,z1,(dropAll_get _ _ _ _ h1 hsm').1,h2⟩
 ·have hxb:x≠b:=fun hq=>by subst hq;rw [he] at hn;cases hn
  rw [St.turn,T.upd_ne _ _ hxb]
  exact dropAll_out _ _ _ fun hm=>h.sib b q hb (by rw [he];nofun) x hm hn
end
end
section
open Go.RowKit
def evx (tm:T SV):Operand→Option SV
 | .tmp t=>tm.get t
 | .const v=>svOf v
 | .global _=>none
 | .func f=>some (.fn f [] [])
theorem evx_ok {tm:T SV} {e:Env} {a:Go.Act} (h:AR e tm a.tmps) {x:Operand} {v:SV} (hx:evx tm x=some v):VR e v (a.eval x):=by
 cases x with
 | tmp t =>
  obtain ⟨u,h1,h2⟩:=h t v hx
  simpa [Act.eval,Array.getD_eq_getD_getElem?,h1] using h2
 | const c=>exact svOf_ok hx e
 | global g=>cases hx
 | func f=>cases hx;exact .fn .nil .nil
def evxs (tm:T SV):List Operand→Option (List SV)
 | []=>some []
 | x :: t=>match evx tm x with
  | some v=>match evxs tm t with
   | some l=>some (v :: l)
   | none=>none
  | none=>none
def szT (P:Program) (t:TypeId):Option Nat:=match P.info? t with | some i=>some i.size | none=>none
def aggT (P:Program) (t:TypeId):Option Bool:=match P.underlying t with | some (.struct _)=>some true | some (.array _ _)=>some true | some _=>some false | none=>none
theorem run_szT {P:Program} {t:TypeId} {n:Nat} (h:szT P t=some n) (w:World):(sizeOf t).run P w=.ok n w:=by
 unfold szT at h
 split at h
 ·rename_i i hi
  cases h
  simp [sizeOf,typeInfo,hi]
 ·cases h
theorem run_aggT {P:Program} {t:TypeId} {b:Bool} (h:aggT P t=some b) (w:World):(isAgg t).run P w=.ok b w:=by
 unfold aggT at h
 split at h
 ·rename_i hu;cases h;unfold isAgg;rw [Sem.run_bind,run_underlying hu];rfl
 ·rename_i hu;cases h;unfold isAgg;rw [Sem.run_bind,run_underlying hu];rfl
 ·rename_i d h1 h2 hu;cases h;unfold isAgg;rw [Sem.run_bind,run_underlying hu]
  cases d<;>first | rfl | exact absurd rfl (h1 _) | exact absurd rfl (h2 _ _)
 ·cases h
def partS (P:Program) (t:TypeId) (cs:List SV) (off:Nat):Option SV :=
 match aggT P t with
 | some true=>match szT P t with
  | some n=>some (.agg ((cs.drop off).take n))
  | none=>none
 | some false=>cs[off]?
 | none=>none
theorem partS_ok {P:Program} {t:TypeId} {cs:List SV} {us:List Value} {off:Nat} {v:SV} {e:Env} (h:partS P t cs off=some v) (hc:VRs e cs us) (w:World):∃ u,(part t ⟨us⟩ off).run P w=.ok u w∧VR e v u:=by
 unfold partS at h
 split at h
 ·rename_i ha
  split at h
  ·rename_i n hn
   cases h
   refine ⟨.agg ⟨(us.drop off).take n⟩,?_,.agg ((hc.drop off).take n)⟩
   have:(⟨us⟩:Array Value).extract off (off + n)=⟨(us.drop off).take n⟩:=by apply Array.toList_inj.1;simp
   simp [part,run_aggT ha,run_szT hn]
  ·cases h
 ·rename_i ha
  obtain ⟨u,h1,h2⟩:=hc.at off h
  exact ⟨u,by simp [part,run_aggT ha,h1],h2⟩
 ·cases h
def ofPure:Sem Value→Option SV
 | .pure v=>sv1 v
 | _=>none
theorem ofPure_ok {s:Sem Value} {v:SV} (h:ofPure s=some v) (e:Env) (P:Program) (w:World):∃ u,s.run P w=.ok u w∧VR e v u:=by
 cases s with
 | pure u=>exact ⟨u,rfl,(sv1_ok h e).1⟩
 | _=>cases h
def binS (op:BinOp) (s t:List UInt8):Option SV :=
 match op with
 | .eql=>some (.bool (eqB s t))
 | .neq=>some (.bool (!eqB s t))
 | .lss=>some (.bool (Op.bytesLess s t))
 | .leq=>some (.bool (Op.bytesLess s t || eqB s t))
 | .gtr=>some (.bool !(Op.bytesLess s t || eqB s t))
 | .geq=>some (.bool (!Op.bytesLess s t))
 | .add=>bif Nat.ble (s.length + t.length) 4294967296 then some (.str (s++t)) else none
 | _=>none
theorem beq_listU (s t:List UInt8):(s == t)=decide (s=t):=by by_cases h:s=t<;>simp [h]
theorem binS_ok {op:BinOp} {s t:List UInt8} {v:SV} (h:binS op s t=some v) (e:Env) (P:Program) (w:World):∃ u,(Op.stringOp op (bs s) (bs t)).run P w=.ok u w∧VR e v u:=by
 unfold binS at h
 split at h<;>first | cases h | skip
 case h_7 =>
  cases hle:Nat.ble (s.length + t.length) 4294967296 with
  | false=>rw [hle] at h;cases h
  | true =>
   rw [hle] at h;cases h
   have hn:=zB hle
   have e1:bs s++bs t=bs (s++t):=by
    apply ByteArray.ext
    simp [ByteArray.data_append]
   have hsz:¬ IntKind.i64.max < (((bs s).size + (bs t).size:Nat):Int):=by
    have h1:(bs s).size=s.length:=by simp [ByteArray.size]
    have h2:(bs t).size=t.length:=by simp [ByteArray.size]
    have h3:IntKind.i64.max=9223372036854775807:=rfl
    rw [h1,h2,h3];omega
   exact ⟨_,by simp only [Op.stringOp,gt_iff_lt,hsz,if_false];rw [e1];rfl,.str _⟩
 all_goals exact ⟨_,by simp only [Op.stringOp,ByteArray.toList_eq,beq_listU];rfl,by first | (rw [eqB_ok];constructor) | constructor⟩
end
end Go.Proofs.YtmelcflkbfhohaaGreatDoor.W.E
