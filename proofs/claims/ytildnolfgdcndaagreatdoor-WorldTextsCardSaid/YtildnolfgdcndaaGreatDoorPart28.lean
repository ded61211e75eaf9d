/- EvQ6 Hj LpC NumP NumA NumB NumC NumD NumE NumF NumG SwD NumR EvKm -/
import Derived.Test.YtildnolfgdcndaaGreatDoorPart27
import Derived.Test.YtildnolfgdcndaaGreatDoorPart15
import Derived.WalkKit
import Derived.WalkLawsBesides
import Derived.Handy
import Derived.Deep.QuietTactic
import Derived.BigQuiet
import Derived.Lib.Hide
import Derived.Maps.AppendAt
import Derived.Test.YtildnolfgdcndaaGreatDoorPart23
import Derived.Test.YtildnolfgdcndaaGreatDoorPart21
set_option linter.unusedVariables false
set_option linter.unusedSimpArgs false
namespace Go.Proofs.YtildnolfgdcndaaGreatDoor.W.E
section
open Go.RowKit
def xToldG (x:ExtF) (P:List SV→T SB→Nat→Option (Nat × Hp)→Sc→Option Prop):ExtF:=fun vs st=>match st with
 | ⟨m,nx,⟨h,cnt,sc,pc,rc⟩⟩=>match sc with
  | []=>x vs ⟨m,nx,⟨h,cnt,[],pc,rc⟩⟩
  | (k,s) :: t=>bif Nat.beq k cnt then (match P vs m nx h s with
    | some p=>nxtC cnt fun n=>toldS s ⟨m,nx,⟨h,n,t,p :: pc,rc⟩⟩
    | none=>none)
   else nxtC cnt fun n=>x vs ⟨m,nx,⟨h,n,(k,s) :: t,pc,rc⟩⟩
theorem xToldG_ok {f:Nat} {x:ExtF} {P:List SV→T SB→Nat→Option (Nat × Hp)→Sc→Option Prop} (hP:∀ vs m nx h s p,P vs m nx h s=some p→p→x vs ⟨m,nx,⟨h,0,[],[],[]⟩⟩=toldS s ⟨m,nx,⟨h,0,[],[],[]⟩⟩) (hx:ExtOk f x):ExtOk f (xToldG x P):=fun w0 vs st v st' h=>by
 obtain ⟨m,nx,⟨hh,cnt,sc,pc,rc⟩⟩:=st
 unfold xToldG at h
 cases sc with
 | nil=>exact hx w0 vs _ v st' h
 | cons p t =>
  obtain ⟨k,s⟩:=p
  simp only [nxtC_ok] at h
  cases hb:Nat.beq k cnt with
  | true =>
   rw [hb,cond_true] at h
   split at h
   ·rename_i q hq
    obtain ⟨m',nx',h',rfl,h2⟩:=toldS_ok h
    intro hg
    have hp:q:=hg.1 _ (List.mem_cons_self ..)
    have H:=hx w0 vs _ v _ ((hP _ _ _ _ _ _ hq hp).trans h2)
    refine ⟨⟨fun p hp=>hg.1 p (List.mem_cons_of_mem _ hp),hg.2⟩,fun e w F us hR hvs=>?_⟩
    refine ((H ⟨nofun,nofun⟩).2 e w F us hR.xs hvs).mono fun en w' ⟨u,e',F',q1,q2,q3,q4⟩=>?_
    exact ⟨u,e',F',q1,q2,q3.xs,q4.xs⟩
   ·cases h
  | false =>
   rw [hb,cond_false] at h
   intro hg
   obtain ⟨g1,H⟩:=hx w0 vs _ v st' h hg
   refine ⟨g1,fun e w F us hR hvs=>?_⟩
   refine (H e w F us hR.xs hvs).mono fun en w' ⟨u,e',F',q1,q2,q3,q4⟩=>?_
   obtain ⟨m',nx',x'⟩:=st'
   exact ⟨u,e',F',q1,q2,q3,q4.xs⟩
def mkP (h:Hp) (k:Int) (nm:List UInt8) (n:Int) (l:List V) (v:SV) (h':Hp):Prop:=smallB h l.length=true∧(get h.all (wrap64 (h.last + 1))).isNone=true∧(h.make k nm n l).2.sv=v∧(h.make k nm n l).1=h'
def repP (h:Hp) (x:V) (a b:Int) (l:List V) (v:SV) (h':Hp):Prop:=smallB h l.length=true∧fitsB h x l.length=true∧SV.bool (h.replace x a b l).2=v∧(h.replace x a b l).1=h'
def at_ (h:Option (Nat × Hp)) (p:SV):Option Hp:=heapAt ⟨h,0,[],[],[]⟩ p
def pMake (vs:List SV) (m:T SB) (_:Nat) (h:Option (Nat × Hp)) (s:Sc):Option Prop:=match vs with
 | [p,a0,a1,a2,a3]=>match at_ h p with
  | some hh=>match toI a0 with
   | some k=>match toS a1 with
    | some nm=>match toI a2 with
     | some n=>match rowV m a3 with
      | some l=>match s with
       | .res v h'=>some (mkP hh k nm n l v h')
       | _=>none
      | none=>none
     | none=>none
    | none=>none
   | none=>none
  | none=>none
 | _=>none
def pReplace (vs:List SV) (m:T SB) (_:Nat) (h:Option (Nat × Hp)) (s:Sc):Option Prop:=match vs with
 | [p,a0,a1,a2,a3]=>match at_ h p with
  | some hh=>match toV a0 with
   | some x=>match toI a1 with
    | some a=>match toI a2 with
     | some b=>match rowV m a3 with
      | some l=>match s with
       | .res v h'=>some (repP hh x a b l v h')
       | _=>none
      | none=>none
     | none=>none
    | none=>none
   | none=>none
  | none=>none
 | _=>none
theorem pMake_ok:∀ vs m nx h s p,pMake vs m nx h s=some p→p→xMake vs ⟨m,nx,⟨h,0,[],[],[]⟩⟩=toldS s ⟨m,nx,⟨h,0,[],[],[]⟩⟩:=by
 intro vs m nx h s p hp hq
 unfold pMake at hp
 split at hp<;>try (cases hp;done)
 split at hp<;>try (cases hp;done)
 split at hp<;>try (cases hp;done)
 split at hp<;>try (cases hp;done)
 split at hp<;>try (cases hp;done)
 split at hp<;>try (cases hp;done)
 split at hp<;>try (cases hp;done)
 rename_i e1 _ _ e2 _ _ e3 _ _ e4 _ _ e5 _ v h'
 cases hp
 obtain ⟨q1,q2,rfl,rfl⟩:=hq
 unfold at_ at e1
 simp only [xMake,e1,e2,e3,e4,e5,q1,q2,Bool.and_self,cond_true]
 rfl
theorem pReplace_ok:∀ vs m nx h s p,pReplace vs m nx h s=some p→p→xReplace vs ⟨m,nx,⟨h,0,[],[],[]⟩⟩=toldS s ⟨m,nx,⟨h,0,[],[],[]⟩⟩:=by
 intro vs m nx h s p hp hq
 unfold pReplace at hp
 split at hp<;>try (cases hp;done)
 split at hp<;>try (cases hp;done)
 split at hp<;>try (cases hp;done)
 split at hp<;>try (cases hp;done)
 split at hp<;>try (cases hp;done)
 split at hp<;>try (cases hp;done)
 split at hp<;>try (cases hp;done)
 rename_i e1 _ _ e2 _ _ e3 _ _ e4 _ _ e5 _ v h'
 cases hp
 obtain ⟨q1,q2,rfl,rfl⟩:=hq
 unfold at_ at e1
 simp only [xReplace,e1,e2,e3,e4,e5,q1,q2,Bool.and_self,cond_true]
 rfl
def pRow (f:Hp→V→List V) (vs:List SV) (_:T SB) (nx:Nat) (h:Option (Nat × Hp)) (s:Sc):Option Prop:=match vs with
 | [p,a0]=>match at_ h p with
  | some hh=>match toV a0 with
   | some x=>match s with
    | .row l=>bif Nat.blt nx TMax then some (f hh x=l) else none
    | _=>none
   | none=>none
  | none=>none
 | _=>none
theorem pItems_ok:∀ vs m nx h s p,pRow Hp.items vs m nx h s=some p→p→xItems vs ⟨m,nx,⟨h,0,[],[],[]⟩⟩=toldS s ⟨m,nx,⟨h,0,[],[],[]⟩⟩:=by
 intro vs m nx h s p hp hq
 unfold pRow at hp
 split at hp<;>try (cases hp;done)
 split at hp<;>try (cases hp;done)
 split at hp<;>try (cases hp;done)
 split at hp<;>try (cases hp;done)
 rename_i e1 _ _ e2 _ l
 cases hb:Nat.blt nx TMax with
 | false=>rw [hb] at hp;cases hp
 | true =>
  rw [hb,cond_true] at hp
  cases hp
  subst hq
  unfold at_ at e1
  simp only [xItems,e1,e2,hb,cond_true]
  rfl
theorem pKeys_ok:∀ vs m nx h s p,pRow Hp.keys vs m nx h s=some p→p→xKeys vs ⟨m,nx,⟨h,0,[],[],[]⟩⟩=toldS s ⟨m,nx,⟨h,0,[],[],[]⟩⟩:=by
 intro vs m nx h s p hp hq
 unfold pRow at hp
 split at hp<;>try (cases hp;done)
 split at hp<;>try (cases hp;done)
 split at hp<;>try (cases hp;done)
 split at hp<;>try (cases hp;done)
 rename_i e1 _ _ e2 _ l
 cases hb:Nat.blt nx TMax with
 | false=>rw [hb] at hp;cases hp
 | true =>
  rw [hb,cond_true] at hp
  cases hp
  subst hq
  unfold at_ at e1
  simp only [xKeys,e1,e2,hb,cond_true]
  rfl
def extS:ExtT:=fun f=>bif Nat.beq f 28 then some (xToldG xMake pMake) else bif Nat.beq f 88 then some (xToldG xReplace pReplace) else
 bif Nat.beq f 121 then some (xToldG xItems (pRow Hp.items)) else bif Nat.beq f 158 then some (xToldG xKeys (pRow Hp.keys)) else extM f
theorem extS_one {k:Nat} {x y:ExtF} {g:ExtT} (h1:extP k y) (h2:∀ f h,g f=some h→extP f h):∀ f h,(bif Nat.beq f k then some y else g f)=some h→extP f h:=fun f h hf=>by
 cases hb:Nat.beq f k with
 | true=>rw [hb,cond_true] at hf;cases hf;obtain rfl:=Nat.eq_of_beq_eq_true hb;exact h1
 | false=>rw [hb,cond_false] at hf;exact h2 f h hf
theorem extS_told {k:Nat} {x:ExtF} {P:List SV→T SB→Nat→Option (Nat × Hp)→Sc→Option Prop} (hl:extL k=some x) (hP:∀ vs m nx h s p,P vs m nx h s=some p→p→x vs ⟨m,nx,⟨h,0,[],[],[]⟩⟩=toldS s ⟨m,nx,⟨h,0,[],[],[]⟩⟩):extP k (xToldG x P):=by
 obtain ⟨k1,k2⟩:=extL_ok _ _ hl
 exact ⟨k1,xToldG_ok hP k2⟩
theorem extS_ok:∀ f h,extS f=some h→extP f h :=
 extS_one (x:=xMake) (extS_told (by kernel_rfl) pMake_ok) (extS_one (x:=xReplace) (extS_told (by kernel_rfl) pReplace_ok) (extS_one (x:=xItems) (extS_told (by kernel_rfl) pItems_ok) (extS_one (x:=xKeys) (extS_told (by kernel_rfl) pKeys_ok) extM_ok)))
abbrev tRes (x:ExtF) (b:Nat) (h:Hp) (vs:List SV) (v:SV) (h':Hp):Prop:=toldP x (.ptr b 0 :: vs) (some (b,h)) (.res v h')
abbrev vr (n:Int):V:=⟨4,n,[]⟩
theorem heapAt_b {b:Nat} {h:Hp} {c:Nat} {s:List (Nat × Sc)} {p:List Prop} {r:List (SV × SV)}:heapAt ⟨some (b,h),c,s,p,r⟩ (.ptr b 0)=some h:=by
 simp [heapAt]
theorem toV_sv (v:V):toV v.sv=some v:=rfl
theorem tPut {b:Nat} {h h':Hp} {v k x:V} {o:Bool} (hs:smallB h 2=true) (e:h.put v k x=(h',o)):tRes xPut b h [v.sv,k.sv,x.sv] (.bool o) h':=fun m nx=>by
 simp only [xPut,heapAt_b,toV_sv,hs,cond_true,e];rfl
end
section
open Go.RowKit
abbrev Obs:=List (Int × Ob)
def hZ (l:Obs) (n:Int):Hp:=Hp.nm ⟨l,fun _=>0,n⟩
theorem hZ_ok (l:Obs) (n:Int):RefsOk (hZ l n):=fun _=>rfl
theorem hZ_eq {h:Hp} {l:Obs} {n:Int} (r:RefsOk h) (ha:h.all=l) (hn:h.last=n):h=hZ l n:=by
 obtain ⟨a,f,m⟩:=h
 subst ha hn
 show Hp.mk a f m=Hp.mk a _ m
 congr 1
 exact funext r
structure HJ (l:Obs) (n:Int) (u:Nat):Prop where
 ids:∀ p∈l,p.1≤n
 lo:0≤n
 hi:n≤u
 sm:valsN l≤u
abbrev uMax:Nat:=1000000
theorem HJ.small {l:Obs} {n:Int} {u:Nat} (H:HJ l n u) (hu:u≤uMax) {k:Nat} (hk:k≤uMax):smallB (hZ l n) k=true:=by
 have h:=H.sm
 simp only [uMax] at hu hk
 exact Nat.ble_eq_true_of_le (by show valsN l + k≤1000000000;omega)
theorem get_le {l:Obs} {n m:Int} (h:∀ p∈l,p.1≤n) (hm:n < m):get l m=none:=by
 induction l with
 | nil=>rfl
 | cons p t ih =>
  obtain ⟨k,v⟩:=p
  have h1:k≤n:=h _ (List.mem_cons_self ..)
  rw [get,if_neg (by omega)]
  exact ih fun p hp=>h p (List.mem_cons_of_mem _ hp)
theorem get_app_r {l t:Obs} {m:Int} (h:get l m=none):get (l++t) m=get t m:=by
 induction l with
 | nil=>rfl
 | cons p l ih =>
  obtain ⟨k,v⟩:=p
  rw [List.cons_append]
  by_cases e:k=m
  ·rw [get,if_pos e] at h;cases h
  ·rw [get,if_neg e] at h ⊢;exact ih h
theorem put_app_r {l t:Obs} {m:Int} {o':Ob} (h:get l m=none):put (l++t) m o'=l++put t m o':=by
 induction l with
 | nil=>rfl
 | cons p l ih =>
  obtain ⟨k,v⟩:=p
  rw [List.cons_append,List.cons_append]
  by_cases e:k=m
  ·rw [get,if_pos e] at h;cases h
  ·rw [get,if_neg e] at h
   rw [put,if_neg e,ih h]
theorem HJ.next {l:Obs} {n:Int} {u:Nat} (H:HJ l n u):get l (n + 1)=none:=get_le H.ids (by omega)
theorem get_last {l:Obs} {n:Int} {u:Nat} (H:HJ l n u) (o:Ob):get (l++[(n + 1,o)]) (n + 1)=some o:=by
 rw [get_app_r H.next,get,if_pos rfl]
theorem put_last {l:Obs} {n:Int} {u:Nat} (H:HJ l n u) (o o':Ob):put (l++[(n + 1,o)]) (n + 1) o'=l++[(n + 1,o')]:=by
 rw [put_app_r H.next,put,if_pos rfl]
theorem valsN_app (a b:Obs):valsN (a++b)=valsN a + valsN b:=by
 induction a with
 | nil=>simp [valsN]
 | cons p t ih=>simp only [valsN,List.cons_append,List.foldr_cons] at ih ⊢;omega
theorem valsN_put {l:Obs} {m:Int} {o:Ob} (o':Ob) (h:get l m=some o):valsN (put l m o') + (o.items.length + o.d.length)=valsN l + (o'.items.length + o'.d.length):=by
 induction l with
 | nil=>cases h
 | cons p t ih =>
  obtain ⟨k,v⟩:=p
  by_cases e:k=m
  ·rw [get,if_pos e] at h;cases h
   rw [put,if_pos e];simp only [valsN,List.foldr_cons];omega
  ·rw [get,if_neg e] at h
   rw [put,if_neg e];have:=ih h;simp only [valsN,List.foldr_cons] at this ⊢;omega
theorem ids_put {l:Obs} {m n:Int} {o':Ob} (h:∀ p∈l,p.1≤n) (hm:m≤n):∀ p∈put l m o',p.1≤n:=by
 induction l with
 | nil=>intro p hp;rw [put] at hp;rcases List.mem_singleton.1 hp with rfl;exact hm
 | cons q t ih =>
  obtain ⟨k,v⟩:=q
  have h1:k≤n:=h _ (List.mem_cons_self ..)
  have h2:=ih fun p hp=>h p (List.mem_cons_of_mem _ hp)
  by_cases e:k=m
  ·rw [put,if_pos e];intro p hp
   rcases List.mem_cons.1 hp with rfl | hp
   ·exact h1
   ·exact h p (List.mem_cons_of_mem _ hp)
  ·rw [put,if_neg e];intro p hp
   rcases List.mem_cons.1 hp with rfl | hp
   ·exact h1
   ·exact h2 p hp
theorem get_id {l:Obs} {m n:Int} {o:Ob} (h:∀ p∈l,p.1≤n) (hg:get l m=some o):m≤n:=by
 by_cases hl:n < m
 ·rw [get_le h hl] at hg;cases hg
 ·omega
theorem HJ.add {l:Obs} {n:Int} {u:Nat} (H:HJ l n u) (o:Ob) {v:Nat} (hv:u + 1 + o.items.length + o.d.length≤v):HJ (l++[(n + 1,o)]) (n + 1) v:=by
 have h1:=H.lo
 have h2:=H.hi
 have h3:=H.sm
 refine ⟨fun p hp=>?_,by omega,by omega,?_⟩
 ·rcases List.mem_append.1 hp with hp | hp
  ·have:=H.ids p hp;omega
  ·rcases List.mem_singleton.1 hp with rfl;exact Int.le_refl _
 ·rw [valsN_app];simp only [valsN,List.foldr_cons,List.foldr_nil] at h3 ⊢;omega
theorem HJ.set {l:Obs} {n m:Int} {u:Nat} {o:Ob} (H:HJ l n u) (hg:get l m=some o) (o':Ob) {v:Nat} (hv:u + o'.items.length + o'.d.length≤v + o.items.length + o.d.length) (huv:u≤v):HJ (put l m o') n v:=by
 have h2:=H.hi
 have h3:=H.sm
 refine ⟨ids_put H.ids (get_id H.ids hg),H.lo,by omega,?_⟩
 have:=valsN_put o' hg
 omega
section
variable {l l':Obs} {n:Int} {u b:Nat}
theorem tMk (H:HJ l n u) (hu:u≤uMax) {k m:Int} {nm:List UInt8} {xs:List V} (hk:1≤k∧k≤12) (hx:xs.length≤uMax):mkP (hZ l n) k nm m xs (vr (n + 1)).sv (hZ (l++[(n + 1,⟨k,nm,m,xs,[]⟩)]) (n + 1)):=by
 have h1:=H.lo
 have h2:=H.hi
 have hw:wrap64 (n + 1)=n + 1:=by simp only [uMax] at hu;unfold wrap64;omega
 have hf:(get (hZ l n).all (wrap64 ((hZ l n).last + 1))).isNone=true:=by
  show (get l (wrap64 (n + 1))).isNone=true
  rw [hw,H.next];rfl
 have hm:(hZ l n).make k nm m xs=({ all:=put l (wrap64 (n + 1)) ⟨k,nm,m,xs,[]⟩,refs:=hold 1 (hZ l n).refs xs,last:=wrap64 (n + 1) },vref (wrap64 (n + 1))):=by
  unfold Hp.make
  rw [if_pos hk];rfl
 refine ⟨H.small hu hx,hf,by rw [hm,hw],?_⟩
 have hr:=RefsOk.make (hZ_ok l n) (kind:=k) (name:=nm) (n:=m) (H.small hu hx) hf
 refine hZ_eq hr ?_ ?_
 ·rw [hm];show put l _ _=_;rw [hw,put_new H.next]
 ·rw [hm];exact hw
theorem of_vr {m:Int}:(hZ l n).of (vr m)=get l m:=by
 unfold Hp.of
 rw [if_pos rfl];rfl
variable {m:Int} {o:Ob}
theorem zPut (H:HJ l n u) (hu:u≤uMax) (e:get l m=some o) {k x:V} (hd:dputB o.d k=true) (hl:put l m { o with d:=W.put o.d k x }=l'):tRes xPut b (hZ l n) [(vr m).sv,k.sv,x.sv] (.bool true) (hZ l' n):=by
 have hs:smallB (hZ l n) 2=true:=H.small hu (by simp [uMax])
 have key:(hZ l n).put (vr m) k x=(hZ l' n,true):=by
  have hr:=RefsOk.put (hZ_ok l n) (v:=vr m) (k:=k) (x:=x) hs
  have e1:((hZ l n).put (vr m) k x).2=true∧((hZ l n).put (vr m) k x).1.all=l'∧((hZ l n).put (vr m) k x).1.last=n:=by
   unfold Hp.put
   rw [of_vr,e]
   simp only [hd,if_true]
   exact ⟨trivial,hl,rfl⟩
  exact Prod.ext (hZ_eq hr e1.2.1 e1.2.2) e1.1
 exact tPut hs key
end
def o1 (arg:List V):Ob:=⟨2,[],0,arg,[]⟩
def o2 (nm:List UInt8) (c:Int) (d:Row):Ob:=⟨6,nm,0,[vr c],d⟩
abbrev sArgs:List UInt8:=[97,114,103,115]
def e1 (l:Obs) (n:Int) (arg:List V):Obs:=l++[(n + 1,o1 arg)]
def e2 (l:Obs) (n:Int) (arg:List V) (nm:List UInt8) (c:Int) (d:Row):Obs:=e1 l n arg++[(n + 1 + 1,o2 nm c d)]
abbrev e3 (l:Obs) (n:Int) (arg:List V) (nm:List UInt8) (c:Int):Obs:=e2 l n arg nm c [(vstr sArgs,vr (n + 1))]
section
variable {l:Obs} {n:Int} {u b:Nat} {arg:List V} {nm:List UInt8} {c:Int} {d:Row}
theorem HJ.e1 (H:HJ l n u) (ha:arg.length≤1):HJ (E.e1 l n arg) (n + 1) (u + 2):=H.add _ (by simp only [o1,List.length_nil];omega)
theorem HJ.e2 (H:HJ l n u) (ha:arg.length≤1) (hd:d.length≤1):HJ (E.e2 l n arg nm c d) (n + 1 + 1) (u + 5):=(H.e1 ha).add _ (by simp only [o2,List.length_cons,List.length_nil];omega)
theorem xE1 (H:HJ l n u) (hu:u + 5≤uMax) (ha:arg.length≤1):mkP (hZ l n) 2 [] 0 arg (vr (n + 1)).sv (hZ (E.e1 l n arg) (n + 1)):=tMk H (by omega) ⟨by decide,by decide⟩ (by simp only [uMax];omega)
theorem xE2 (H:HJ l n u) (hu:u + 5≤uMax) (ha:arg.length≤1):mkP (hZ (E.e1 l n arg) (n + 1)) 6 nm 0 [vr c] (vr (n + 1 + 1)).sv (hZ (E.e2 l n arg nm c []) (n + 1 + 1)):=tMk (H.e1 ha) (by omega) ⟨by decide,by decide⟩ (by simp [uMax])
theorem gE2 (H:HJ l n u) (ha:arg.length≤1):get (E.e2 l n arg nm c d) (n + 1 + 1)=some (o2 nm c d):=get_last (H.e1 ha) _
theorem xE3 (H:HJ l n u) (hu:u + 5≤uMax) (ha:arg.length≤1):tRes xPut b (hZ (E.e2 l n arg nm c []) (n + 1 + 1)) [(vr (n + 1 + 1)).sv,(vstr sArgs).sv,(vr (n + 1)).sv] (.bool true) (hZ (e3 l n arg nm c) (n + 1 + 1)) :=
 zPut (H.e2 ha (by simp)) hu (gE2 H ha) (by rfl) (put_last (H.e1 ha) _ _)
end
end
section
set_option maxRecDepth 100000
open Go.RowKit
abbrev TL:=List (Nat × Sc × Prop)
def TL.sc:TL→List (Nat × Sc)
 | []=>[]
 | q :: t=>(q.1,q.2.1) :: TL.sc t
def TL.ps:TL→List Prop→List Prop
 | [],a=>a
 | q :: t,a=>TL.ps t (q.2.2 :: a)
def TL.ok:TL→Prop
 | []=>True
 | q :: t=>q.2.2∧TL.ok t
theorem TL.ps_all:∀ (t:TL) (a:List Prop),t.ok→AllP a→AllP (t.ps a)
 | [],a,_,h=>h
 | q :: t,a,h,ha=>TL.ps_all t (q.2.2 :: a) h.2 ⟨h.1,ha⟩
theorem TL.ok_app:∀ {t s:TL},t.ok→s.ok→TL.ok (t++s)
 | [],s,_,h=>h
 | q :: t,s,h,hs=>⟨h.1,TL.ok_app (t:=t) h.2 hs⟩
noncomputable abbrev goS (fo:Nat→Option (List SV)) (f N:Nat) (l:List Code) (s:SS):ExR HX:=runL extS fo 100000 100 f N l s.1 s.2
abbrev QT (fo:Nat→Option (List SV)) (f N:Nat) (live:Live) (keep:List Nat) (nx:Nat) (l:List Code) (s s2:SS) (x:Ex) (tl:TL):Prop :=
 outC live keep nx (goS fo f N l (s.tell tl.sc))=outD x s2.1 s2.2 (tl.ps []) (goS fo f N l (s.tell tl.sc))
theorem QT.code {w0:B0} {fo:Nat→Option (List SV)} {fn:Nat} (hH:Hd w0 fo fn) {f N:Nat} {live:Live} {keep:List Nat} {nx:Nat} {l:List Code} {s s2:SS} {x:Ex} {tl:TL}
  (h:QT fo f N live keep nx l s s2 x tl) (hp:(l.all fun c=>planOkC (plan f) c)=true) (ht:tl.ok) (hid:∀ b,b < fn→(b,b)∈live) :
  CodeL w0 N l s.1 s.2 (fun x' tm' st'=>x'=x∧tm'=s2.1∧st'=s2.2):=by
 obtain ⟨tm,m,nx0,hx⟩:=s
 exact CodeL.sc (x':=⟨hx.h,0,tl.sc,[],[]⟩) rfl (CodeL.runG hH extS_ok hp h (TL.ps_all tl [] ht trivial) hid)
abbrev QE (fo:Nat→Option (List SV)) (f N:Nat) (rs:Array ResultVar) (l:List Code) (s:SS) (tl:TL):Prop:=endC rs (goS fo f N l (s.tell tl.sc))=endD (tl.ps []) (goS fo f N l (s.tell tl.sc))
theorem QE.code {w0:B0} {fo:Nat→Option (List SV)} {fn:Nat} (hH:Hd w0 fo fn) {f N:Nat} {rs:Array ResultVar} {l:List Code} {s:SS} {tl:TL}
  (h:QE fo f N rs l s tl) (hp:(l.all fun c=>planOkC (plan f) c)=true) (ht:tl.ok) :
  CodeL w0 N l s.1 s.2 (fun x tm' st'=>(x=.normal∨x=.ret)∧resS Tryz.prog st'.m tm' rs=some (.bool true)):=by
 obtain ⟨tm,m,nx0,hx⟩:=s
 exact CodeL.sc (x':=⟨hx.h,0,tl.sc,[],[]⟩) rfl (CodeL.runE hH extS_ok hp h (TL.ps_all tl [] ht trivial))
abbrev QA (fo:Nat→Option (List SV)) (f N:Nat) (live:Live) (keep:List Nat) (nx:Nat) (l:List Code) (is:List Nat) (s s2:Nat→SS) (x:Ex) (tl:Nat→TL):Prop :=
 (is.map fun i=>outC live keep nx (goS fo f N l ((s i).tell (tl i).sc)))=is.map fun i=>outD x (s2 i).1 (s2 i).2 ((tl i).ps []) (goS fo f N l ((s i).tell (tl i).sc))
theorem QA.at {fo:Nat→Option (List SV)} {f N:Nat} {live:Live} {keep:List Nat} {nx:Nat} {l:List Code} {is:List Nat} {s s2:Nat→SS} {x:Ex} {tl:Nat→TL} (h:QA fo f N live keep nx l is s s2 x tl) {i:Nat} (hi:i∈is):QT fo f N live keep nx l (s i) (s2 i) x (tl i):=List.map_inj_left.1 h i hi
abbrev TE:=Nat × Sc × Prop
def qI (o:Nat) (u:Option SV) (v:SV):TE:=(o,.val v,u=some v)
def qPut (o b:Nat) (l:Obs) (n m:Int) (k x:V) (l':Obs):TE:=(o,.res (.bool true) (hZ l' n),tRes xPut b (hZ l n) [(vr m).sv,k.sv,x.sv] (.bool true) (hZ l' n))
def qRaise (o p q b:Nat) (l:Obs) (n:Int) (arg:List V) (nm:List UInt8) (c:Int):TL :=
  [(o,.res (vr (n + 1)).sv (hZ (e1 l n arg) (n + 1)),mkP (hZ l n) 2 [] 0 arg (vr (n + 1)).sv (hZ (e1 l n arg) (n + 1))),
   (p,.res (vr (n + 1 + 1)).sv (hZ (e2 l n arg nm c []) (n + 1 + 1)),mkP (hZ (e1 l n arg) (n + 1)) 6 nm 0 [vr c] (vr (n + 1 + 1)).sv (hZ (e2 l n arg nm c []) (n + 1 + 1))),
   qPut q b (e2 l n arg nm c []) (n + 1 + 1) (n + 1 + 1) (vstr sArgs) (vr (n + 1)) (e3 l n arg nm c)]
theorem qRaise_ok {o p q b:Nat} {l:Obs} {n:Int} {u:Nat} {arg:List V} {nm:List UInt8} {c:Int} (H:HJ l n u) (hu:u + 5≤uMax) (ha:arg.length≤1):(qRaise o p q b l n arg nm c).ok:=⟨xE1 H hu ha,xE2 H hu ha,xE3 H hu ha,trivial⟩
def bA:Obs:=[(2,⟨5,[69,120,99,101,112,116,105,111,110],0,[],[]⟩),
 (3,⟨5,[76,111,111,107,117,112,69,114,114,111,114],0,[vr 2],[]⟩),
 (4,⟨5,[73,110,100,101,120,69,114,114,111,114],0,[vr 3,vr 2],[]⟩),
 (5,⟨5,[75,101,121,69,114,114,111,114],0,[vr 3,vr 2],[]⟩),
 (6,⟨5,[65,114,105,116,104,109,101,116,105,99,69,114,114,111,114],0,[vr 2],[]⟩),
 (7,⟨5,[90,101,114,111,68,105,118,105,115,105,111,110,69,114,114,111,114],0,[vr 6,vr 2],[]⟩),
 (8,⟨5,[79,118,101,114,102,108,111,119,69,114,114,111,114],0,[vr 6,vr 2],[]⟩),
 (9,⟨5,[84,121,112,101,69,114,114,111,114],0,[vr 2],[]⟩),
 (10,⟨5,[86,97,108,117,101,69,114,114,111,114],0,[vr 2],[]⟩),
 (11,⟨5,[78,97,109,101,69,114,114,111,114],0,[vr 2],[]⟩),
 (12,⟨5,[85,110,98,111,117,110,100,76,111,99,97,108,69,114,114,111,114],0,[vr 11,vr 2],[]⟩),
 (13,⟨5,[65,116,116,114,105,98,117,116,101,69,114,114,111,114],0,[vr 2],[]⟩),
 (14,⟨5,[83,116,111,112,73,116,101,114,97,116,105,111,110],0,[vr 2],[]⟩),
 (15,⟨5,[82,117,110,116,105,109,101,69,114,114,111,114],0,[vr 2],[]⟩),
 (16,⟨5,[82,101,99,117,114,115,105,111,110,69,114,114,111,114],0,[vr 15,vr 2],[]⟩),
 (17,⟨5,[65,115,115,101,114,116,105,111,110,69,114,114,111,114],0,[vr 2],[]⟩),
 (18,⟨5,[77,101,109,111,114,121,69,114,114,111,114],0,[vr 2],[]⟩),
 (19,⟨12,[101,120,99,101,112,116,105,111,110,115],0,[],[(vstr [69,120,99,101,112,116,105,111,110],vr 2),(vstr [76,111,111,107,117,112,69,114,114,111,114],vr 3),(vstr [73,110,100,101,120,69,114,114,111,114],vr 4),(vstr [75,101,121,69,114,114,111,114],vr 5),(vstr [65,114,105,116,104,109,101,116,105,99,69,114,114,111,114],vr 6),(vstr [90,101,114,111,68,105,118,105,115,105,111,110,69,114,114,111,114],vr 7),(vstr [79,118,101,114,102,108,111,119,69,114,114,111,114],vr 8),(vstr [84,121,112,101,69,114,114,111,114],vr 9),(vstr [86,97,108,117,101,69,114,114,111,114],vr 10),(vstr [78,97,109,101,69,114,114,111,114],vr 11),(vstr [85,110,98,111,117,110,100,76,111,99,97,108,69,114,114,111,114],vr 12),(vstr [65,116,116,114,105,98,117,116,101,69,114,114,111,114],vr 13),(vstr [83,116,111,112,73,116,101,114,97,116,105,111,110],vr 14),(vstr [82,117,110,116,105,109,101,69,114,114,111,114],vr 15),(vstr [82,101,99,117,114,115,105,111,110,69,114,114,111,114],vr 16),(vstr [65,115,115,101,114,116,105,111,110,69,114,114,111,114],vr 17),(vstr [77,101,109,111,114,121,69,114,114,111,114],vr 18)]⟩)]
def lZ (D:Row) (z:Obs):Obs:=bA++((20,⟨12,[109,97,105,110],0,[],D⟩) :: z)
theorem HJ.zero:HJ (lZ [] []) 20 100:=⟨by
 have h:((lZ [] []).all fun p=>decide (p.1≤20))=true:=by kernel_rfl
 exact fun p hp=>by simpa using List.all_eq_true.1 h p hp,by decide,by decide,Nat.le_of_ble_eq_true (by kernel_rfl)⟩
end
end Go.Proofs.YtildnolfgdcndaaGreatDoor.W.E
namespace Go.Proofs.YtildnolfgdcndaaGreatDoor.Num
section
abbrev eNone:ByteArray:=⟨#[]⟩
abbrev eOver:ByteArray:=⟨#[79,118,101,114,102,108,111,119,69,114,114,111,114]⟩
def Fits (n:Int):Prop:=-9223372036854775808≤n∧n≤9223372036854775807
instance (n:Int):Decidable (Fits n):=by unfold Fits;exact inferInstance
def chk (n:Int):Int × ByteArray:=if Fits n then (n,eNone) else (0,eOver)
theorem chk_ok {n:Int} (h:Fits n):chk n=(n,eNone):=if_pos h
theorem chk_no {n:Int} (h:¬ Fits n):chk n=(0,eOver):=if_neg h
theorem not_fits {n:Int} (h:¬ Fits n):n < -9223372036854775808∨9223372036854775807 < n:=by unfold Fits at h;omega
end
section
open Go.RowKit
theorem ret_int {k:IntKind} {a b:Int} (h:a=b):Ending.returned (.int k a)=.returned (.int k b):=by rw [h]
abbrev two (n:Int) (s:ByteArray):Ending:=.returned (.tuple #[.int .i64 n,.string s])
theorem two_eq {a b:Int} (s:ByteArray) (h:a=b):two a s=two b s:=by rw [h]
theorem add_any (a b:Int) (w:World) (ha:Fits a) (hb:Fits b) :
  Calls Tryz.prog 239 #[.int .i64 a,.int .i64 b] w fun e w'=>e=two (chk (a + b)).1 (chk (a + b)).2∧w=w':=by
 by_cases hf:Fits (a + b)
 ·rw [chk_ok hf]
  obtain ⟨h1,h2⟩:=hf;obtain ⟨h3,h4⟩:=ha;obtain ⟨h5,h6⟩:=hb
  by_cases hb0:0≤b
  ·go_enter Tryz.func239,Tryz.ntmps239
   go_wp2
   go_ret2
   exact ⟨rfl,rfl⟩
  ·go_enter Tryz.func239,Tryz.ntmps239
   go_wp2
   go_ret2
   exact ⟨rfl,rfl⟩
 ·rw [chk_no hf]
  have hn:=not_fits hf
  obtain ⟨h3,h4⟩:=ha;obtain ⟨h5,h6⟩:=hb
  by_cases hb0:0≤b
  ·have hw:wrap64 (a + b) < a:=by unfold wrap64;omega
   clear hf hn
   go_enter Tryz.func239,Tryz.ntmps239
   go_wp2
   go_ret2
   exact ⟨rfl,rfl⟩
  ·have hw:a < wrap64 (a + b):=by unfold wrap64;omega
   clear hf hn
   go_enter Tryz.func239,Tryz.ntmps239
   go_wp2
   go_ret2
   exact ⟨rfl,rfl⟩
theorem magnitude_any (a:Int) (w:World) (ha:Fits a) :
  Calls Tryz.prog 297 #[.int .i64 a] w fun e w'=>e=.returned (.int .u64 (a.natAbs:Nat))∧w=w':=by
 obtain ⟨h3,h4⟩:=ha
 by_cases h0:a < 0
 ·have e1:IntKind.u64.wrap a=a + 18446744073709551616:=by rw [IntKind.wrap_u64];omega
  have e2:((a.natAbs:Nat):Int)=IntKind.u64.wrap (-(IntKind.u64.wrap a)):=by rw [e1,IntKind.wrap_u64];omega
  clear e1
  have E:=Lib.hid e2;clear e2
  go_enter Tryz.func297,Tryz.ntmps297
  go_wp2
  go_ret
  exact ⟨ret_int E.out.symm,rfl⟩
 ·have E:=Lib.hid (show ((a.natAbs:Nat):Int)=a by omega)
  go_enter Tryz.func297,Tryz.ntmps297
  go_wp2
  go_ret
  exact ⟨ret_int E.out.symm,rfl⟩
def sgn (m:Nat) (below:Bool):Int:=if below then -(m:Int) else m
theorem signed_any (m:Nat) (below:Bool) (w:World) (hm:m < 18446744073709551616) :
  Calls Tryz.prog 298 #[.int .u64 (m:Nat),.bool below] w fun e w'=>e=two (chk (sgn m below)).1 (chk (sgn m below)).2∧w=w':=by
 cases below
 ·by_cases h:m≤9223372036854775807
  ·rw [chk_ok (by unfold Fits sgn;simp;omega)]
   go_enter Tryz.func298,Tryz.ntmps298
   go_wp2
   go_ret2
   exact ⟨rfl,rfl⟩
  ·rw [chk_no (by unfold Fits sgn;simp;omega)]
   go_enter Tryz.func298,Tryz.ntmps298
   go_wp2
   go_ret2
   exact ⟨rfl,rfl⟩
 ·by_cases h:m≤9223372036854775808
  ·rw [chk_ok (by unfold Fits sgn;simp;omega)]
   have E:=Lib.hid (show wrap64 (IntKind.u64.wrap (-(m:Int)))=sgn m true by rw [IntKind.wrap_u64];unfold sgn wrap64;simp;omega)
   go_enter Tryz.func298,Tryz.ntmps298
   go_wp2
   go_ret2
   exact ⟨two_eq _ E.out,rfl⟩
  ·rw [chk_no (by unfold Fits sgn;simp;omega)]
   go_enter Tryz.func298,Tryz.ntmps298
   go_wp2
   go_ret2
   exact ⟨rfl,rfl⟩
end
section
open Go.RowKit
end
section
open Go.RowKit
abbrev pair (q r:Int):Ending:=.returned (.tuple #[.int .i64 q,.int .i64 r])
end
section
open Go.RowKit
end
section
set_option maxRecDepth 100000
open Go.RowKit
def Bl (w w':World):Prop:=Below w.heap.size w w'
theorem Bl.refl (w:World):Bl w w:=Below.refl _ _
theorem Bl.trans {a b c:World} (h:Bl a b) (k:Bl b c):Bl a c:=Below.trans h (Below.mono k (Below.size h))
theorem Bl.map (w:World) (es:Array MapEntry) (c:Nat):Bl w (w.alloc (.map es c)):=(Below.refl _ _).alloc (Nat.le_refl _) _
end
section
set_option maxRecDepth 100000
open Go.RowKit
def pgo:List UInt8→Nat→Option Nat
 | [],m=>some m
 | c :: cs,m=>if c.toNat < 48∨57 < c.toNat∨922337203685477580 < m then none else pgo cs (m * 10 + (c.toNat - 48))
def pend (d:List UInt8) (below:Bool):Int × Bool :=
 match pgo d 0 with
 | none=>(0,false)
 | some m=>((chk (sgn m below)).1,(chk (sgn m below)).2 == eNone && decide (0 < d.length))
def parseS (l:List UInt8):Int × Bool :=
 match l with
 | 45 :: d=>pend d true
 | d=>pend d false
abbrev intB (n:Int) (b:Bool):Ending:=.returned (.tuple #[.int .i64 n,.bool b])
theorem pgo_stop {c:UInt8} {cs:List UInt8} {m:Nat} (h:c.toNat < 48∨57 < c.toNat∨922337203685477580 < m):pgo (c :: cs) m=none:=by rw [pgo,if_pos h]
theorem pgo_step {c:UInt8} {cs:List UInt8} {m:Nat} (h:¬ (c.toNat < 48∨57 < c.toNat∨922337203685477580 < m)):pgo (c :: cs) m=pgo cs (m * 10 + (c.toNat - 48)):=by rw [pgo,if_neg h]
theorem drop_at (d:ByteArray) (k:Nat) (h:k < d.size):d.data.toList.drop k=d[k] :: d.data.toList.drop (k + 1):=by
 rw [List.drop_eq_getElem_cons (by simpa using h)];rfl
theorem pend_none {d:List UInt8} {b:Bool} (h:pgo d 0=none):pend d b=(0,false):=by unfold pend;rw [h]
theorem pend_some {d:List UInt8} {b:Bool} {m:Nat} (h:pgo d 0=some m):pend d b=((chk (sgn m b)).1,(chk (sgn m b)).2 == eNone && decide (0 < d.length)):=by unfold pend;rw [h]
theorem len_toList (d:ByteArray):d.data.toList.length=d.size:=by simp
theorem parse_empty (s:ByteArray) (w:World) (h1:s.size=0) :
  Calls Tryz.prog 309 #[.string s] w fun e w'=>e=intB 0 false∧w=w':=by
 go_enter Tryz.func309,Tryz.ntmps309
 go_wp2
 refine wp_loop_once ?_
 have C:=fun w=>signed_any 0 false w (by omega)
 rw [chk_ok (by decide),show ((0:Nat):Int)=0 from rfl,show sgn 0 false=0 from rfl] at C
 go_wp2_with (go_at_call 298;((with_reducible refine (C _).mono ?_));rintro e w' ⟨rfl,rfl⟩)
 go_ret2
 exact ⟨rfl,rfl⟩
theorem parse_plain (s:ByteArray) (w:World) (hs:s.size≤maxLen) (h1:0 < s.size) (h2:((s[0].toNat:Int) == 45)=false) :
  Calls Tryz.prog 309 #[.string s] w fun e w'=>e=intB (pend s.data.toList false).1 (pend s.data.toList false).2∧w=w':=by
 unfold maxLen at hs
 all_goals
  go_enter Tryz.func309,Tryz.ntmps309
  go_wp2
 all_goals
  go_loop [6,25] (fun mm i=>∃ k m:Nat,k≤s.size∧i=.int .i64 k∧mm=.int .u64 m∧pgo s.data.toList 0=pgo (s.data.toList.drop k) m∧m≤9223372036854775809) (fun _ i=>s.size - (intOf i).toNat)
  case atStart=>exact ⟨0,0,by omega,rfl,rfl,by simp,by omega⟩
  case round =>
   obtain ⟨k,m,hk,rfl,rfl,hp,hm⟩:=hrel
   by_cases hlt:k < s.size
   ·have hd:=drop_at s k hlt
    rw [hd] at hp;clear hd
    have hc8:s[k].toNat < 256:=UInt8.toNat_lt _
    by_cases hc:s[k].toNat < 48∨57 < s[k].toNat∨922337203685477580 < m
    ·have F:=Lib.hid (pend_none (b:=false) (hp.trans (pgo_stop hc)));clear hp
     by_cases g1:s[k].toNat < 48
     ·clear hc
      go_wp2
      go_ret2
      exact ⟨by rw [F.out];rfl,rfl⟩
     ·have b1:decide ((s[k].toNat:Int) < 48)=false:=decide_eq_false (by omega)
      by_cases g2:57 < s[k].toNat
      ·clear hc
       go_wp2
       go_ret2
       exact ⟨by rw [F.out];rfl,rfl⟩
      ·have b2:decide (57 < (s[k].toNat:Int))=false:=decide_eq_false (by omega)
       have g3:922337203685477580 < m:=by omega
       clear hc
       go_wp2
       go_ret2
       exact ⟨by rw [F.out];rfl,rfl⟩
    ·have P:=Lib.hid (hp.trans (pgo_step hc));clear hp
     have g1:48≤s[k].toNat:=by omega
     have g2:s[k].toNat≤57:=by omega
     have g3:m≤922337203685477580:=by omega
     clear hc
     go_wp2
     go_round
     case rel=>exact ⟨k + 1,m * 10 + (s[k].toNat - 48),by omega,by go_num,by congr 1;omega,P.out,by omega⟩
     case measure=>simp [intOf];omega
   ·have:k=s.size:=by omega
    subst this
    rw [List.drop_of_length_le (by simp)] at hp
    have F:=pend_some (b:=false) (m:=m) hp
    clear hp
    have C:=fun w=>signed_any m false w (by omega)
    have hl:=len_toList s
    have hp0:decide (0 < s.data.toList.length)=decide (0 < s.size):=by rw [hl]
    clear hl
    rw [hp0] at F;clear hp0
    by_cases hf:Fits (sgn m false)
    ·rw [chk_ok hf] at C F
     generalize sgn m false=x at *
     clear hf hm hk
     by_cases hz:0 < s.size
     ·rw [decide_eq_true hz] at F
      have FF:=Lib.hid F;clear F
      go_wp2_with (go_at_call 298;((with_reducible refine (C _).mono ?_));rintro e w' ⟨rfl,rfl⟩)
      go_ret2
      exact ⟨by rw [FF.out];rfl,rfl⟩
     ·exact absurd h1 hz
    ·rw [chk_no hf] at C F
     clear hf hm hk
     have FF:=Lib.hid F;clear F
     go_wp2_with (go_at_call 298;((with_reducible refine (C _).mono ?_));rintro e w' ⟨rfl,rfl⟩)
     go_ret2
     exact ⟨by rw [FF.out];rfl,rfl⟩
theorem parse_below (s:ByteArray) (w:World) (hs:s.size≤maxLen) (h1:0 < s.size) (h2:(s[0].toNat:Int)=45) :
  Calls Tryz.prog 309 #[.string s] w fun e w'=>e=intB (pend s.data.toList.tail true).1 (pend s.data.toList.tail true).2∧w=w':=by
 unfold maxLen at hs
 have h3:((s[0].toNat:Int) == 45)=true:=by simpa using h2
 clear h2
 obtain ⟨d,hd⟩:∃ d,d=s.extract 1 s.size:=⟨_,rfl⟩
 have e1:s.data.toList.tail=d.data.toList:=by rw [hd];simp [List.drop_one,List.take_of_length_le]
 have e2:s.size - 1=d.size:=by rw [hd];simp
 rw [e1];clear e1
 have hds:d.size≤9223372036854775807:=by omega
 have E:=Lib.hid hd;have E2:=Lib.hid e2;clear hd e2
 go_enter Tryz.func309,Tryz.ntmps309
 go_wp2
 rw [← E.out,E2.out]
 clear E E2
 all_goals
  go_loop [6,25] (fun mm i=>∃ k m:Nat,k≤d.size∧i=.int .i64 k∧mm=.int .u64 m∧pgo d.data.toList 0=pgo (d.data.toList.drop k) m∧m≤9223372036854775809) (fun _ i=>d.size - (intOf i).toNat)
  case atStart=>exact ⟨0,0,by omega,rfl,rfl,by simp,by omega⟩
  case round =>
   obtain ⟨k,m,hk,rfl,rfl,hp,hm⟩:=hrel
   by_cases hlt:k < d.size
   ·have hd:=drop_at d k hlt
    rw [hd] at hp;clear hd
    have hc8:d[k].toNat < 256:=UInt8.toNat_lt _
    by_cases hc:d[k].toNat < 48∨57 < d[k].toNat∨922337203685477580 < m
    ·have F:=Lib.hid (pend_none (b:=true) (hp.trans (pgo_stop hc)));clear hp
     by_cases g1:d[k].toNat < 48
     ·clear hc
      go_wp2
      go_ret2
      exact ⟨by rw [F.out];rfl,rfl⟩
     ·have b1:decide ((d[k].toNat:Int) < 48)=false:=decide_eq_false (by omega)
      by_cases g2:57 < d[k].toNat
      ·clear hc
       go_wp2
       go_ret2
       exact ⟨by rw [F.out];rfl,rfl⟩
      ·have b2:decide (57 < (d[k].toNat:Int))=false:=decide_eq_false (by omega)
       have g3:922337203685477580 < m:=by omega
       clear hc
       go_wp2
       go_ret2
       exact ⟨by rw [F.out];rfl,rfl⟩
    ·have P:=Lib.hid (hp.trans (pgo_step hc));clear hp
     have g1:48≤d[k].toNat:=by omega
     have g2:d[k].toNat≤57:=by omega
     have g3:m≤922337203685477580:=by omega
     clear hc
     go_wp2
     go_round
     case rel=>exact ⟨k + 1,m * 10 + (d[k].toNat - 48),by omega,by go_num,by congr 1;omega,P.out,by omega⟩
     case measure=>simp [intOf];omega
   ·have:k=d.size:=by omega
    subst this
    rw [List.drop_of_length_le (by simp)] at hp
    have F:=pend_some (b:=true) (m:=m) hp
    clear hp
    have C:=fun w=>signed_any m true w (by omega)
    have hl:=len_toList d
    have hp0:decide (0 < d.data.toList.length)=decide (0 < d.size):=by rw [hl]
    clear hl
    rw [hp0] at F;clear hp0
    by_cases hf:Fits (sgn m true)
    ·rw [chk_ok hf] at C F
     generalize sgn m true=x at *
     clear hf hm hk
     by_cases hz:0 < d.size
     ·rw [decide_eq_true hz] at F
      have FF:=Lib.hid F;clear F
      go_wp2_with (go_at_call 298;((with_reducible refine (C _).mono ?_));rintro e w' ⟨rfl,rfl⟩)
      go_ret2
      exact ⟨by rw [FF.out];rfl,rfl⟩
     ·rw [decide_eq_false hz] at F
      have FF:=Lib.hid F;clear F
      go_wp2_with (go_at_call 298;((with_reducible refine (C _).mono ?_));rintro e w' ⟨rfl,rfl⟩)
      go_ret2
      exact ⟨by rw [FF.out];rfl,rfl⟩
    ·rw [chk_no hf] at C F
     clear hf hm hk
     have FF:=Lib.hid F;clear F
     go_wp2_with (go_at_call 298;((with_reducible refine (C _).mono ?_));rintro e w' ⟨rfl,rfl⟩)
     go_ret2
     exact ⟨by rw [FF.out];rfl,rfl⟩
theorem parseS_below {d:List UInt8}:parseS (45 :: d)=pend d true:=rfl
theorem parseS_plain {c:UInt8} {d:List UInt8} (h:c≠45):parseS (c :: d)=pend (c :: d) false:=by
 unfold parseS
 split
 ·rename_i h';injection h' with h1 _;exact absurd h1 h
 ·rfl
theorem parse_any (s:ByteArray) (w:World) (hs:s.size≤maxLen) :
    Calls Tryz.prog 309 #[.string s] w fun e w'=>e=intB (parseS s.data.toList).1 (parseS s.data.toList).2∧w=w':=by
  by_cases h0:s.size=0
  · have e:s.data.toList=[]:=by
      have:=len_toList s
      rw [h0] at this
      exact List.length_eq_zero_iff.1 this
    rw [e]
    exact parse_empty s w h0
  · have h1:0 < s.size:=by omega
    have e:=drop_at s 0 h1
    rw [List.drop_zero] at e
    by_cases h2:s[0]=45
    · have:=parse_below s w hs h1 (by rw [h2];rfl)
      rw [e,h2,parseS_below]
      rw [e] at this
      exact this
    · have:=parse_plain s w hs h1 (by
        have:(s[0].toNat:Int)≠45:=fun h=>h2 (UInt8.toNat_inj.1 (by have h45:s[0].toNat=45:=(by omega);exact h45))
        simpa using this)
      rw [e,parseS_plain h2,← e]
      exact this
end
section
set_option maxRecDepth 100000
open Go.RowKit
theorem info5:(Tryz.prog.info? 5).map (fun i=>(i.zero,i.size,i.bytes))=some (some (.int .u8 0),1,1):=by kernel_rfl
def B8 (l:List UInt8):List Value:=l.map fun c=>Value.int .u8 c.toNat
theorem B8_one (l:List UInt8):∀ u∈B8 l,u.oneCell'=true:=by
 intro u hu
 obtain ⟨c,_,rfl⟩:=List.mem_map.1 hu
 rfl
theorem run_put (w:World) (B:Nat) (c:UInt8) (v:Value) (l:List UInt8) (hB:B≤w.heap.size) (ho:w.ownsRow B 5 1 v l.length (B8 l)) (hl:l.length≤1000) (ty:TypeId) :
  ∃ v' w',(Builtin.append_ #[151,151] ty #[.slice (some ⟨w.heap.size,0,none⟩) 1 1,v]).run Tryz.prog (w.alloc (.cells #[.int .u8 c.toNat] 5))=.ok v' w' ∧
   w'.ownsRow B 5 1 v' (l.length + 1) (B8 (c :: l))∧Below w.heap.size w w':=by
 obtain ⟨i0,hi0,hz0,hz1,hz2⟩:=info_parts info5
 have hown:(w.alloc (.cells #[.int .u8 c.toNat] 5)).ownsRow w.heap.size 5 1 (.slice (some ⟨w.heap.size,0,none⟩) 1 1) 1 [.int .u8 c.toNat] :=
  ⟨by simp,.inr ⟨w.heap.size,1,#[.int .u8 c.toNat],rfl,Nat.le_refl _,heap_alloc_new w _,Nat.le_refl _,by decide,rfl,rfl⟩⟩
 have hnew:Below w.heap.size w (w.alloc (.cells #[.int .u8 c.toNat] 5)):=(Below.refl _ _).alloc (Nat.le_refl _) _
 rcases ho.2 with ⟨rfl,hn⟩ | ⟨g,cap,cur,rfl,hg,hh,hnc,hcm,hcs,htk⟩
 ·obtain rfl:l=[]:=List.length_eq_zero_iff.1 hn
  refine ⟨_,_,?_,⟨by simp [B8],.inr ⟨w.heap.size,1,#[.int .u8 c.toNat],rfl,hB,heap_alloc_new w _,Nat.le_refl _,by decide,rfl,rfl⟩⟩,hnew⟩
  simp [Builtin.append_,run_underlying Tryz.underlying151,sizeOf,typeInfo,hi0,Builtin.lenOf,Builtin.firstCells,storeCells]
 ·have hcells:∀ j u,(B8 l)[j]?=some u→(w.alloc (.cells #[.int .u8 c.toNat] 5)).cell? ((⟨g,0,none⟩:Addr).add j)=some u:=fun j u hu=>(ho.alloc _).cells rfl j u hu
  obtain ⟨v',w',hrun,h2,h3,_,h5⟩:=run_append_own_at (P:=Tryz.prog) (w.alloc (.cells #[.int .u8 c.toNat] 5)) w.heap.size 151 ty 5 i0 _ 1 1 Tryz.underlying151 hi0 hz0 hz1 hz2 rfl (by decide) _ 1 _ hown ⟨g,0,none⟩ l.length cap (B8 l) (by simp [B8]) hcells (B8_one l) (by unfold maxLen;omega) (by omega) (by simp)
  refine ⟨v',w',hrun,?_,hnew.grown h3 (by simp) (fun k hk=>?_)⟩
  ·have e1:1 + l.length=l.length + 1:=by omega
   rw [e1] at h2
   refine ⟨h2.1,?_⟩
   rcases h2.2 with h | ⟨g',cap',cur',e,hb',r⟩
   ·exact .inl h
   ·exact .inr ⟨g',cap',cur',e,by omega,r⟩
  ·simp [Value.ownBlock] at hk;omega
theorem wpList_append_run {P:Program} {w w':World} {ops:Array Oper} {rest:List Oper} {o:Oper} {a:Act} {Q:Exit→Act→World→Prop} (hgd:o.guard=none) (s x:Operand) (t:TypeId)
  (ho:o.op=.call { callee:=.builtin .append,args:=#[s,x],argTypes:=#[t,t] }) {v u v':Value} (hs:a.eval s=v) (hx:a.eval x=u)
  (hrun:(Builtin.append_ #[t,t] o.type #[v,u]).run P w=.ok v' w') (h:wpList P ops Q rest (a.put o.dst v') w'):wpList P ops Q (o :: rest) a w :=
 wpList_plain hgd fun K hK=>by
  unfold Oper.wp execOp
  simp only [ho,resolve,invoke,builtin,Sem.run_bind,Sem.run_pure,Result.andThen_ok,List.map_toArray,List.map_cons,List.map_nil,hs,hx,hrun]
  exact hK _ _ h
theorem put_any (w:World) (p:Nat) (c:UInt8) (x:Int) (hx:(c.toNat:Int)=x) (v:Value) (l:List UInt8) (hp:w.heap[p]?=some (.cells #[v] 151 (0,0)))
  (ho:w.ownsRow (p + 1) 5 1 v l.length (B8 l)) (hl:l.length≤1000) :
  Calls Tryz.prog 316 #[.int .u8 x,.pointer (some ⟨p,0,none⟩)] w fun e w'=>e=.returned (.tuple #[])∧∃ v',w'.heap[p]?=some (.cells #[v'] 151 (0,0))∧w'.ownsRow (p + 1) 5 1 v' (l.length + 1) (B8 (c :: l))∧Below p w w':=by
 subst hx
 have hpl:=lt_of_block hp
 have hv0:(∃ a n c,v=.slice a n c):=by
  rcases ho.2 with ⟨rfl,_⟩ | ⟨g,cap,cur,rfl,_⟩
  ·exact ⟨_,_,_,rfl⟩
  ·exact ⟨_,_,_,rfl⟩
 obtain ⟨a0,n0,cp0,rfl⟩:=hv0
 obtain ⟨v',w',hrun,hown,hbel⟩:=run_put w (p + 1) c (.slice a0 n0 cp0) l (by omega) ho hl 151
 have hc:w.cell? ⟨p,0,none⟩=some (.slice a0 n0 cp0):=cell_of_one hp
 have hp2:w'.heap[p]?=some (.cells #[.slice a0 n0 cp0] 151 (0,0)):=(hbel.block p hpl).trans hp
 have hc2:w'.cell? ⟨p,0,none⟩=some (.slice a0 n0 cp0):=cell_of_one hp2
 have hf2:w'.frozen? ⟨p,0,none⟩=false:=free_of_one hp2
 have R1:=Lib.hid (show (w'.setCell ⟨p,0,none⟩ v').heap[p]?=some (.cells #[v'] 151 (0,0)) from one_setCell hp2)
 have R2:=Lib.hid (show (w'.setCell ⟨p,0,none⟩ v').ownsRow (p + 1) 5 1 v' (l.length + 1) (B8 (c :: l)) from ownsRow_setCell_below hown (by simp) _)
 have R3:=Lib.hid (show Below p w (w'.setCell ⟨p,0,none⟩ v') from (hbel.mono (by omega)).setCell (by simp) _)
 have hv:(∃ a n c,v'=.slice a n c):=by
  rcases hown.2 with ⟨rfl,_⟩ | ⟨g,cap,cur,rfl,_⟩
  ·exact ⟨_,_,_,rfl⟩
  ·exact ⟨_,_,_,rfl⟩
 obtain ⟨a,n,cp,rfl⟩:=hv
 clear ho hown hbel hp hp2 hl
 go_enter Tryz.func316,Tryz.ntmps316
 go_wp2_with (at_builtin;refine wpList_append_run rfl (.tmp 4) (.tmp 5) 151 rfl rfl rfl hrun ?_)
 go_end0
 exact ⟨rfl,_,R1.out,R2.out,R3.out⟩
def dch (m:Nat):UInt8:=UInt8.ofNat (48 + m % 10)
def dg (M:Nat) (l:List UInt8):List UInt8:=if M=0 then l else dg (M / 10) (dch M :: l)
termination_by M
decreasing_by omega
theorem dg_zero (l:List UInt8):dg 0 l=l:=by rw [dg,if_pos rfl]
theorem dg_pos {M:Nat} (h:0 < M) (l:List UInt8):dg M l=dg (M / 10) (dch M :: l):=by rw [dg,if_neg (by omega)]
def textL (n:Int):List UInt8 :=
 if n < 0 then 45 :: dg (n.natAbs / 10) [dch n.natAbs] else dg (n.natAbs / 10) [dch n.natAbs]
theorem dch_int (m:Nat):((dch m).toNat:Int)=48 + (m:Int) % 10:=by
 unfold dch
 rw [UInt8.toNat_ofNat_of_lt' (by show _ < 256;omega)]
 omega
def str (l:List UInt8):ByteArray:=⟨l.toArray⟩
theorem fold_bytes (l:List UInt8) (s:ByteArray):(l.map fun c=>(c.toNat:Int)).foldl (fun r n=>r.push (UInt8.ofNat n.toNat)) s=⟨s.data++l.toArray⟩:=by
 induction l generalizing s with
 | nil=>simp
 | cons c l ih =>
  rw [List.map_cons,List.foldl_cons,ih]
  congr 1
  simp [ByteArray.push]
theorem run_str (w:World) (B:Nat) (v:Value) (l:List UInt8) (ho:w.ownsRow B 5 1 v l.length (B8 l)) (hl:l≠[]) :
  (convert 151 9 v).run Tryz.prog w=.ok (.string (str l)) w:=by
 rcases ho.2 with ⟨rfl,hn⟩ | ⟨g,cap,cur,rfl,hg,hh,hnc,hcm,hcs,htk⟩
 ·exact absurd (List.length_eq_zero_iff.1 hn) hl
 ·rw [run_convert_bytes_string w 151 9 5 _ _ _ Tryz.underlying151 Tryz.underlying5 Tryz.underlying9]
  have h:=run_loadCells_list (P:=Tryz.prog) w ⟨g,0,none⟩ (B8 l) (fun j u hu=>ho.cells rfl j u hu)
  have e1:(B8 l).length=l.length:=by simp [B8]
  have e2:B8 l=(l.map fun c=>(c.toNat:Int)).map (Value.int .u8):=by simp [B8]
  rw [e1] at h
  rw [run_bytesToString w ⟨g,0,none⟩ l.length cap (l.map fun c=>(c.toNat:Int)) (by rw [h,e2]),fold_bytes]
  congr 2
  simp [str]
def Txt (w:World) (M0:Nat) (wr:World) (M:Nat) (l:List UInt8):Prop :=
 (∃ v,wr.heap[w.heap.size]?=some (.cells #[v] 151 (0,0))∧wr.ownsRow (w.heap.size + 1) 5 1 v l.length (B8 l))∧Below w.heap.size w wr∧dg (M0 / 10) [dch M0]=dg M l∧M < 10 ^ (20 - l.length)∧l.length≤20∧0 < l.length
theorem Txt.start {w w1:World} {M0:Nat} {v:Value} (hM:M0 < 18446744073709551616) (h:w1.heap[w.heap.size]?=some (.cells #[v] 151 (0,0))) (ho:w1.ownsRow (w.heap.size + 1) 5 1 v (0 + 1) (B8 [dch M0])) (hb:Below w.heap.size w w1):Txt w M0 w1 (M0 / 10) [dch M0] :=
 ⟨⟨v,h,ho⟩,hb,rfl,by show M0 / 10 < 10 ^ 19;omega,by simp,by simp⟩
theorem Txt.step {w wr w1:World} {M0 M:Nat} {l:List UInt8} (t:Txt w M0 wr M l) (hM:0 < M) {v:Value} (h:w1.heap[w.heap.size]?=some (.cells #[v] 151 (0,0))) (ho:w1.ownsRow (w.heap.size + 1) 5 1 v (l.length + 1) (B8 (dch M :: l))) (hb:Below w.heap.size wr w1):Txt w M0 w1 (M / 10) (dch M :: l):=by
 obtain ⟨_,h1,h2,h3,h4,h5⟩:=t
 have hlt:l.length < 20:=by
  rcases Nat.lt_or_ge l.length 20 with h | h
  ·exact h
  ·have:20 - l.length=0:=by omega
   rw [this] at h3;omega
 have e:20 - l.length=(20 - (l.length + 1)) + 1:=by omega
 rw [e,Nat.pow_succ] at h3
 refine ⟨⟨v,h,ho⟩,h1.trans hb,by rw [h2,dg_pos hM],?_,by simp;omega,by simp⟩
 show M / 10 < 10 ^ (20 - (l.length + 1))
 omega
theorem text_any (n:Int) (w:World) (hn:Fits n) :
  Calls Tryz.prog 281 #[.int .i64 n] w fun e w'=>e=.returned (.string (str (textL n)))∧Below w.heap.size w w':=by
 have hM:n.natAbs < 18446744073709551616:=by unfold Fits at hn;omega
 have C:=fun w=>magnitude_any n w hn
 have T:=Lib.hid (show textL n=if n < 0 then 45 :: dg (n.natAbs / 10) [dch n.natAbs] else dg (n.natAbs / 10) [dch n.natAbs] from rfl)
 generalize n.natAbs=M0 at *
 have hx:=dch_int M0
 go_enter Tryz.func281,Tryz.ntmps281
 go_wp2_with (first | (go_at_call 297;((with_reducible refine (C _).mono ?_));rintro e w' ⟨rfl,rfl⟩) | (go_at_call 316;((with_reducible refine (put_any _ w.heap.size (dch M0) _ hx (.slice none 0 0) [] ?_ ?_ ?_).mono ?_));rotate_left 3;rintro e w1 ⟨rfl,v1,hv1,ho1,hb1⟩))
 case refine_1=>exact heap_alloc_new w _
 case refine_2=>exact World.ownsRow_nil _ _ _ _
 case refine_3=>exact Nat.zero_le _
 have t0:=Txt.start hM hv1 ho1 ((Below.refl _ _).alloc (Nat.le_refl _) _ |>.trans hb1)
 clear hv1 ho1 hb1 hx
 go_loopw [5] (fun v wr=>∃ (M:Nat) (l:List UInt8),v=.int .u64 M∧M < 18446744073709551616∧Txt w M0 wr M l) (fun v _=>(intOf v).toNat)
 case atStart=>exact ⟨M0 / 10,_,by congr 1,by omega,t0⟩
 case round =>
  clear t0
  obtain ⟨M,l,rfl,hM2,t⟩:=hrel
  have HT:=Lib.hid t;clear t
  obtain ⟨⟨v,hv,ho⟩,hbw,_,_,hl20,_⟩:=HT.out
  have hpl:=lt_of_block hv
  by_cases hz:0 < M
  ·have D:=fun x hx=>put_any _ w.heap.size (dch M) x hx v l hv ho (by omega)
   have D2:=Lib.hid (D _ (dch_int M));clear D
   clear hv ho hbw
   go_wp2_with (go_at_call 316;((with_reducible refine D2.out.mono ?_));rintro e w2 ⟨rfl,v2,hv2,ho2,hb2⟩)
   have t2:=HT.out.step hz hv2 ho2 hb2
   clear hv2 ho2 hb2
   go_roundw
   case rel=>exact ⟨M / 10,_,by congr 1,by omega,t2⟩
   case measure=>simp [intOf];omega
  ·obtain rfl:M=0:=by omega
   have hl:=HT.out.2.2.1
   rw [dg_zero] at hl
   rw [hl] at T
   have hc:=cell_of_one hv
   by_cases hn0:n < 0
   ·have F:=Lib.hid (show textL n=45 :: l by rw [T.out,if_pos hn0])
    have D2:=Lib.hid (put_any _ w.heap.size 45 45 rfl v l hv ho (by omega))
    have HB:=Lib.hid hbw
    clear hv ho hbw hc hl T
    go_wp2_with (go_at_call 316;((with_reducible refine D2.out.mono ?_));rintro e w2 ⟨rfl,v2,hv2,ho2,hb2⟩;have hc2:=cell_of_one hv2;have hs:=run_str w2 _ v2 (45 :: l) ho2 (by simp);have HB2:=Lib.hid (HB.out.trans hb2);clear hv2 ho2 hb2)
    go_ret
    exact ⟨by rw [F.out];rfl,HB2.out⟩
   ·have F:=Lib.hid (show textL n=l by rw [T.out,if_neg hn0])
    have hne:l≠[]:=by
     have:=HT.out.2.2.2.2.2
     intro h;rw [h] at this;simp at this
    have hs:=run_str _ _ v l ho hne
    have HB:=Lib.hid hbw
    clear hv ho hbw hl T
    go_wp2
    go_ret
    exact ⟨by rw [F.out];rfl,HB.out⟩
end
end Go.Proofs.YtildnolfgdcndaaGreatDoor.Num
namespace Go.Proofs.YtildnolfgdcndaaGreatDoor.W
section
open Go Go.RowKit
section
variable {F:Fence} {n:Nat} {P:Program} {ops:Array Oper} {B:World→Prop} {o:Oper} {a:Go.Act}
end
end
section
open Go Go.RowKit
abbrev Fits (n:Int):Prop:=Num.Fits n
theorem numText_any (w:World) (a:Int) (ha:Fits a):Calls Tryz.prog 281 #[.int .i64 a] w fun e w'=>e=.returned (.string (bs (Num.textL a)))∧Bl w w' :=
 (Num.text_any a w ha).mono fun e w' ⟨h1,h2⟩=>⟨h1,h2⟩
theorem numParse_any (w:World) (s:List UInt8) (hs:s.length≤maxLen):Calls Tryz.prog 309 #[.string (bs s)] w fun e w'=>e=.returned (.tuple #[.int .i64 (Num.parseS s).1,.bool (Num.parseS s).2])∧Bl w w' :=
 (Num.parse_any (bs s) w hs).mono fun e w' ⟨h1,h2⟩=>⟨h1,h2 ▸ Bl.refl w⟩
end
end Go.Proofs.YtildnolfgdcndaaGreatDoor.W
namespace Go.Proofs.YtildnolfgdcndaaGreatDoor.W.E
section
open Go.RowKit
def fitsS (n:Int):Bool:=decide (-9223372036854775808≤n) && decide (n≤9223372036854775807)
theorem fits_ok {n:Int} (h:fitsS n=true):Fits n:=by
 simp only [fitsS,Bool.and_eq_true,decide_eq_true_eq] at h
 exact ⟨h.1,h.2⟩
def xNumText:ExtF:=fun vs st=>match vs with
 | [a0]=>(match toI a0 with | some x0=>(bif fitsS x0 then some (.str (Num.textL x0),st) else none) | none=>none)
 | _=>none
theorem xNumText_ok:ExtOk 281 xNumText:=fun w0 vs st v st' h=>by
 unfold xNumText at h
 split at h
 ·rename_i a0
  split at h
  ·rename_i y0 e0
   cases hc:fitsS y0 with
   | false=>rw [hc] at h;cases h
   | true =>
    rw [hc,cond_true] at h
    cases h
    refine ext_reader fun e w F us hR hvs=>?_
    obtain ⟨uq0,us,rfl,q0,hvs⟩:=vrs_cons hvs
    cases vrs_nil hvs
    obtain rfl:=toI_ok e0 q0
    exact ⟨_,.str _,numText_any w y0 (fits_ok hc)⟩
  ·cases h
 ·cases h
def xNumParse:ExtF:=fun vs st=>match vs with
 | [a0]=>(match toS a0 with | some x0=>(bif Nat.ble x0.length 1000000000 then some (.tup [.int .i64 (Num.parseS x0).1,.bool (Num.parseS x0).2],st) else none) | none=>none)
 | _=>none
theorem xNumParse_ok:ExtOk 309 xNumParse:=fun w0 vs st v st' h=>by
 unfold xNumParse at h
 split at h
 ·rename_i a0
  split at h
  ·rename_i y0 e0
   cases hc:Nat.ble y0.length 1000000000 with
   | false=>rw [hc] at h;cases h
   | true =>
    rw [hc,cond_true] at h
    cases h
    refine ext_reader fun e w F us hR hvs=>?_
    obtain ⟨uq0,us,rfl,q0,hvs⟩:=vrs_cons hvs
    cases vrs_nil hvs
    obtain rfl:=toS_ok e0 q0
    exact ⟨_,.tup (.cons (.int _ _) (.cons (.bool _) .nil)),numParse_any w y0 (Nat.le_trans (Nat.le_of_ble_eq_true hc) (by decide))⟩
  ·cases h
 ·cases h
end
end Go.Proofs.YtildnolfgdcndaaGreatDoor.W.E
