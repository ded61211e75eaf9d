/- EvQ6 Hj LpC EvCp EvCn -/
import Derived.Test.YtbbokgpklihkoaaGreatDoorPart26
set_option linter.unusedVariables false
set_option linter.unusedSimpArgs false
namespace Go.Proofs.YtbbokgpklihkoaaGreatDoor.W.E
section
open Go.RowKit
def xToldG (x:ExtF) (P:List SV→T SB→Nat→Option (Nat × Hp)→Sc→Option Prop):ExtF:=fun vs st=>match st with
 | ⟨m,nx,⟨h,cnt,sc,pc,rc⟩⟩=>match sc with
  | []=>x vs ⟨m,nx,⟨h,cnt,[],pc,rc⟩⟩
  | (k,s) :: t=>bif Nat.beq k cnt then (match P vs m nx h s with
    | some p=>nxtC cnt fun n=>toldS s ⟨m,nx,⟨h,n,t,p :: pc,rc⟩⟩
    | none=>none)
   else nxtC cnt fun n=>x vs ⟨m,nx,⟨h,n,(k,s) :: t,pc,rc⟩⟩
theorem xToldG_ok {f:Nat} {x:ExtF} {P:List SV→T SB→Nat→Option (Nat × Hp)→Sc→Option Prop} (hP:∀ vs m nx h s p,P vs m nx h s=some p→p→x vs ⟨m,nx,⟨h,0,[],[],[]⟩⟩=toldS s ⟨m,nx,⟨h,0,[],[],[]⟩⟩) (hx:ExtOk f x):ExtOk f (xToldG x P):=fun w0 vs st v st' h=>by
 obtain ⟨m,nx,⟨hh,cnt,sc,pc,rc⟩⟩:=st
 unfold xToldG at h
 cases sc with
 | nil=>exact hx w0 vs _ v st' h
 | cons p t =>
  obtain ⟨k,s⟩:=p
  simp only [nxtC_ok] at h
  cases hb:Nat.beq k cnt with
  | true =>
   rw [hb,cond_true] at h
   split at h
   ·rename_i q hq
    obtain ⟨m',nx',h',rfl,h2⟩:=toldS_ok h
    intro hg
    have hp:q:=hg.1 _ (List.mem_cons_self ..)
    have H:=hx w0 vs _ v _ ((hP _ _ _ _ _ _ hq hp).trans h2)
    refine ⟨⟨fun p hp=>hg.1 p (List.mem_cons_of_mem _ hp),hg.2⟩,fun e w F us hR hvs=>?_⟩
    refine ((H ⟨nofun,nofun⟩).2 e w F us hR.xs hvs).mono fun en w' ⟨u,e',F',q1,q2,q3,q4⟩=>?_
    exact ⟨u,e',F',q1,q2,q3.xs,q4.xs⟩
   ·cases h
  | false =>
   rw [hb,cond_false] at h
   intro hg
   obtain ⟨g1,H⟩:=hx w0 vs _ v st' h hg
   refine ⟨g1,fun e w F us hR hvs=>?_⟩
   refine (H e w F us hR.xs hvs).mono fun en w' ⟨u,e',F',q1,q2,q3,q4⟩=>?_
   obtain ⟨m',nx',x'⟩:=st'
   exact ⟨u,e',F',q1,q2,q3,q4.xs⟩
def mkP (h:Hp) (k:Int) (nm:List UInt8) (n:Int) (l:List V) (v:SV) (h':Hp):Prop:=smallB h l.length=true∧(get h.all (wrap64 (h.last + 1))).isNone=true∧(h.make k nm n l).2.sv=v∧(h.make k nm n l).1=h'
def repP (h:Hp) (x:V) (a b:Int) (l:List V) (v:SV) (h':Hp):Prop:=smallB h l.length=true∧fitsB h x l.length=true∧SV.bool (h.replace x a b l).2=v∧(h.replace x a b l).1=h'
def at_ (h:Option (Nat × Hp)) (p:SV):Option Hp:=heapAt ⟨h,0,[],[],[]⟩ p
def pMake (vs:List SV) (m:T SB) (_:Nat) (h:Option (Nat × Hp)) (s:Sc):Option Prop:=match vs with
 | [p,a0,a1,a2,a3]=>match at_ h p with
  | some hh=>match toI a0 with
   | some k=>match toS a1 with
    | some nm=>match toI a2 with
     | some n=>match rowV m a3 with
      | some l=>match s with
       | .res v h'=>some (mkP hh k nm n l v h')
       | _=>none
      | none=>none
     | none=>none
    | none=>none
   | none=>none
  | none=>none
 | _=>none
def pReplace (vs:List SV) (m:T SB) (_:Nat) (h:Option (Nat × Hp)) (s:Sc):Option Prop:=match vs with
 | [p,a0,a1,a2,a3]=>match at_ h p with
  | some hh=>match toV a0 with
   | some x=>match toI a1 with
    | some a=>match toI a2 with
     | some b=>match rowV m a3 with
      | some l=>match s with
       | .res v h'=>some (repP hh x a b l v h')
       | _=>none
      | none=>none
     | none=>none
    | none=>none
   | none=>none
  | none=>none
 | _=>none
theorem pMake_ok:∀ vs m nx h s p,pMake vs m nx h s=some p→p→xMake vs ⟨m,nx,⟨h,0,[],[],[]⟩⟩=toldS s ⟨m,nx,⟨h,0,[],[],[]⟩⟩:=by
 intro vs m nx h s p hp hq
 unfold pMake at hp
 split at hp<;>try (cases hp;done)
 split at hp<;>try (cases hp;done)
 split at hp<;>try (cases hp;done)
 split at hp<;>try (cases hp;done)
 split at hp<;>try (cases hp;done)
 split at hp<;>try (cases hp;done)
 split at hp<;>try (cases hp;done)
 rename_i e1 _ _ e2 _ _ e3 _ _ e4 _ _ e5 _ v h'
 cases hp
 obtain ⟨q1,q2,rfl,rfl⟩:=hq
 unfold at_ at e1
 simp only [xMake,e1,e2,e3,e4,e5,q1,q2,Bool.and_self,cond_true]
 rfl
theorem pReplace_ok:∀ vs m nx h s p,pReplace vs m nx h s=some p→p→xReplace vs ⟨m,nx,⟨h,0,[],[],[]⟩⟩=toldS s ⟨m,nx,⟨h,0,[],[],[]⟩⟩:=by
 intro vs m nx h s p hp hq
 unfold pReplace at hp
 split at hp<;>try (cases hp;done)
 split at hp<;>try (cases hp;done)
 split at hp<;>try (cases hp;done)
 split at hp<;>try (cases hp;done)
 split at hp<;>try (cases hp;done)
 split at hp<;>try (cases hp;done)
 split at hp<;>try (cases hp;done)
 rename_i e1 _ _ e2 _ _ e3 _ _ e4 _ _ e5 _ v h'
 cases hp
 obtain ⟨q1,q2,rfl,rfl⟩:=hq
 unfold at_ at e1
 simp only [xReplace,e1,e2,e3,e4,e5,q1,q2,Bool.and_self,cond_true]
 rfl
def pRow (f:Hp→V→List V) (vs:List SV) (_:T SB) (nx:Nat) (h:Option (Nat × Hp)) (s:Sc):Option Prop:=match vs with
 | [p,a0]=>match at_ h p with
  | some hh=>match toV a0 with
   | some x=>match s with
    | .row l=>bif Nat.blt nx TMax then some (f hh x=l) else none
    | _=>none
   | none=>none
  | none=>none
 | _=>none
theorem pItems_ok:∀ vs m nx h s p,pRow Hp.items vs m nx h s=some p→p→xItems vs ⟨m,nx,⟨h,0,[],[],[]⟩⟩=toldS s ⟨m,nx,⟨h,0,[],[],[]⟩⟩:=by
 intro vs m nx h s p hp hq
 unfold pRow at hp
 split at hp<;>try (cases hp;done)
 split at hp<;>try (cases hp;done)
 split at hp<;>try (cases hp;done)
 split at hp<;>try (cases hp;done)
 rename_i e1 _ _ e2 _ l
 cases hb:Nat.blt nx TMax with
 | false=>rw [hb] at hp;cases hp
 | true =>
  rw [hb,cond_true] at hp
  cases hp
  subst hq
  unfold at_ at e1
  simp only [xItems,e1,e2,hb,cond_true]
  rfl
theorem pKeys_ok:∀ vs m nx h s p,pRow Hp.keys vs m nx h s=some p→p→xKeys vs ⟨m,nx,⟨h,0,[],[],[]⟩⟩=toldS s ⟨m,nx,⟨h,0,[],[],[]⟩⟩:=by
 intro vs m nx h s p hp hq
 unfold pRow at hp
 split at hp<;>try (cases hp;done)
 split at hp<;>try (cases hp;done)
 split at hp<;>try (cases hp;done)
 split at hp<;>try (cases hp;done)
 rename_i e1 _ _ e2 _ l
 cases hb:Nat.blt nx TMax with
 | false=>rw [hb] at hp;cases hp
 | true =>
  rw [hb,cond_true] at hp
  cases hp
  subst hq
  unfold at_ at e1
  simp only [xKeys,e1,e2,hb,cond_true]
  rfl
def extS:ExtT:=fun f=>bif Nat.beq f 18 then some (xToldG xMake pMake) else bif Nat.beq f 103 then some (xToldG xReplace pReplace) else
 bif Nat.beq f 142 then some (xToldG xItems (pRow Hp.items)) else bif Nat.beq f 233 then some (xToldG xKeys (pRow Hp.keys)) else extM f
theorem extS_one {k:Nat} {x y:ExtF} {g:ExtT} (h1:extP k y) (h2:∀ f h,g f=some h→extP f h):∀ f h,(bif Nat.beq f k then some y else g f)=some h→extP f h:=fun f h hf=>by
 cases hb:Nat.beq f k with
 | true=>rw [hb,cond_true] at hf;cases hf;obtain rfl:=Nat.eq_of_beq_eq_true hb;exact h1
 | false=>rw [hb,cond_false] at hf;exact h2 f h hf
theorem extS_told {k:Nat} {x:ExtF} {P:List SV→T SB→Nat→Option (Nat × Hp)→Sc→Option Prop} (hl:extL k=some x) (hP:∀ vs m nx h s p,P vs m nx h s=some p→p→x vs ⟨m,nx,⟨h,0,[],[],[]⟩⟩=toldS s ⟨m,nx,⟨h,0,[],[],[]⟩⟩):extP k (xToldG x P):=by
 obtain ⟨k1,k2⟩:=extL_ok _ _ hl
 exact ⟨k1,xToldG_ok hP k2⟩
abbrev vr (n:Int):V:=⟨4,n,[]⟩
end
section
open Go.RowKit
abbrev Obs:=List (Int × Ob)
def hZ (l:Obs) (n:Int):Hp:=Hp.nm ⟨l,fun _=>0,n⟩
structure HJ (l:Obs) (n:Int) (u:Nat):Prop where
 ids:∀ p∈l,p.1≤n
 lo:0≤n
 hi:n≤u
 sm:valsN l≤u
abbrev uMax:Nat:=1000000
theorem HJ.small {l:Obs} {n:Int} {u:Nat} (H:HJ l n u) (hu:u≤uMax) {k:Nat} (hk:k≤uMax):smallB (hZ l n) k=true:=by
 have h:=H.sm
 simp only [uMax] at hu hk
 exact Nat.ble_eq_true_of_le (by show valsN l + k≤1000000000;omega)
theorem get_le {l:Obs} {n m:Int} (h:∀ p∈l,p.1≤n) (hm:n < m):get l m=none:=by
 induction l with
 | nil=>rfl
 | cons p t ih =>
  obtain ⟨k,v⟩:=p
  have h1:k≤n:=h _ (List.mem_cons_self ..)
  rw [get,if_neg (by omega)]
  exact ih fun p hp=>h p (List.mem_cons_of_mem _ hp)
theorem valsN_app (a b:Obs):valsN (a++b)=valsN a + valsN b:=by
 induction a with
 | nil=>simp [valsN]
 | cons p t ih=>simp only [valsN,List.cons_append,List.foldr_cons] at ih ⊢;omega
theorem valsN_put {l:Obs} {m:Int} {o:Ob} (o':Ob) (h:get l m=some o):valsN (put l m o') + (o.items.length + o.d.length)=valsN l + (o'.items.length + o'.d.length):=by
 induction l with
 | nil=>cases h
 | cons p t ih =>
  obtain ⟨k,v⟩:=p
  by_cases e:k=m
  ·rw [get,if_pos e] at h;cases h
   rw [put,if_pos e];simp only [valsN,List.foldr_cons];omega
  ·rw [get,if_neg e] at h
   rw [put,if_neg e];have:=ih h;simp only [valsN,List.foldr_cons] at this ⊢;omega
theorem ids_put {l:Obs} {m n:Int} {o':Ob} (h:∀ p∈l,p.1≤n) (hm:m≤n):∀ p∈put l m o',p.1≤n:=by
 induction l with
 | nil=>intro p hp;rw [put] at hp;rcases List.mem_singleton.1 hp with rfl;exact hm
 | cons q t ih =>
  obtain ⟨k,v⟩:=q
  have h1:k≤n:=h _ (List.mem_cons_self ..)
  have h2:=ih fun p hp=>h p (List.mem_cons_of_mem _ hp)
  by_cases e:k=m
  ·rw [put,if_pos e];intro p hp
   rcases List.mem_cons.1 hp with rfl | hp
   ·exact h1
   ·exact h p (List.mem_cons_of_mem _ hp)
  ·rw [put,if_neg e];intro p hp
   rcases List.mem_cons.1 hp with rfl | hp
   ·exact h1
   ·exact h2 p hp
theorem get_id {l:Obs} {m n:Int} {o:Ob} (h:∀ p∈l,p.1≤n) (hg:get l m=some o):m≤n:=by
 by_cases hl:n < m
 ·rw [get_le h hl] at hg;cases hg
 ·omega
theorem HJ.add {l:Obs} {n:Int} {u:Nat} (H:HJ l n u) (o:Ob) {v:Nat} (hv:u + 1 + o.items.length + o.d.length≤v):HJ (l++[(n + 1,o)]) (n + 1) v:=by
 have h1:=H.lo
 have h2:=H.hi
 have h3:=H.sm
 refine ⟨fun p hp=>?_,by omega,by omega,?_⟩
 ·rcases List.mem_append.1 hp with hp | hp
  ·have:=H.ids p hp;omega
  ·rcases List.mem_singleton.1 hp with rfl;exact Int.le_refl _
 ·rw [valsN_app];simp only [valsN,List.foldr_cons,List.foldr_nil] at h3 ⊢;omega
theorem HJ.set {l:Obs} {n m:Int} {u:Nat} {o:Ob} (H:HJ l n u) (hg:get l m=some o) (o':Ob) {v:Nat} (hv:u + o'.items.length + o'.d.length≤v + o.items.length + o.d.length) (huv:u≤v):HJ (put l m o') n v:=by
 have h2:=H.hi
 have h3:=H.sm
 refine ⟨ids_put H.ids (get_id H.ids hg),H.lo,by omega,?_⟩
 have:=valsN_put o' hg
 omega
section
variable {l l':Obs} {n:Int} {u b:Nat}
variable {m:Int} {o:Ob}
end
def o1 (arg:List V):Ob:=⟨2,[],0,arg,[]⟩
def o2 (nm:List UInt8) (c:Int) (d:Row):Ob:=⟨6,nm,0,[vr c],d⟩
abbrev sArgs:List UInt8:=[97,114,103,115]
def e1 (l:Obs) (n:Int) (arg:List V):Obs:=l++[(n + 1,o1 arg)]
def e2 (l:Obs) (n:Int) (arg:List V) (nm:List UInt8) (c:Int) (d:Row):Obs:=e1 l n arg++[(n + 1 + 1,o2 nm c d)]
abbrev e3 (l:Obs) (n:Int) (arg:List V) (nm:List UInt8) (c:Int):Obs:=e2 l n arg nm c [(vstr sArgs,vr (n + 1))]
section
variable {l:Obs} {n:Int} {u b:Nat} {arg:List V} {nm:List UInt8} {c:Int} {d:Row}
theorem HJ.e1 (H:HJ l n u) (ha:arg.length≤1):HJ (E.e1 l n arg) (n + 1) (u + 2):=H.add _ (by simp only [o1,List.length_nil];omega)
theorem HJ.e2 (H:HJ l n u) (ha:arg.length≤1) (hd:d.length≤1):HJ (E.e2 l n arg nm c d) (n + 1 + 1) (u + 5):=(H.e1 ha).add _ (by simp only [o2,List.length_cons,List.length_nil];omega)
end
end
section
set_option maxRecDepth 100000
open Go.RowKit
abbrev TL:=List (Nat × Sc × Prop)
def TL.sc:TL→List (Nat × Sc)
 | []=>[]
 | q :: t=>(q.1,q.2.1) :: TL.sc t
def TL.ps:TL→List Prop→List Prop
 | [],a=>a
 | q :: t,a=>TL.ps t (q.2.2 :: a)
def TL.ok:TL→Prop
 | []=>True
 | q :: t=>q.2.2∧TL.ok t
theorem TL.ps_all:∀ (t:TL) (a:List Prop),t.ok→AllP a→AllP (t.ps a)
 | [],a,_,h=>h
 | q :: t,a,h,ha=>TL.ps_all t (q.2.2 :: a) h.2 ⟨h.1,ha⟩
noncomputable abbrev goS (fo:Nat→Option (List SV)) (f N:Nat) (l:List Code) (s:SS):ExR HX:=runL extS fo 100000 100 f N l s.1 s.2
abbrev QT (fo:Nat→Option (List SV)) (f N:Nat) (live:Live) (keep:List Nat) (nx:Nat) (l:List Code) (s s2:SS) (x:Ex) (tl:TL):Prop :=
 outC live keep nx (goS fo f N l (s.tell tl.sc))=outD x s2.1 s2.2 (tl.ps []) (goS fo f N l (s.tell tl.sc))
abbrev QE (fo:Nat→Option (List SV)) (f N:Nat) (rs:Array ResultVar) (l:List Code) (s:SS) (tl:TL):Prop:=endC rs (goS fo f N l (s.tell tl.sc))=endD (tl.ps []) (goS fo f N l (s.tell tl.sc))
abbrev QA (fo:Nat→Option (List SV)) (f N:Nat) (live:Live) (keep:List Nat) (nx:Nat) (l:List Code) (is:List Nat) (s s2:Nat→SS) (x:Ex) (tl:Nat→TL):Prop :=
 (is.map fun i=>outC live keep nx (goS fo f N l ((s i).tell (tl i).sc)))=is.map fun i=>outD x (s2 i).1 (s2 i).2 ((tl i).ps []) (goS fo f N l ((s i).tell (tl i).sc))
theorem QA.at {fo:Nat→Option (List SV)} {f N:Nat} {live:Live} {keep:List Nat} {nx:Nat} {l:List Code} {is:List Nat} {s s2:Nat→SS} {x:Ex} {tl:Nat→TL} (h:QA fo f N live keep nx l is s s2 x tl) {i:Nat} (hi:i∈is):QT fo f N live keep nx l (s i) (s2 i) x (tl i):=List.map_inj_left.1 h i hi
abbrev TE:=Nat × Sc × Prop
def qI (o:Nat) (u:Option SV) (v:SV):TE:=(o,.val v,u=some v)
def bA:Obs:=[(2,⟨5,[69,120,99,101,112,116,105,111,110],0,[],[]⟩),
 (3,⟨5,[76,111,111,107,117,112,69,114,114,111,114],0,[vr 2],[]⟩),
 (4,⟨5,[73,110,100,101,120,69,114,114,111,114],0,[vr 3,vr 2],[]⟩),
 (5,⟨5,[75,101,121,69,114,114,111,114],0,[vr 3,vr 2],[]⟩),
 (6,⟨5,[65,114,105,116,104,109,101,116,105,99,69,114,114,111,114],0,[vr 2],[]⟩),
 (7,⟨5,[90,101,114,111,68,105,118,105,115,105,111,110,69,114,114,111,114],0,[vr 6,vr 2],[]⟩),
 (8,⟨5,[79,118,101,114,102,108,111,119,69,114,114,111,114],0,[vr 6,vr 2],[]⟩),
 (9,⟨5,[84,121,112,101,69,114,114,111,114],0,[vr 2],[]⟩),
 (10,⟨5,[86,97,108,117,101,69,114,114,111,114],0,[vr 2],[]⟩),
 (11,⟨5,[78,97,109,101,69,114,114,111,114],0,[vr 2],[]⟩),
 (12,⟨5,[85,110,98,111,117,110,100,76,111,99,97,108,69,114,114,111,114],0,[vr 11,vr 2],[]⟩),
 (13,⟨5,[65,116,116,114,105,98,117,116,101,69,114,114,111,114],0,[vr 2],[]⟩),
 (14,⟨5,[83,116,111,112,73,116,101,114,97,116,105,111,110],0,[vr 2],[]⟩),
 (15,⟨5,[82,117,110,116,105,109,101,69,114,114,111,114],0,[vr 2],[]⟩),
 (16,⟨5,[82,101,99,117,114,115,105,111,110,69,114,114,111,114],0,[vr 15,vr 2],[]⟩),
 (17,⟨5,[65,115,115,101,114,116,105,111,110,69,114,114,111,114],0,[vr 2],[]⟩),
 (18,⟨5,[77,101,109,111,114,121,69,114,114,111,114],0,[vr 2],[]⟩),
 (19,⟨12,[101,120,99,101,112,116,105,111,110,115],0,[],[(vstr [69,120,99,101,112,116,105,111,110],vr 2),(vstr [76,111,111,107,117,112,69,114,114,111,114],vr 3),(vstr [73,110,100,101,120,69,114,114,111,114],vr 4),(vstr [75,101,121,69,114,114,111,114],vr 5),(vstr [65,114,105,116,104,109,101,116,105,99,69,114,114,111,114],vr 6),(vstr [90,101,114,111,68,105,118,105,115,105,111,110,69,114,114,111,114],vr 7),(vstr [79,118,101,114,102,108,111,119,69,114,114,111,114],vr 8),(vstr [84,121,112,101,69,114,114,111,114],vr 9),(vstr [86,97,108,117,101,69,114,114,111,114],vr 10),(vstr [78,97,109,101,69,114,114,111,114],vr 11),(vstr [85,110,98,111,117,110,100,76,111,99,97,108,69,114,114,111,114],vr 12),(vstr [65,116,116,114,105,98,117,116,101,69,114,114,111,114],vr 13),(vstr [83,116,111,112,73,116,101,114,97,116,105,111,110],vr 14),(vstr [82,117,110,116,105,109,101,69,114,114,111,114],vr 15),(vstr [82,101,99,117,114,115,105,111,110,69,114,114,111,114],vr 16),(vstr [65,115,115,101,114,116,105,111,110,69,114,114,111,114],vr 17),(vstr [77,101,109,111,114,121,69,114,114,111,114],vr 18)]⟩)]
end
section
set_option maxRecDepth 100000
open Go.RowKit
def ptr1 (v:SV):List Nat:=match v with
 | .ptr b _=>[b]
 | .sl b _ _ _ _=>[b]
 | _=>[]
theorem ptr1_some {e:Env} {v:SV} {u:Value} {b:Nat} (h:VR e v u) (hb:b∈ptr1 v):∃ y,e b=some y:=by
 cases h<;>simp only [ptr1,List.mem_singleton,List.not_mem_nil] at hb
 case ptr h=>subst hb;exact ⟨_,h⟩
 case sl h _ _ _ _=>subst hb;exact ⟨_,h⟩
 case sle h=>subst hb;exact ⟨_,h⟩
theorem ptrs_some {e:Env} {b:Nat}:∀ {vs:List SV} {us:List Value},VRs e vs us→b∈vs.flatMap ptr1→∃ y,e b=some y
 | [],_,_,hb=>by simp at hb
 | v :: t,_,.cons h1 h2,hb=>by
  rw [List.flatMap_cons] at hb
  rcases List.mem_append.1 hb with h | h
  ·exact ptr1_some h1 h
  ·exact ptrs_some h2 h
abbrev xH (b:Nat) (h:Hp):HX:=⟨some (b,h),0,[],[],[]⟩
def bC (w:World) (I:Nat→Prop) (id:Nat→Option (Nat × Nat × Nat)):B0:=⟨w,fo0,fun _=>none,nofun,I,id⟩
theorem bC_fix {w:World} {I:Nat→Prop} {id:Nat→Option (Nat × Nat × Nat)} (d:Nat):Fix (bC w I id) d↔d=0∨d=2:=by
 constructor
 ·rintro (h1 | h1 | ⟨_,_,_,h1⟩)
  ·exact .inl h1
  ·exact .inr h1
  ·cases h1
 ·rintro (h1 | h1)
  ·exact .inl h1
  ·exact .inr (.inl h1)
theorem Rl.bC {w w':World} {I I':Nat→Prop} {id id':Nat→Option (Nat × Nat × Nat)} {e:Env} {m:T SB} {nx b:Nat} {h:Hp} {F:FootE} (hR:Rl (HL (E.bC w I id)) e ⟨m,nx,xH b h⟩ w' F):Rl (HL (E.bC w I' id')) e ⟨m,nx,xH b h⟩ w' F:=by
 obtain ⟨c,F0,k⟩:∃ c F0,HXAt (E.bC w I id) e b h w' F c F0:=hR.ext.2
 have h1:=hR.ext.1
 exact ⟨hR.blk,hR.dis,hR.old,hR.dom,hR.sib,⟨⟨h1.1,fun d hd=>h1.2.1 d ((bC_fix d).2 ((bC_fix d).1 hd)),h1.2.2.1,nofun⟩,⟨c,F0,k.at_,k.hr,k.ok,fun d=>(k.iff d).trans (or_congr Iff.rfl ((bC_fix d).trans (bC_fix d).symm)),fun d hd=>k.nf d ((bC_fix d).2 ((bC_fix d).1 hd))⟩⟩⟩
noncomputable abbrev goX (ext:ExtT) (fo:Nat→Option (List SV)) (f N:Nat) (l:List Code) (s:SS):ExR HX:=runL ext fo 100000 100 f N l s.1 s.2
abbrev QTX (ext:ExtT) (fo:Nat→Option (List SV)) (f N:Nat) (live:Live) (keep:List Nat) (nx:Nat) (l:List Code) (s s2:SS) (x:Ex) (tl:TL):Prop :=
 outC live keep nx (goX ext fo f N l (s.tell tl.sc))=outD x s2.1 s2.2 (tl.ps []) (goX ext fo f N l (s.tell tl.sc))
theorem QTX.code {w0:B0} {fo:Nat→Option (List SV)} {fn:Nat} (hH:Hd w0 fo fn) {ext:ExtT} (hx:∀ f h,ext f=some h→extP f h) {f N:Nat} {live:Live} {keep:List Nat} {nx:Nat} {l:List Code} {s s2:SS} {x:Ex} {tl:TL}
  (h:QTX ext fo f N live keep nx l s s2 x tl) (hp:(l.all fun c=>planOkC (plan f) c)=true) (ht:tl.ok) (hid:∀ b,b < fn→(b,b)∈live) :
  CodeL w0 N l s.1 s.2 (fun x' tm' st'=>x'=x∧tm'=s2.1∧st'=s2.2):=by
 obtain ⟨tm,m,nx0,hx0⟩:=s
 exact CodeL.sc (x':=⟨hx0.h,0,tl.sc,[],[]⟩) rfl (CodeL.runG hH hx hp h (TL.ps_all tl [] ht trivial) hid)
abbrev QEX (ext:ExtT) (fo:Nat→Option (List SV)) (f N:Nat) (rs:Array ResultVar) (l:List Code) (s:SS) (tl:TL):Prop:=endC rs (goX ext fo f N l (s.tell tl.sc))=endD (tl.ps []) (goX ext fo f N l (s.tell tl.sc))
theorem QEX.code {w0:B0} {fo:Nat→Option (List SV)} {fn:Nat} (hH:Hd w0 fo fn) {ext:ExtT} (hx:∀ f h,ext f=some h→extP f h) {f N:Nat} {rs:Array ResultVar} {l:List Code} {s:SS} {tl:TL}
  (h:QEX ext fo f N rs l s tl) (hp:(l.all fun c=>planOkC (plan f) c)=true) (ht:tl.ok) :
  CodeL w0 N l s.1 s.2 (fun x tm' st'=>(x=.normal∨x=.ret)∧resS Tryz.prog st'.m tm' rs=some (.bool true)):=by
 obtain ⟨tm,m,nx0,hx0⟩:=s
 exact CodeL.sc (x':=⟨hx0.h,0,tl.sc,[],[]⟩) rfl (CodeL.runE hH hx hp h (TL.ps_all tl [] ht trivial))
abbrev QAX (ext:ExtT) (fo:Nat→Option (List SV)) (f N:Nat) (live:Live) (keep:List Nat) (nx:Nat) (l:List Code) (is:List Nat) (s s2:Nat→SS) (x:Ex) (tl:Nat→TL):Prop :=
 (is.map fun i=>outC live keep nx (goX ext fo f N l ((s i).tell (tl i).sc)))=is.map fun i=>outD x (s2 i).1 (s2 i).2 ((tl i).ps []) (goX ext fo f N l ((s i).tell (tl i).sc))
theorem QAX.at {ext:ExtT} {fo:Nat→Option (List SV)} {f N:Nat} {live:Live} {keep:List Nat} {nx:Nat} {l:List Code} {is:List Nat} {s s2:Nat→SS} {x:Ex} {tl:Nat→TL} (h:QAX ext fo f N live keep nx l is s s2 x tl) {i:Nat} (hi:i∈is):QTX ext fo f N live keep nx l (s i) (s2 i) x (tl i):=List.map_inj_left.1 h i hi
end
section
set_option maxRecDepth 100000
open Go.RowKit
def addN (m:T SB) (nx:Nat):List SB→T SB
 | []=>m
 | k :: t=>addN (m.upd nx (some k)) (Nat.add nx 1) t
theorem addN_out:∀ (l:List SB) (m:T SB) (nx:Nat),∀ c,(c < nx∨nx + l.length≤c)→(addN m nx l).get c=m.get c
 | [],_,_,_,_=>rfl
 | k :: t,m,nx,c,h=>by
  have e:(addN m nx (k :: t)).get c=(m.upd nx (some k)).get c:=addN_out t (m.upd nx (some k)) (nx + 1) c (by simp only [List.length_cons] at h;omega)
  rw [e,T.upd_ne _ _ (by simp only [List.length_cons] at h;omega)]
theorem addN_in:∀ (l:List SB) (m:T SB) (nx:Nat),nx + l.length≤TMax→∀ i k,l[i]?=some k→(addN m nx l).get (nx + i)=some k
 | k0 :: t,m,nx,h,0,k,hk=>by
  simp only [List.length_cons] at h
  have e:(addN m nx (k0 :: t)).get (nx + 0)=(m.upd nx (some k0)).get nx:=addN_out t (m.upd nx (some k0)) (nx + 1) nx (.inl (Nat.lt_succ_self _))
  rw [e,T.upd_same _ _ (by omega)]
  simpa using hk
 | k0 :: t,m,nx,h,i + 1,k,hk=>by
  simp only [List.length_cons] at h
  have:=addN_in t (m.upd nx (some k0)) (nx + 1) (by omega) i k (by simpa using hk)
  rw [show nx + (i + 1)=nx + 1 + i by omega]
  exact this
theorem addN_get {l:List SB} {m:T SB} {nx:Nat} (h:nx + l.length≤TMax) {c:Nat} {k:SB} (hk:(addN m nx l).get c=some k):(nx≤c∧c < nx + l.length∧l[c - nx]?=some k)∨((c < nx∨nx + l.length≤c)∧m.get c=some k):=by
 by_cases hc:c < nx∨nx + l.length≤c
 ·exact .inr ⟨hc,by rw [addN_out l m nx c hc] at hk;exact hk⟩
 ·refine .inl ⟨by omega,by omega,?_⟩
  have hi:c - nx < l.length:=by omega
  have h2:=addN_in l m nx h (c - nx) l[c - nx] (List.getElem?_eq_getElem hi)
  rw [show nx + (c - nx)=c by omega,hk] at h2
  rw [List.getElem?_eq_getElem hi]
  exact h2.symm
def renKs (ρ:Nat→Option Nat):List SB→Option (List SB)
 | []=>some []
 | k :: t=>match SB.ren ρ k with
  | some x=>(match renKs ρ t with
   | some l=>some (x :: l)
   | none=>none)
  | none=>none
theorem renKs_ok {ρ:Nat→Option Nat}:∀ {ks l:List SB},renKs ρ ks=some l→l.length=ks.length∧∀ (i:Nat) (k:SB),l[i]?=some k→∃ k3,ks[i]?=some k3∧SB.ren ρ k3=some k
 | [],l,h=>by cases h;exact ⟨rfl,fun i k hi=>by simp at hi⟩
 | k0 :: t,l,h=>by
  unfold renKs at h
  split at h
  ·rename_i x hx
   split at h
   ·rename_i l0 hl
    cases h
    obtain ⟨h1,h2⟩:=renKs_ok hl
    refine ⟨by simp [h1],fun i k hi=>?_⟩
    cases i with
    | zero=>simp at hi;subst hi;exact ⟨k0,rfl,hx⟩
    | succ i=>simpa using h2 i k (by simpa using hi)
   ·cases h
  ·cases h
def rhoN (b y nx K d:Nat):Option Nat:=bif Nat.beq d 0 then some b else bif Nat.beq d 1 then some y else bif Nat.blt d (Nat.add K 2) then some (Nat.add nx (Nat.sub d 2)) else none
theorem rhoN_cases {b y nx K d c:Nat} (h:rhoN b y nx K d=some c):(d=0∧c=b)∨(d=1∧c=y)∨(2≤d∧d < K + 2∧c=nx + (d - 2)):=by
 unfold rhoN at h
 cases h0:Nat.beq d 0 with
 | true=>rw [h0] at h;cases h;exact .inl ⟨Nat.eq_of_beq_eq_true h0,rfl⟩
 | false =>
  rw [h0,cond_false] at h
  have n0:d≠0:=Nat.ne_of_beq_eq_false h0
  cases h1:Nat.beq d 1 with
  | true=>rw [h1] at h;cases h;exact .inr (.inl ⟨Nat.eq_of_beq_eq_true h1,rfl⟩)
  | false =>
   rw [h1,cond_false] at h
   have n1:d≠1:=Nat.ne_of_beq_eq_false h1
   cases h2:Nat.blt d (Nat.add K 2) with
   | false=>rw [h2] at h;cases h
   | true =>
    rw [h2,cond_true] at h;cases h
    have:d < K + 2:=by simpa [Nat.blt_eq] using h2
    exact .inr (.inr ⟨by omega,this,rfl⟩)
theorem rhoN_2 {b y nx K d:Nat} (h:2≤d) (h2:d < K + 2):rhoN b y nx K d=some (nx + (d - 2)):=by
 unfold rhoN
 have a0:Nat.beq d 0=false:=by cases hq:Nat.beq d 0 with | false=>rfl | true=>have:=Nat.eq_of_beq_eq_true hq;omega
 have a1:Nat.beq d 1=false:=by cases hq:Nat.beq d 1 with | false=>rfl | true=>have:=Nat.eq_of_beq_eq_true hq;omega
 have a2:Nat.blt d (Nat.add K 2)=true:=by rw [Nat.blt_eq];exact h2
 rw [a0,cond_false,a1,cond_false,a2,cond_true];rfl
theorem callN_of {f:Nat} {g:Func} {c:Code} {k0 k1:SB} {ks:List SB} {v:SV}
  (hf:Tryz.prog.funcs[f]?=some g) (hc:g.body=some c) (hl:1≤g.ntmps) (hw:k0.wr=true) (hs:k0.sib=[]) (hr0:∀ ρ,SB.ren ρ k0=some k0) (hv:∀ ρ,SV.ren ρ renF v=some v)
  (H:∀ (w0:B0) (h:Hp),Hd w0 fo0 2→CodeQ w0 g.ntmps c (initT [.ptr 1 0] 0 .e) ⟨T.upd .e 1 (some k0),2,xH 0 h⟩ fun x tm st=>(x=.normal∨x=.ret)∧resS Tryz.prog st.m tm g.results=some v∧st=⟨addN (T.upd .e 1 (some k1)) 2 ks,ks.length + 2,xH 0 h⟩)
  {w0:B0} {e:Env} {m:T SB} {nx:Nat} {w:World} {F:FootE} {us:List Value} {b y:Nat} {h:Hp} {k2:SB} {l:List SB} (hy:m.get y=some k0) (hyM:y < TMax) (hK:nx + ks.length < TMax) (hkl:renKs (rhoN b y nx ks.length) (k1 :: ks)=some (k2 :: l))
  (hR:Rl (HL w0) e ⟨m,nx,xH b h⟩ w F) (hvs0:VRs e [.ptr y 0] us) :
  Calls Tryz.prog f ⟨us⟩ w fun en w'=>∃ u e' F',en=.returned u∧VR e' v u∧Rl (HL w0) e' ⟨(addN m nx l).upd y (some k2),nx + ks.length,xH b h⟩ w' F'∧Nxt nx e ⟨m,nx,xH b h⟩ w F e' ⟨(addN m nx l).upd y (some k2),nx + ks.length,xH b h⟩ w' F':=by
 obtain ⟨c0,F0,hX⟩:∃ c0 F0,HXAt w0 e b h w F c0 F0:=hR.ext.2
 have hRE:HXR w0 e (xH b h) w F:=hR.ext
 have hG:Gl w:=hRE.gl
 have hFix:=hRE.tab
 obtain ⟨z0,hz0⟩:=hX.at_
 have hFc:F c0:=(hX.iff c0).2 (.inl (by obtain ⟨L,r⟩:=hX.hr;exact r.own.1))
 have hmn:m.get b=none:=by
  cases hq:m.get b with
  | none=>rfl
  | some k=>exact absurd hFc (hR.blk b k c0 0 z0 hq hz0).1
 have hby:b≠y:=fun hq=>by rw [hq,hy] at hmn;cases hmn
 have hey:∃ x,e y=some x:=ptrs_some hvs0 (b:=y) (by simp [ptr1])
 obtain ⟨live,hlive⟩:∃ live:Live,live=[(b,0),(y,1)]:=⟨_,rfl⟩
 have hin0:(b,0)∈live:=by rw [hlive];exact List.mem_cons_self ..
 have hin1:(y,1)∈live:=by rw [hlive];exact List.mem_cons_of_mem _ (List.mem_cons_self ..)
 have hinc:∀ p∈live,p=(b,0)∨p=(y,1):=fun p hp=>by rw [hlive] at hp;simpa using hp
 have hbq:Nat.beq y b=false:=by
  cases hq:Nat.beq y b with
  | false=>rfl
  | true=>exact absurd (Nat.eq_of_beq_eq_true hq).symm hby
 have hlv:liveOk 2 live=true:=by
  rw [hlive];simp only [liveOk,List.all_cons,List.all_nil,hbq];rfl
 have hgc:gc live [] 2 .e ⟨m,nx,xH b h⟩=some (.e,⟨T.upd .e 1 (some k0),2,xH 0 h⟩):=by
  unfold E.gc
  rw [hlv,cond_true]
  have h1:gcM (toNew live) m live=some (T.upd .e 1 (some k0)):=by
   rw [hlive];simp only [gcM,hmn,hy,hr0]
  simp only [h1,gcT,gcX,mem_toNew hlv hin0]
 obtain ⟨F1,hF1⟩:∃ F1:FootE,F1=fun d=>F0 d∨d=0∨d=2:=⟨_,rfl⟩
 have hF10:∀ d,F1 d↔F0 d∨d=0∨d=2:=fun d=>by rw [hF1]
 have hF1F:∀ d,F1 d→F d:=fun d hd=>by
  rcases (hF10 d).1 hd with h1 | h1 | h1
  ·exact (hX.iff d).2 (.inl h1)
  ·exact hFix d (.inl h1)
  ·exact hFix d (.inr (.inl h1))
 have hB:∀ (I:Nat→Prop) (id:Nat→Option (Nat × Nat × Nat)) d,Fix (E.bC w I id) d↔d=0∨d=2:=fun I id d=>bC_fix d
 have hRA:∀ (I:Nat→Prop) (id:Nat→Option (Nat × Nat × Nat)),Rl (HL (E.bC w I id)) e ⟨m,nx,xH b h⟩ w F1:=fun I id =>
  ⟨fun y k c o z r1 r2=>⟨fun hc=>(hR.blk y k c o z r1 r2).1 (hF1F c hc),(hR.blk y k c o z r1 r2).2⟩,hR.dis,hR.old,hR.dom,hR.sib,
   ⟨⟨hG,fun _ _=>rfl,Nat.le_refl _,nofun⟩,⟨c0,F0,hX.at_,hX.hr,hX.ok,fun d=>by rw [hF10,hB],fun d hd=>by
    rcases (hB I id d).1 hd with h1 | h1
    ·exact hX.nf d (.inl h1)
    ·exact hX.nf d (.inr (.inl h1))⟩⟩⟩
 obtain ⟨e2,-,-,hmem,hdom,hget,hR2,-,ho2⟩:=gc_ex (w0:=E.bC w (Im e ⟨m,nx,xH b h⟩ F1) (fun _=>none)) (fn:=0) ⟨nofun,nofun,nofun⟩ (tm:=.e) (ts:=#[]) (hRA _ _) (fun t v ht=>by simp at ht) ⟨BlI.refl,nofun,fun c _ hi=>.inl hi⟩ (fun b hb=>absurd hb (Nat.not_lt_zero b)) hgc
 obtain ⟨Is,hIs⟩:∃ Is:Nat→Prop,Is=Im e2 ⟨T.upd .e 1 (some k0),2,xH 0 h⟩ F1:=⟨_,rfl⟩
 have hIF:∀ d,d < w.heap.size→Is d→Im e ⟨m,nx,xH b h⟩ F d:=fun d hd hi=>by
  rw [hIs] at hi
  rcases ho2.im d hd hi with h1 | h1
  ·rcases h1 with h1 | h1
   ·exact .inl (hF1F d h1)
   ·exact .inr h1
  ·refine .inl (hFix d ?_)
   rcases (hB _ _ d).1 h1 with h1 | h1
   ·exact .inl h1
   ·exact .inr (.inl h1)
 have hmwr:∀ b' d kk,(b',d)∈live→m.get b'=some kk→kk.wr=true∧kk.sib=[]:=fun b' d kk t1 t2=>by
  rcases hinc _ t1 with hq | hq
  ·cases hq;rw [hmn] at t2;cases t2
  ·cases hq;rw [hy] at t2;cases t2;exact ⟨hw,hs⟩
 have hno:∀ y' k cc o z,m.get y'=some k→e y'=some (cc,o,z)→y'≠y→¬ Is cc:=fun y' k cc o z r1 r2 hne0 hi=>by
  rw [hIs] at hi
  rcases hi with hi | ⟨d',k',o',z',s1,s2⟩
  ·exact (hR.blk y' k cc o z r1 r2).1 (hF1F cc hi)
  ·obtain ⟨b',kk,t1,t2⟩:=hget d' k' s1
   rw [hmem b' d' t1] at s2
   have hne:b'≠y':=fun hq=>by
    rcases hinc _ t1 with h1 | h1
    ·cases h1;rw [hmn] at t2;cases t2
    ·cases h1;exact hne0 hq.symm
   obtain ⟨u1,u2⟩:=hmwr b' d' kk t1 t2
   rcases hR.dis b' y' kk k cc o' z' cc o z t2 r1 hne u1 s2 r2 with q | ⟨q,-⟩
   ·exact q rfl
   ·rw [u2] at q;cases q
 have hnoF:∀ d,Fix w0 d→d≠0→d≠2→¬ Is d:=fun d hd h0 h2 hi=>by
  rw [hIs] at hi
  rcases hi with hi | ⟨d',k',o',z',s1,s2⟩
  ·rcases (hF10 d).1 hi with h1 | h1 | h1
   ·exact hX.nf d hd h1
   ·exact h0 h1
   ·exact h2 h1
  ·obtain ⟨b',kk,t1,t2⟩:=hget d' k' s1
   rw [hmem b' d' t1] at s2
   exact (hR.blk b' kk d o' z' t2 s2).1 (hFix d hd)
 obtain ⟨wB,hwB⟩:∃ wB:B0,wB=E.bC w Is (fun d=>if d < 2 then e2 d else none):=⟨_,rfl⟩
 have hHd:Hd wB fo0 2:=by
  subst hwB
  refine ⟨rfl,⟨nofun,nofun,fun d x hd=>?_⟩,nofun⟩
  replace hd:(if d < 2 then e2 d else none)=some x:=hd
  split at hd
  ·assumption
  ·cases hd
 have hvs2:VRs e2 [.ptr 1 0] us:=by
  cases hvs0 with
  | cons h1 h2 =>
   cases h2
   cases h1 with
   | ptr hb=>exact .cons (.ptr ((hmem y 1 hin1).trans hb)) .nil
 have hlen:us.length=1:=(hvs2.length).symm
 have hOwn:Own wB e2 ⟨T.upd .e 1 (some k0),2,xH 0 h⟩ w F1:=by
  subst hwB
  refine ⟨BlI.refl,fun d x hd=>?_,fun c _ hi=>.inl (by show Is c;rw [hIs];exact hi)⟩
  replace hd:(if d < 2 then e2 d else none)=some x:=hd
  split at hd
  ·exact hd
  ·cases hd
 refine calls_of_wp hf hc (H wB h hHd _ w _ ⟨⟨e2,F1,by subst hwB;exact hR2.bC,?_,hOwn⟩,?_,rfl⟩ fun x tm st a' w' ⟨hx,hres,hst⟩ hA=>?_)
 ·refine initT_ok hvs2 (fun t v ht=>by simp at ht) (by simp [TMax]) fun j u hj=>?_
  have hj2:=(List.getElem?_eq_some_iff.1 hj).1
  rw [Array.getElem?_append_left (by simp;omega)]
  simpa using hj
 ·simp;omega
 ·subst hst
  obtain ⟨e',F',hR',ha',ho'⟩:=hA.ex
  obtain ⟨u,q1,q2⟩:=resS_ok hR' ha' hres
  have hds:=hA.ds
  obtain ⟨K,hKK⟩:∃ K,K=ks.length:=⟨_,rfl⟩
  obtain ⟨M3,hM3⟩:∃ M3,M3=addN (T.upd .e 1 (some k1)) 2 ks:=⟨_,rfl⟩
  obtain ⟨ρ,hρ0⟩:∃ ρ,ρ=rhoN b y nx ks.length:=⟨_,rfl⟩
  rw [← hM3] at hR' ho'
  rw [← hρ0] at hkl
  rw [← hKK] at hR' ho' hK hρ0 ⊢
  obtain ⟨hl1,hl2⟩:=renKs_ok hkl
  have hll:l.length=K:=by rw [hKK];simpa using hl1
  have hbn:b < nx:=hR.dom b _ hz0
  have hyn:y < nx:=hR.old y _ hy
  have hid:∀ p∈live,e' p.2=e p.1:=fun p hp=>by
   have:∃ x,e p.1=some x:=by
    rcases hinc p hp with h1 | h1<;>rw [h1]
    ·exact ⟨_,hz0⟩
    ·exact hey
   obtain ⟨x,hx⟩:=this
   rw [hx]
   refine ho'.id p.2 x ?_
   rw [hwB]
   show (if p.2 < 2 then e2 p.2 else none)=some x
   rw [if_pos (live_lt hlv hp).1,hmem p.1 p.2 hp,hx]
  obtain ⟨E',hE'⟩:∃ E':Env,E'=fun d=>if d < nx then e d else if d < nx + K then e' (d - nx + 2) else none:=⟨_,rfl⟩
  have hE1:∀ d,d < nx→E' d=e d:=fun d hd=>by rw [hE'];simp only [if_pos hd]
  have hE2:∀ i,i < K→E' (nx + i)=e' (i + 2):=fun i hi=>by rw [hE'];simp only [if_neg (show ¬ nx + i < nx by omega),if_pos (show nx + i < nx + K by omega),show nx + i - nx=i by omega]
  have hle:e.le E':=fun d x hd=>(hE1 d (hR.dom d x hd)).trans hd
  have hρ:∀ d c,ρ d=some c→E' c=e' d:=fun d c hd=>by
   rw [hρ0] at hd
   rcases rhoN_cases hd with ⟨rfl,rfl⟩ | ⟨rfl,rfl⟩ | ⟨r1,r2,rfl⟩
   ·exact (hE1 _ hbn).trans (hid _ hin0).symm
   ·exact (hE1 _ hyn).trans (hid _ hin1).symm
   ·rw [hE2 _ (by omega),show d - 2 + 2=d by omega]
  -- which blocks there are now
  have hcl:∀ c k,((addN m nx l).upd y (some k2)).get c=some k→(∃ d k3,M3.get d=some k3∧SB.ren ρ k3=some k∧ρ d=some c)∨(c < nx∧c≠y∧m.get c=some k):=fun c k hk=>by
   rw [T.get_upd _ _ hyM] at hk
   by_cases hcy:c=y
   ·rw [if_pos hcy] at hk
    cases hk
    obtain ⟨k3,r1,r2⟩:=hl2 0 k2 rfl
    simp at r1
    subst r1
    refine .inl ⟨1,k1,?_,r2,by rw [hρ0,hcy];rfl⟩
    rw [hM3,addN_out ks _ 2 1 (.inl (by omega)),T.upd_same _ _ (by simp [TMax])]
   ·rw [if_neg hcy] at hk
    rcases addN_get (by omega) hk with ⟨r1,r2,r3⟩ | ⟨r1,r2⟩
    ·obtain ⟨k3,s1,s2⟩:=hl2 (c - nx + 1) k (by simpa using r3)
     simp at s1
     refine .inl ⟨2 + (c - nx),k3,?_,s2,?_⟩
     ·rw [hM3];exact addN_in ks _ 2 (by omega) _ _ s1
     ·rw [hρ0,rhoN_2 (by omega) (by omega)];congr 1;omega
    ·exact .inr ⟨hR.old c k r2,hcy,r2⟩
  have hbl':=ho'.bl
  have him:=ho'.im
  have hRx:HXR wB e' (xH 0 h) w' F':=hR'.ext
  have hw0:wB.w=w:=by rw [hwB];rfl
  have hI0:wB.I=Is:=by rw [hwB];rfl
  have hFx:∀ d,Fix wB d↔d=0∨d=2:=fun d=>by rw [hwB];exact hB _ _ d
  have hat:∀ d,d < w.heap.size→¬ Is d→w'.heap[d]?=w.heap[d]?:=fun d hd hn=>by
   have:=hbl'.at_ d (by rw [hw0];exact hd) (by rw [hI0];exact hn)
   rw [this,hw0]
  have himI:∀ d,d < w.heap.size→Im e' ⟨M3,K + 2,xH 0 h⟩ F' d→Is d∨d=0∨d=2:=fun d hd hi=>by
   rcases him d (by rw [hw0];exact hd) hi with h1 | h1
   ·left;rw [hI0] at h1;exact h1
   ·exact .inr ((hFx d).1 h1)
  have hF'I:∀ d,d < w.heap.size→F' d→Is d∨d=0∨d=2:=fun d hd hF=>himI d hd (.inl hF)
  have hsz:w.heap.size≤w'.heap.size:=by have:=hbl'.sz;rw [hw0] at this;exact this
  obtain ⟨c1,F2,hX'⟩:∃ c1 F2,HXAt wB e' 0 h w' F' c1 F2:=hRx.2
  have hlt0:∀ d,Fix w0 d→d < w.heap.size:=fun d hd=>(HL w0).lt _ _ _ _ hR.ext d (hFix d hd)
  have h02:∀ d,d=0∨d=2→F d:=fun d hd=>hFix d (hd.elim .inl fun h=>.inr (.inl h))
  have h02':∀ d,d=0∨d=2→F' d:=fun d hd=>(hX'.iff d).2 (.inr ((hFx d).2 hd))
  obtain ⟨FF,hFF⟩:∃ FF:FootE,FF=fun d=>F' d∨Fix w0 d:=⟨_,rfl⟩
  have hFFi:∀ d,FF d↔F' d∨Fix w0 d:=fun d=>by rw [hFF]
  -- a block of the callee's: where it lies
  have hnew:∀ d k3 cc o z,M3.get d=some k3→e' d=some (cc,o,z)→¬ F' cc∧(cc < w.heap.size→Is cc)∧¬ Fix w0 cc:=fun d k3 cc o z r1 r2=>by
   have hnF:=(hR'.blk d k3 cc o z r1 r2).1
   have hI:cc < w.heap.size→Is cc:=fun hlt=>by
    rcases himI cc hlt (.inr ⟨d,k3,o,z,r1,r2⟩) with h1 | h1
    ·exact h1
    ·exact absurd (h02' cc h1) hnF
   refine ⟨hnF,hI,fun hf=>hnoF cc hf (fun h0=>hnF (h02' cc (.inl h0))) (fun h0=>hnF (h02' cc (.inr h0))) (hI (hlt0 cc hf))⟩
  have hRF:Rl (HL w0) E' ⟨(addN m nx l).upd y (some k2),nx + K,xH b h⟩ w' FF:=by
   refine ⟨fun c k cc o z r1 r2=>?_,fun x1 x2 b1 b2 c o z c' o' z' r1 r2 r3 r4 r5 r6=>?_,fun c k r1=>?_,fun c x r1=>?_,fun x1 b1 r1 r2 y1 r3=>?_,⟨⟨hRE.1.1,fun d hd=>?_,Nat.le_trans hRE.1.2.2.1 hsz,hRE.1.2.2.2.mono hle⟩,⟨c1,F2,?_,hX'.hr,hX'.ok,fun d=>?_,fun d hd=>?_⟩⟩⟩
   ·rcases hcl c k r1 with ⟨d,k3,s1,s2,s3⟩ | ⟨s1,s2,s3⟩
    ·rw [hρ d c s3] at r2
     obtain ⟨t1,t2,t3⟩:=hnew d k3 cc o z s1 r2
     exact ⟨fun hff=>((hFFi cc).1 hff).elim t1 t3,SB.ren_ok hρ s2 (hR'.blk d k3 cc o z s1 r2).2⟩
    ·rw [hE1 c s1] at r2
     obtain ⟨t1,t2⟩:=hR.blk c k cc o z s3 r2
     have hn:=hno c k cc o z s3 r2 s2
     refine ⟨fun hff=>?_,t2.keep hle (hat cc t2.lt hn)⟩
     rcases (hFFi cc).1 hff with h1 | h1
     ·rcases hF'I cc t2.lt h1 with h2 | h2
      ·exact hn h2
      ·exact t1 (h02 cc h2)
     ·exact t1 (hFix cc h1)
   ·rcases hcl x1 b1 r1 with ⟨d,k3,s1,s2,s3⟩ | ⟨s1,s2,s3⟩
    ·rw [hρ d x1 s3] at r5
     rcases hcl x2 b2 r2 with ⟨d',k3',s1',s2',s3'⟩ | ⟨s1',s2',s3'⟩
     ·rw [hρ d' x2 s3'] at r6
      obtain ⟨q1,q2,q3⟩:=SB.ren_wr s2
      obtain ⟨q1',q2',q3'⟩:=SB.ren_wr s2'
      rcases hR'.dis d d' k3 k3' c o z c' o' z' s1 s1' (fun hq=>r3 (by rw [hq,s3'] at s3;exact (Option.some.inj s3).symm)) (by rw [← q1];exact r4) r5 r6 with t | ⟨t1,t2,t3⟩
      ·exact .inl t
      ·exact .inr ⟨q3 _ _ s3' t1,by rw [q1'];exact t2,by rw [q2,q2'];exact t3⟩
     ·rw [hE1 x2 s1'] at r6
      refine .inl fun hq=>?_
      subst hq
      have:=(hR.blk x2 b2 c o' z' s3' r6).2.lt
      exact hno x2 b2 c o' z' s3' r6 s2' ((hnew d k3 c o z s1 r5).2.1 this)
    ·rw [hE1 x1 s1] at r5
     rcases hcl x2 b2 r2 with ⟨d',k3',s1',s2',s3'⟩ | ⟨s1',s2',s3'⟩
     ·rw [hρ d' x2 s3'] at r6
      refine .inl fun hq=>?_
      subst hq
      have:=(hR.blk x1 b1 c o z s3 r5).2.lt
      exact hno x1 b1 c o z s3 r5 s2 ((hnew d' k3' c o' z' s1' r6).2.1 this)
     ·rw [hE1 x2 s1'] at r6
      exact hR.dis x1 x2 b1 b2 c o z c' o' z' s3 s3' r3 r4 r5 r6
   ·rcases hcl c k r1 with ⟨d,k3,s1,s2,s3⟩ | ⟨s1,s2,s3⟩
    ·rw [hρ0] at s3
     show c < nx + K
     rcases rhoN_cases s3 with ⟨-,h1⟩ | ⟨-,h1⟩ | ⟨h0,h1,h2⟩<;>omega
    ·exact Nat.lt_of_lt_of_le s1 (Nat.le_add_right _ _)
   ·show c < nx + K
    rw [hE'] at r1
    simp only at r1
    split at r1
    ·omega
    ·split at r1
     ·assumption
     ·cases r1
   ·rcases hcl x1 b1 r1 with ⟨d,k3,s1,s2,s3⟩ | ⟨s1,s2,s3⟩
    ·rw [hρ d x1 s3] at r2
     obtain ⟨d',t1,t2⟩:=SB.ren_sib s2 y1 r3
     rw [hρ _ _ t2]
     exact hR'.sib d k3 s1 r2 d' t1
    ·rw [hE1 x1 s1] at r2
     have h3:=hR.sib x1 b1 s3 r2 y1 r3
     intro hn
     cases hq:e y1 with
     | none=>exact h3 hq
     | some x=>rw [hle y1 x hq] at hn;cases hn
   ·refine Eq.trans ?_ (hRE.1.2.1 d hd)
    by_cases h0:d=0∨d=2
    ·have:=hRx.1.2.1 d ((hFx d).2 h0)
     rw [this,hw0]
    ·exact hat d (hlt0 d hd) (hnoF d hd (fun h=>h0 (.inl h)) (fun h=>h0 (.inr h)))
   ·obtain ⟨z,hz⟩:=hX'.at_
    exact ⟨z,(hρ 0 b (by rw [hρ0];rfl)).trans hz⟩
   ·rw [hFFi,hX'.iff d,hFx]
    constructor
    ·rintro ((h1 | h1) | h1)
     ·exact .inl h1
     ·exact .inr (h1.elim .inl fun h=>.inr (.inl h))
     ·exact .inr h1
    ·rintro (h1 | h1)
     ·exact .inl (.inl h1)
     ·exact .inr h1
   ·intro h2
    have h3:F' d:=(hX'.iff d).2 (.inl h2)
    by_cases h0:d=0∨d=2
    ·exact hX'.nf d ((hFx d).2 h0) h2
    ·rcases hF'I d (hlt0 d hd) h3 with h1 | h1
     ·exact hnoF d hd (fun h=>h0 (.inl h)) (fun h=>h0 (.inr h)) h1
     ·exact h0 h1
  have hN:Nxt nx e ⟨m,nx,xH b h⟩ w F E' ⟨(addN m nx l).upd y (some k2),nx + K,xH b h⟩ w' FF:=by
   have q1:=hbl'.os
   have q2:=hbl'.tape
   have q3:=hbl'.output
   rw [hw0] at q1 q2 q3
   refine ⟨hle,q1,q2,q3,hsz,fun d hd hi=>hat d hd fun h1=>hi (hIF d hd h1),fun d hd hi=>?_,fun c hc he=>⟨(hE1 c hc).trans he,fun _=>?_⟩,Nat.le_add_right _ _⟩
   ·rcases hi with hi | ⟨c,k,o,z,r1,r2⟩
    ·rcases (hFFi d).1 hi with h1 | h1
     ·rcases hF'I d hd h1 with h2 | h2
      ·exact hIF d hd h2
      ·exact .inl (h02 d h2)
     ·exact .inl (hFix d h1)
    ·rcases hcl c k r1 with ⟨d',k3,s1,s2,s3⟩ | ⟨s1,s2,s3⟩
     ·rw [hρ d' c s3] at r2
      exact hIF d hd ((hnew d' k3 d o z s1 r2).2.1 hd)
     ·rw [hE1 c s1] at r2
      exact .inr ⟨c,k,o,z,s3,r2⟩
   ·have hcy:c≠y:=fun hq=>by obtain ⟨x,hx⟩:=hey;rw [hq,hx] at he;cases he
    rw [T.upd_ne _ _ hcy]
    exact addN_out l m nx c (.inl hc)
  have hvu:VR E' v u:=SV.ren_ok hρ renF (hv ρ) q2
  rcases hx with rfl | rfl
  ·exact ⟨hds,_,q1,u,E',FF,rfl,hvu,hRF,hN⟩
  ·exact ⟨hds,_,q1,u,E',FF,rfl,hvu,hRF,hN⟩
def xPart (isK:SB→Bool) (k1:SB) (ks:List SB) (v:SV):ExtF:=fun vs st=>match st with
 | ⟨m,nx,⟨h,cnt,sc,pc,rc⟩⟩=>match h with
  | some (b,h0)=>match vs with
   | [.ptr y o]=>match m.get y with
    | some k=>bif isK k && Nat.beq o 0 && Nat.blt (Nat.add nx ks.length) TMax && Nat.blt y TMax then (match renKs (rhoN b y nx ks.length) (k1 :: ks) with
      | some (k2 :: l)=>some (v,⟨(addN m nx l).upd y (some k2),Nat.add nx ks.length,⟨some (b,h0),cnt,sc,pc,rc⟩⟩)
      | _=>none) else none
    | none=>none
   | _=>none
  | none=>none
theorem xPart_ok {f:Nat} {g:Func} {c:Code} {isK:SB→Bool} {k0 k1:SB} {ks:List SB} {v:SV} (hk:∀ k,isK k=true→k=k0)
  (hf:Tryz.prog.funcs[f]?=some g) (hc:g.body=some c) (hl:1≤g.ntmps) (hw:k0.wr=true) (hs:k0.sib=[]) (hr0:∀ ρ,SB.ren ρ k0=some k0) (hv:∀ ρ,SV.ren ρ renF v=some v)
  (H:∀ (w0:B0) (h:Hp),Hd w0 fo0 2→CodeQ w0 g.ntmps c (initT [.ptr 1 0] 0 .e) ⟨T.upd .e 1 (some k0),2,xH 0 h⟩ fun x tm st=>(x=.normal∨x=.ret)∧resS Tryz.prog st.m tm g.results=some v∧st=⟨addN (T.upd .e 1 (some k1)) 2 ks,ks.length + 2,xH 0 h⟩) :
  ExtOk f (xPart isK k1 ks v):=fun w0 vs st v' st' h=>by
 obtain ⟨m,nx,⟨hh,cnt,sc,pc,rc⟩⟩:=st
 unfold xPart at h
 split at h
 rename_i hq
 cases hq
 split at h
 ·rename_i b h0
  split at h
  ·rename_i y o
   split at h
   ·rename_i k hy
    cases hq:isK k && Nat.beq o 0 && Nat.blt (Nat.add nx ks.length) TMax && Nat.blt y TMax with
    | false=>rw [hq] at h;cases h
    | true =>
     rw [hq,cond_true] at h
     simp only [Bool.and_eq_true,Nat.blt_eq] at hq
     obtain ⟨⟨⟨q1,q2⟩,q3⟩,q4⟩:=hq
     have:=Nat.eq_of_beq_eq_true q2
     subst this
     have:=hk k q1
     subst this
     split at h
     ·rename_i k2 l hkl
      cases h
      intro hg
      refine ⟨hg,fun e w F us hR hvs=>?_⟩
      refine (callN_of hf hc hl hw hs hr0 hv H hy q4 q3 hkl hR.xs hvs).mono fun en w' ⟨u,e',F',r1,r2,r3,r4⟩=>?_
      exact ⟨u,e',F',r1,r2,r3.xs,r4.xs⟩
     ·cases h
   ·cases h
  ·cases h
 ·cases h
end
end Go.Proofs.YtbbokgpklihkoaaGreatDoor.W.E
