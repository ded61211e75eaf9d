/- LpB EvQ6 Hj LpC EvCp -/
import Derived.Test.YtlbcbikplfocfaaGreatDoorPart26
set_option linter.unusedVariables false
set_option linter.unusedSimpArgs false
namespace Go.Proofs.YtlbcbikplfocfaaGreatDoor.W.E
section
set_option maxRecDepth 100000
open Go.RowKit
def unLoop:Code→Code
 | .block _ (.loop c)=>c
 | c=>c
def atC (l:List Code) (k:Nat):Code:=match l[k]? with
 | some c=>c
 | none=>.skip
def mkT {α:Type}:List (Nat × α)→T α
 | []=>.e
 | p :: t=>(mkT t).upd p.1 (some p.2)
abbrev SS:=T SV × St HX
def Hp.nm (h:Hp):Hp:=⟨h.all,fun n=>occ n h.vals,h.last⟩
def SS.tell (s:SS) (sc:List (Nat × Sc)):SS:=(s.1,⟨s.2.m,s.2.nx,⟨s.2.x.h,0,sc,[],[]⟩⟩)
noncomputable abbrev goP (fo:Nat→Option (List SV)) (f N:Nat) (l:List Code) (s:SS):ExR HX:=runL extL fo 100000 100 f N l s.1 s.2
abbrev PT (fo:Nat→Option (List SV)) (f N:Nat) (live:Live) (keep:List Nat) (nx:Nat) (l:List Code) (s s2:SS) (x:Ex) (ps:List Prop):Prop :=
 outN live keep nx (goP fo f N l s)=outD x s2.1 s2.2 ps (goP fo f N l s)
abbrev PE (fo:Nat→Option (List SV)) (f N:Nat) (rs:Array ResultVar) (l:List Code) (s:SS) (ps:List Prop):Prop:=endC rs (goP fo f N l s)=endD ps (goP fo f N l s)
theorem PT.code {w0:B0} {fo:Nat→Option (List SV)} {fn:Nat} (hH:Hd w0 fo fn) {f N:Nat} {live:Live} {keep:List Nat} {nx:Nat} {l:List Code} {s s2:SS} {sc:List (Nat × Sc)} {x:Ex} {ps:List Prop}
  (h:PT fo f N live keep nx l (s.tell sc) s2 x ps) (hp:(l.all fun c=>planOkC (plan f) c)=true) (hps:AllP ps) (hid:∀ b,b < fn→(b,b)∈live) :
  CodeL w0 N l s.1 s.2 (fun x' tm' st'=>x'=x∧tm'=s2.1∧st'=s2.2):=by
 obtain ⟨tm,m,nx0,hx⟩:=s
 exact CodeL.sc (x':=⟨hx.h,0,sc,[],[]⟩) rfl (CodeL.runN hH extL_ok hp h hps hid)
theorem PE.code {w0:B0} {fo:Nat→Option (List SV)} {fn:Nat} (hH:Hd w0 fo fn) {f N:Nat} {rs:Array ResultVar} {l:List Code} {s:SS} {sc:List (Nat × Sc)} {ps:List Prop}
  (h:PE fo f N rs l (s.tell sc) ps) (hp:(l.all fun c=>planOkC (plan f) c)=true) (hps:AllP ps) :
  CodeL w0 N l s.1 s.2 (fun x tm' st'=>(x=.normal∨x=.ret)∧resS Tryz.prog st'.m tm' rs=some (.bool true)):=by
 obtain ⟨tm,m,nx0,hx⟩:=s
 exact CodeL.sc (x':=⟨hx.h,0,sc,[],[]⟩) rfl (CodeL.runE hH extL_ok hp h hps)
abbrev PA (fo:Nat→Option (List SV)) (f N:Nat) (live:Live) (keep:List Nat) (nx:Nat) (l:List Code) (is:List Nat) (s s2:Nat→SS) (x:Ex):Prop :=
 (is.map fun i=>outN live keep nx (goP fo f N l (s i)))=is.map fun i=>outD x (s2 i).1 (s2 i).2 [] (goP fo f N l (s i))
theorem PA.at {fo:Nat→Option (List SV)} {f N:Nat} {live:Live} {keep:List Nat} {nx:Nat} {l:List Code} {is:List Nat} {s s2:Nat→SS} {x:Ex} (h:PA fo f N live keep nx l is s s2 x) {i:Nat} (hi:i∈is):PT fo f N live keep nx l (s i) (s2 i) x []:=List.map_inj_left.1 h i hi
def wldAt (h:Nat) (out:List UInt8):SB:=.cells [.ptr h 0,.int .i64 4,.int .i64 19,.str [],.int .i64 4,.int .i64 20,.str [],.str out] false [] (some 55)
abbrev fo0:Nat→Option (List SV):=fun _=>none
theorem o_b {b c:Bool} (h:b=c):some (SV.bool b)=some (SV.bool c):=by rw [h]
theorem o_lt {x y:Int} (h:x < y):some (SV.bool (ltI x y))=some (SV.bool true):=o_b (by rw [ltI_eq];exact decide_eq_true h)
theorem o_nlt {x y:Int} (h:¬ x < y):some (SV.bool (ltI x y))=some (SV.bool false):=o_b (by rw [ltI_eq];exact decide_eq_false h)
theorem o_nne {x y:Int} (h:x=y):some (SV.bool (not (eqI x y)))=some (SV.bool false):=o_b (by rw [eqI_eq,beq_iff_eq.2 h];rfl)
theorem wrapI_eq (n:Int):IntKind.i64.wrap n=(n + 9223372036854775808) % 18446744073709551616 - 9223372036854775808:=by
 have e:IntKind.i64.wrap n=if n % 18446744073709551616 ≥ 9223372036854775808 then n % 18446744073709551616 - 18446744073709551616 else n % 18446744073709551616:=by
  simp [IntKind.wrap,IntKind.bits,IntKind.signed]
 rw [e]
 split<;>omega
theorem o_i {x y:Int} (h:(x + 9223372036854775808) % 18446744073709551616 - 9223372036854775808=y):some (SV.int .i64 (wrapF .i64 x))=some (SV.int .i64 y):=by rw [wrapF_eq,wrapI_eq,h]
theorem o_add {x y z:Int} (h:(x + y + 9223372036854775808) % 18446744073709551616 - 9223372036854775808=z):some (SV.int .i64 (wrapF .i64 (Int.add x y)))=some (SV.int .i64 z):=o_i h
theorem o_sub {x y z:Int} (h:(x - y + 9223372036854775808) % 18446744073709551616 - 9223372036854775808=z):some (SV.int .i64 (wrapF .i64 (Int.sub x y)))=some (SV.int .i64 z):=o_i h
end
section
open Go.RowKit
def xToldG (x:ExtF) (P:List SV→T SB→Nat→Option (Nat × Hp)→Sc→Option Prop):ExtF:=fun vs st=>match st with
 | ⟨m,nx,⟨h,cnt,sc,pc,rc⟩⟩=>match sc with
  | []=>x vs ⟨m,nx,⟨h,cnt,[],pc,rc⟩⟩
  | (k,s) :: t=>bif Nat.beq k cnt then (match P vs m nx h s with
    | some p=>nxtC cnt fun n=>toldS s ⟨m,nx,⟨h,n,t,p :: pc,rc⟩⟩
    | none=>none)
   else nxtC cnt fun n=>x vs ⟨m,nx,⟨h,n,(k,s) :: t,pc,rc⟩⟩
theorem xToldG_ok {f:Nat} {x:ExtF} {P:List SV→T SB→Nat→Option (Nat × Hp)→Sc→Option Prop} (hP:∀ vs m nx h s p,P vs m nx h s=some p→p→x vs ⟨m,nx,⟨h,0,[],[],[]⟩⟩=toldS s ⟨m,nx,⟨h,0,[],[],[]⟩⟩) (hx:ExtOk f x):ExtOk f (xToldG x P):=fun w0 vs st v st' h=>by
 obtain ⟨m,nx,⟨hh,cnt,sc,pc,rc⟩⟩:=st
 unfold xToldG at h
 cases sc with
 | nil=>exact hx w0 vs _ v st' h
 | cons p t =>
  obtain ⟨k,s⟩:=p
  simp only [nxtC_ok] at h
  cases hb:Nat.beq k cnt with
  | true =>
   rw [hb,cond_true] at h
   split at h
   ·rename_i q hq
    obtain ⟨m',nx',h',rfl,h2⟩:=toldS_ok h
    intro hg
    have hp:q:=hg.1 _ (List.mem_cons_self ..)
    have H:=hx w0 vs _ v _ ((hP _ _ _ _ _ _ hq hp).trans h2)
    refine ⟨⟨fun p hp=>hg.1 p (List.mem_cons_of_mem _ hp),hg.2⟩,fun e w F us hR hvs=>?_⟩
    refine ((H ⟨nofun,nofun⟩).2 e w F us hR.xs hvs).mono fun en w' ⟨u,e',F',q1,q2,q3,q4⟩=>?_
    exact ⟨u,e',F',q1,q2,q3.xs,q4.xs⟩
   ·cases h
  | false =>
   rw [hb,cond_false] at h
   intro hg
   obtain ⟨g1,H⟩:=hx w0 vs _ v st' h hg
   refine ⟨g1,fun e w F us hR hvs=>?_⟩
   refine (H e w F us hR.xs hvs).mono fun en w' ⟨u,e',F',q1,q2,q3,q4⟩=>?_
   obtain ⟨m',nx',x'⟩:=st'
   exact ⟨u,e',F',q1,q2,q3,q4.xs⟩
def mkP (h:Hp) (k:Int) (nm:List UInt8) (n:Int) (l:List V) (v:SV) (h':Hp):Prop:=smallB h l.length=true∧(get h.all (wrap64 (h.last + 1))).isNone=true∧(h.make k nm n l).2.sv=v∧(h.make k nm n l).1=h'
def repP (h:Hp) (x:V) (a b:Int) (l:List V) (v:SV) (h':Hp):Prop:=smallB h l.length=true∧fitsB h x l.length=true∧SV.bool (h.replace x a b l).2=v∧(h.replace x a b l).1=h'
def at_ (h:Option (Nat × Hp)) (p:SV):Option Hp:=heapAt ⟨h,0,[],[],[]⟩ p
def pMake (vs:List SV) (m:T SB) (_:Nat) (h:Option (Nat × Hp)) (s:Sc):Option Prop:=match vs with
 | [p,a0,a1,a2,a3]=>match at_ h p with
  | some hh=>match toI a0 with
   | some k=>match toS a1 with
    | some nm=>match toI a2 with
     | some n=>match rowV m a3 with
      | some l=>match s with
       | .res v h'=>some (mkP hh k nm n l v h')
       | _=>none
      | none=>none
     | none=>none
    | none=>none
   | none=>none
  | none=>none
 | _=>none
def pReplace (vs:List SV) (m:T SB) (_:Nat) (h:Option (Nat × Hp)) (s:Sc):Option Prop:=match vs with
 | [p,a0,a1,a2,a3]=>match at_ h p with
  | some hh=>match toV a0 with
   | some x=>match toI a1 with
    | some a=>match toI a2 with
     | some b=>match rowV m a3 with
      | some l=>match s with
       | .res v h'=>some (repP hh x a b l v h')
       | _=>none
      | none=>none
     | none=>none
    | none=>none
   | none=>none
  | none=>none
 | _=>none
theorem pMake_ok:∀ vs m nx h s p,pMake vs m nx h s=some p→p→xMake vs ⟨m,nx,⟨h,0,[],[],[]⟩⟩=toldS s ⟨m,nx,⟨h,0,[],[],[]⟩⟩:=by
 intro vs m nx h s p hp hq
 unfold pMake at hp
 split at hp<;>try (cases hp;done)
 split at hp<;>try (cases hp;done)
 split at hp<;>try (cases hp;done)
 split at hp<;>try (cases hp;done)
 split at hp<;>try (cases hp;done)
 split at hp<;>try (cases hp;done)
 split at hp<;>try (cases hp;done)
 rename_i e1 _ _ e2 _ _ e3 _ _ e4 _ _ e5 _ v h'
 cases hp
 obtain ⟨q1,q2,rfl,rfl⟩:=hq
 unfold at_ at e1
 simp only [xMake,e1,e2,e3,e4,e5,q1,q2,Bool.and_self,cond_true]
 rfl
theorem pReplace_ok:∀ vs m nx h s p,pReplace vs m nx h s=some p→p→xReplace vs ⟨m,nx,⟨h,0,[],[],[]⟩⟩=toldS s ⟨m,nx,⟨h,0,[],[],[]⟩⟩:=by
 intro vs m nx h s p hp hq
 unfold pReplace at hp
 split at hp<;>try (cases hp;done)
 split at hp<;>try (cases hp;done)
 split at hp<;>try (cases hp;done)
 split at hp<;>try (cases hp;done)
 split at hp<;>try (cases hp;done)
 split at hp<;>try (cases hp;done)
 split at hp<;>try (cases hp;done)
 rename_i e1 _ _ e2 _ _ e3 _ _ e4 _ _ e5 _ v h'
 cases hp
 obtain ⟨q1,q2,rfl,rfl⟩:=hq
 unfold at_ at e1
 simp only [xReplace,e1,e2,e3,e4,e5,q1,q2,Bool.and_self,cond_true]
 rfl
def pRow (f:Hp→V→List V) (vs:List SV) (_:T SB) (nx:Nat) (h:Option (Nat × Hp)) (s:Sc):Option Prop:=match vs with
 | [p,a0]=>match at_ h p with
  | some hh=>match toV a0 with
   | some x=>match s with
    | .row l=>bif Nat.blt nx TMax then some (f hh x=l) else none
    | _=>none
   | none=>none
  | none=>none
 | _=>none
theorem pItems_ok:∀ vs m nx h s p,pRow Hp.items vs m nx h s=some p→p→xItems vs ⟨m,nx,⟨h,0,[],[],[]⟩⟩=toldS s ⟨m,nx,⟨h,0,[],[],[]⟩⟩:=by
 intro vs m nx h s p hp hq
 unfold pRow at hp
 split at hp<;>try (cases hp;done)
 split at hp<;>try (cases hp;done)
 split at hp<;>try (cases hp;done)
 split at hp<;>try (cases hp;done)
 rename_i e1 _ _ e2 _ l
 cases hb:Nat.blt nx TMax with
 | false=>rw [hb] at hp;cases hp
 | true =>
  rw [hb,cond_true] at hp
  cases hp
  subst hq
  unfold at_ at e1
  simp only [xItems,e1,e2,hb,cond_true]
  rfl
theorem pKeys_ok:∀ vs m nx h s p,pRow Hp.keys vs m nx h s=some p→p→xKeys vs ⟨m,nx,⟨h,0,[],[],[]⟩⟩=toldS s ⟨m,nx,⟨h,0,[],[],[]⟩⟩:=by
 intro vs m nx h s p hp hq
 unfold pRow at hp
 split at hp<;>try (cases hp;done)
 split at hp<;>try (cases hp;done)
 split at hp<;>try (cases hp;done)
 split at hp<;>try (cases hp;done)
 rename_i e1 _ _ e2 _ l
 cases hb:Nat.blt nx TMax with
 | false=>rw [hb] at hp;cases hp
 | true =>
  rw [hb,cond_true] at hp
  cases hp
  subst hq
  unfold at_ at e1
  simp only [xKeys,e1,e2,hb,cond_true]
  rfl
def extS:ExtT:=fun f=>bif Nat.beq f 23 then some (xToldG xMake pMake) else bif Nat.beq f 83 then some (xToldG xReplace pReplace) else
 bif Nat.beq f 116 then some (xToldG xItems (pRow Hp.items)) else bif Nat.beq f 153 then some (xToldG xKeys (pRow Hp.keys)) else extM f
theorem extS_one {k:Nat} {x y:ExtF} {g:ExtT} (h1:extP k y) (h2:∀ f h,g f=some h→extP f h):∀ f h,(bif Nat.beq f k then some y else g f)=some h→extP f h:=fun f h hf=>by
 cases hb:Nat.beq f k with
 | true=>rw [hb,cond_true] at hf;cases hf;obtain rfl:=Nat.eq_of_beq_eq_true hb;exact h1
 | false=>rw [hb,cond_false] at hf;exact h2 f h hf
theorem extS_told {k:Nat} {x:ExtF} {P:List SV→T SB→Nat→Option (Nat × Hp)→Sc→Option Prop} (hl:extL k=some x) (hP:∀ vs m nx h s p,P vs m nx h s=some p→p→x vs ⟨m,nx,⟨h,0,[],[],[]⟩⟩=toldS s ⟨m,nx,⟨h,0,[],[],[]⟩⟩):extP k (xToldG x P):=by
 obtain ⟨k1,k2⟩:=extL_ok _ _ hl
 exact ⟨k1,xToldG_ok hP k2⟩
theorem extS_ok:∀ f h,extS f=some h→extP f h :=
 extS_one (x:=xMake) (extS_told (by kernel_rfl) pMake_ok) (extS_one (x:=xReplace) (extS_told (by kernel_rfl) pReplace_ok) (extS_one (x:=xItems) (extS_told (by kernel_rfl) pItems_ok) (extS_one (x:=xKeys) (extS_told (by kernel_rfl) pKeys_ok) extM_ok)))
abbrev tRes (x:ExtF) (b:Nat) (h:Hp) (vs:List SV) (v:SV) (h':Hp):Prop:=toldP x (.ptr b 0 :: vs) (some (b,h)) (.res v h')
abbrev vr (n:Int):V:=⟨4,n,[]⟩
abbrev vt (v:V) (b:Bool):SV:=.tup [v.sv,.bool b]
theorem heapAt_b {b:Nat} {h:Hp} {c:Nat} {s:List (Nat × Sc)} {p:List Prop} {r:List (SV × SV)}:heapAt ⟨some (b,h),c,s,p,r⟩ (.ptr b 0)=some h:=by
 simp [heapAt]
theorem toV_sv (v:V):toV v.sv=some v:=rfl
theorem tKind {b:Nat} {h:Hp} {v:V} {k:Int} (e:h.kind v=k):tRes xKind b h [v.sv] (.int .i64 k) h:=fun m nx=>by
 subst e;simp only [xKind,heapAt_b,toV_sv];rfl
theorem tName {b:Nat} {h:Hp} {v:V} {k:List UInt8} (e:h.name v=k):tRes xName b h [v.sv] (.str k) h:=fun m nx=>by
 subst e;simp only [xName,heapAt_b,toV_sv];rfl
theorem tNum {b:Nat} {h:Hp} {v:V} {k:Int} (e:h.num v=k):tRes xNum b h [v.sv] (.int .i64 k) h:=fun m nx=>by
 subst e;simp only [xNum,heapAt_b,toV_sv];rfl
theorem tAt {b:Nat} {h:Hp} {v:V} {i:Int} {x:V} {o:Bool} (e:h.at v i=(x,o)):tRes xAt b h [v.sv,.int .i64 i] (vt x o) h:=fun m nx=>by
 simp only [xAt,heapAt_b,toV_sv,toI,e];rfl
theorem tGet {b:Nat} {h:Hp} {v k:V} {x:V} {o:Bool} (e:h.get v k=(x,o)):tRes xGet b h [v.sv,k.sv] (vt x o) h:=fun m nx=>by
 simp only [xGet,heapAt_b,toV_sv,e];rfl
theorem tPut {b:Nat} {h h':Hp} {v k x:V} {o:Bool} (hs:smallB h 2=true) (e:h.put v k x=(h',o)):tRes xPut b h [v.sv,k.sv,x.sv] (.bool o) h':=fun m nx=>by
 simp only [xPut,heapAt_b,toV_sv,hs,cond_true,e];rfl
end
section
open Go.RowKit
abbrev Obs:=List (Int × Ob)
def hZ (l:Obs) (n:Int):Hp:=Hp.nm ⟨l,fun _=>0,n⟩
theorem hZ_ok (l:Obs) (n:Int):RefsOk (hZ l n):=fun _=>rfl
theorem hZ_eq {h:Hp} {l:Obs} {n:Int} (r:RefsOk h) (ha:h.all=l) (hn:h.last=n):h=hZ l n:=by
 obtain ⟨a,f,m⟩:=h
 subst ha hn
 show Hp.mk a f m=Hp.mk a _ m
 congr 1
 exact funext r
structure HJ (l:Obs) (n:Int) (u:Nat):Prop where
 ids:∀ p∈l,p.1≤n
 lo:0≤n
 hi:n≤u
 sm:valsN l≤u
abbrev uMax:Nat:=1000000
theorem HJ.small {l:Obs} {n:Int} {u:Nat} (H:HJ l n u) (hu:u≤uMax) {k:Nat} (hk:k≤uMax):smallB (hZ l n) k=true:=by
 have h:=H.sm
 simp only [uMax] at hu hk
 exact Nat.ble_eq_true_of_le (by show valsN l + k≤1000000000;omega)
theorem get_le {l:Obs} {n m:Int} (h:∀ p∈l,p.1≤n) (hm:n < m):get l m=none:=by
 induction l with
 | nil=>rfl
 | cons p t ih =>
  obtain ⟨k,v⟩:=p
  have h1:k≤n:=h _ (List.mem_cons_self ..)
  rw [get,if_neg (by omega)]
  exact ih fun p hp=>h p (List.mem_cons_of_mem _ hp)
theorem get_app_l {l t:Obs} {m:Int} {o:Ob} (h:get l m=some o):get (l++t) m=some o:=by
 induction l with
 | nil=>cases h
 | cons p l ih =>
  obtain ⟨k,v⟩:=p
  rw [List.cons_append]
  by_cases e:k=m
  ·rw [get,if_pos e] at h ⊢;exact h
  ·rw [get,if_neg e] at h ⊢;exact ih h
theorem get_app_r {l t:Obs} {m:Int} (h:get l m=none):get (l++t) m=get t m:=by
 induction l with
 | nil=>rfl
 | cons p l ih =>
  obtain ⟨k,v⟩:=p
  rw [List.cons_append]
  by_cases e:k=m
  ·rw [get,if_pos e] at h;cases h
  ·rw [get,if_neg e] at h ⊢;exact ih h
theorem put_app_r {l t:Obs} {m:Int} {o':Ob} (h:get l m=none):put (l++t) m o'=l++put t m o':=by
 induction l with
 | nil=>rfl
 | cons p l ih =>
  obtain ⟨k,v⟩:=p
  rw [List.cons_append,List.cons_append]
  by_cases e:k=m
  ·rw [get,if_pos e] at h;cases h
  ·rw [get,if_neg e] at h
   rw [put,if_neg e,ih h]
theorem HJ.next {l:Obs} {n:Int} {u:Nat} (H:HJ l n u):get l (n + 1)=none:=get_le H.ids (by omega)
theorem get_last {l:Obs} {n:Int} {u:Nat} (H:HJ l n u) (o:Ob):get (l++[(n + 1,o)]) (n + 1)=some o:=by
 rw [get_app_r H.next,get,if_pos rfl]
theorem put_last {l:Obs} {n:Int} {u:Nat} (H:HJ l n u) (o o':Ob):put (l++[(n + 1,o)]) (n + 1) o'=l++[(n + 1,o')]:=by
 rw [put_app_r H.next,put,if_pos rfl]
theorem valsN_app (a b:Obs):valsN (a++b)=valsN a + valsN b:=by
 induction a with
 | nil=>simp [valsN]
 | cons p t ih=>simp only [valsN,List.cons_append,List.foldr_cons] at ih ⊢;omega
theorem valsN_put {l:Obs} {m:Int} {o:Ob} (o':Ob) (h:get l m=some o):valsN (put l m o') + (o.items.length + o.d.length)=valsN l + (o'.items.length + o'.d.length):=by
 induction l with
 | nil=>cases h
 | cons p t ih =>
  obtain ⟨k,v⟩:=p
  by_cases e:k=m
  ·rw [get,if_pos e] at h;cases h
   rw [put,if_pos e];simp only [valsN,List.foldr_cons];omega
  ·rw [get,if_neg e] at h
   rw [put,if_neg e];have:=ih h;simp only [valsN,List.foldr_cons] at this ⊢;omega
theorem ids_put {l:Obs} {m n:Int} {o':Ob} (h:∀ p∈l,p.1≤n) (hm:m≤n):∀ p∈put l m o',p.1≤n:=by
 induction l with
 | nil=>intro p hp;rw [put] at hp;rcases List.mem_singleton.1 hp with rfl;exact hm
 | cons q t ih =>
  obtain ⟨k,v⟩:=q
  have h1:k≤n:=h _ (List.mem_cons_self ..)
  have h2:=ih fun p hp=>h p (List.mem_cons_of_mem _ hp)
  by_cases e:k=m
  ·rw [put,if_pos e];intro p hp
   rcases List.mem_cons.1 hp with rfl | hp
   ·exact h1
   ·exact h p (List.mem_cons_of_mem _ hp)
  ·rw [put,if_neg e];intro p hp
   rcases List.mem_cons.1 hp with rfl | hp
   ·exact h1
   ·exact h2 p hp
theorem get_id {l:Obs} {m n:Int} {o:Ob} (h:∀ p∈l,p.1≤n) (hg:get l m=some o):m≤n:=by
 by_cases hl:n < m
 ·rw [get_le h hl] at hg;cases hg
 ·omega
theorem HJ.add {l:Obs} {n:Int} {u:Nat} (H:HJ l n u) (o:Ob) {v:Nat} (hv:u + 1 + o.items.length + o.d.length≤v):HJ (l++[(n + 1,o)]) (n + 1) v:=by
 have h1:=H.lo
 have h2:=H.hi
 have h3:=H.sm
 refine ⟨fun p hp=>?_,by omega,by omega,?_⟩
 ·rcases List.mem_append.1 hp with hp | hp
  ·have:=H.ids p hp;omega
  ·rcases List.mem_singleton.1 hp with rfl;exact Int.le_refl _
 ·rw [valsN_app];simp only [valsN,List.foldr_cons,List.foldr_nil] at h3 ⊢;omega
theorem HJ.set {l:Obs} {n m:Int} {u:Nat} {o:Ob} (H:HJ l n u) (hg:get l m=some o) (o':Ob) {v:Nat} (hv:u + o'.items.length + o'.d.length≤v + o.items.length + o.d.length) (huv:u≤v):HJ (put l m o') n v:=by
 have h2:=H.hi
 have h3:=H.sm
 refine ⟨ids_put H.ids (get_id H.ids hg),H.lo,by omega,?_⟩
 have:=valsN_put o' hg
 omega
section
variable {l l':Obs} {n:Int} {u b:Nat}
theorem tMk (H:HJ l n u) (hu:u≤uMax) {k m:Int} {nm:List UInt8} {xs:List V} (hk:1≤k∧k≤12) (hx:xs.length≤uMax):mkP (hZ l n) k nm m xs (vr (n + 1)).sv (hZ (l++[(n + 1,⟨k,nm,m,xs,[]⟩)]) (n + 1)):=by
 have h1:=H.lo
 have h2:=H.hi
 have hw:wrap64 (n + 1)=n + 1:=by simp only [uMax] at hu;unfold wrap64;omega
 have hf:(get (hZ l n).all (wrap64 ((hZ l n).last + 1))).isNone=true:=by
  show (get l (wrap64 (n + 1))).isNone=true
  rw [hw,H.next];rfl
 have hm:(hZ l n).make k nm m xs=({ all:=put l (wrap64 (n + 1)) ⟨k,nm,m,xs,[]⟩,refs:=hold 1 (hZ l n).refs xs,last:=wrap64 (n + 1) },vref (wrap64 (n + 1))):=by
  unfold Hp.make
  rw [if_pos hk];rfl
 refine ⟨H.small hu hx,hf,by rw [hm,hw],?_⟩
 have hr:=RefsOk.make (hZ_ok l n) (kind:=k) (name:=nm) (n:=m) (H.small hu hx) hf
 refine hZ_eq hr ?_ ?_
 ·rw [hm];show put l _ _=_;rw [hw,put_new H.next]
 ·rw [hm];exact hw
theorem of_vr {m:Int}:(hZ l n).of (vr m)=get l m:=by
 unfold Hp.of
 rw [if_pos rfl];rfl
variable {m:Int} {o:Ob}
theorem zKind (e:get l m=some o) {k:Int} (hk:o.kind=k):tRes xKind b (hZ l n) [(vr m).sv] (.int .i64 k) (hZ l n):=tKind (by unfold Hp.kind;rw [of_vr,e];exact hk)
theorem zName (e:get l m=some o) {k:List UInt8} (hk:o.name=k):tRes xName b (hZ l n) [(vr m).sv] (.str k) (hZ l n):=tName (by unfold Hp.name;rw [of_vr,e];exact hk)
theorem zNum (e:get l m=some o) {k:Int} (hk:o.num=k):tRes xNum b (hZ l n) [(vr m).sv] (.int .i64 k) (hZ l n):=tNum (by unfold Hp.num;rw [of_vr,e];exact hk)
theorem zAt (e:get l m=some o) {i:Nat} {x:V} (hx:o.items[i]?=some x):tRes xAt b (hZ l n) [(vr m).sv,.int .i64 (Int.ofNat i)] (vt x true) (hZ l n):=tAt (by
 have hi:=(List.getElem?_eq_some_iff.1 hx).1
 unfold Hp.at;rw [of_vr,e]
 simp only
 rw [if_pos ⟨by simp,by simpa using hi⟩]
 congr 1
 simp [hx])
theorem zAtN (e:get l m=some o) {i:Int} (hi:i < 0∨(o.items.length:Int)≤i):tRes xAt b (hZ l n) [(vr m).sv,.int .i64 i] (vt V.nil false) (hZ l n):=tAt (by
 unfold Hp.at;rw [of_vr,e]
 simp only
 rw [if_neg (by omega)])
theorem zGet (e:get l m=some o) {k x:V} (hx:W.get o.d k=some x):tRes xGet b (hZ l n) [(vr m).sv,k.sv] (vt x true) (hZ l n):=tGet (by
 unfold Hp.get;rw [of_vr,e];simp only [hx];rfl)
theorem zGetN (e:get l m=some o) {k:V} (hx:W.get o.d k=none):tRes xGet b (hZ l n) [(vr m).sv,k.sv] (vt V.nil false) (hZ l n):=tGet (by
 unfold Hp.get;rw [of_vr,e];simp only [hx];rfl)
theorem zPut (H:HJ l n u) (hu:u≤uMax) (e:get l m=some o) {k x:V} (hd:dputB o.d k=true) (hl:put l m { o with d:=W.put o.d k x }=l'):tRes xPut b (hZ l n) [(vr m).sv,k.sv,x.sv] (.bool true) (hZ l' n):=by
 have hs:smallB (hZ l n) 2=true:=H.small hu (by simp [uMax])
 have key:(hZ l n).put (vr m) k x=(hZ l' n,true):=by
  have hr:=RefsOk.put (hZ_ok l n) (v:=vr m) (k:=k) (x:=x) hs
  have e1:((hZ l n).put (vr m) k x).2=true∧((hZ l n).put (vr m) k x).1.all=l'∧((hZ l n).put (vr m) k x).1.last=n:=by
   unfold Hp.put
   rw [of_vr,e]
   simp only [hd,if_true]
   exact ⟨trivial,hl,rfl⟩
  exact Prod.ext (hZ_eq hr e1.2.1 e1.2.2) e1.1
 exact tPut hs key
end
def o1 (arg:List V):Ob:=⟨2,[],0,arg,[]⟩
def o2 (nm:List UInt8) (c:Int) (d:Row):Ob:=⟨6,nm,0,[vr c],d⟩
abbrev sArgs:List UInt8:=[97,114,103,115]
def e1 (l:Obs) (n:Int) (arg:List V):Obs:=l++[(n + 1,o1 arg)]
def e2 (l:Obs) (n:Int) (arg:List V) (nm:List UInt8) (c:Int) (d:Row):Obs:=e1 l n arg++[(n + 1 + 1,o2 nm c d)]
abbrev e3 (l:Obs) (n:Int) (arg:List V) (nm:List UInt8) (c:Int):Obs:=e2 l n arg nm c [(vstr sArgs,vr (n + 1))]
section
variable {l:Obs} {n:Int} {u b:Nat} {arg:List V} {nm:List UInt8} {c:Int} {d:Row}
theorem HJ.e1 (H:HJ l n u) (ha:arg.length≤1):HJ (E.e1 l n arg) (n + 1) (u + 2):=H.add _ (by simp only [o1,List.length_nil];omega)
theorem HJ.e2 (H:HJ l n u) (ha:arg.length≤1) (hd:d.length≤1):HJ (E.e2 l n arg nm c d) (n + 1 + 1) (u + 5):=(H.e1 ha).add _ (by simp only [o2,List.length_cons,List.length_nil];omega)
theorem xE1 (H:HJ l n u) (hu:u + 5≤uMax) (ha:arg.length≤1):mkP (hZ l n) 2 [] 0 arg (vr (n + 1)).sv (hZ (E.e1 l n arg) (n + 1)):=tMk H (by omega) ⟨by decide,by decide⟩ (by simp only [uMax];omega)
theorem xE2 (H:HJ l n u) (hu:u + 5≤uMax) (ha:arg.length≤1):mkP (hZ (E.e1 l n arg) (n + 1)) 6 nm 0 [vr c] (vr (n + 1 + 1)).sv (hZ (E.e2 l n arg nm c []) (n + 1 + 1)):=tMk (H.e1 ha) (by omega) ⟨by decide,by decide⟩ (by simp [uMax])
theorem gE2 (H:HJ l n u) (ha:arg.length≤1):get (E.e2 l n arg nm c d) (n + 1 + 1)=some (o2 nm c d):=get_last (H.e1 ha) _
theorem gE1 (H:HJ l n u) (ha:arg.length≤1):get (E.e2 l n arg nm c d) (n + 1)=some (o1 arg):=get_app_l (get_last H _)
theorem xE3 (H:HJ l n u) (hu:u + 5≤uMax) (ha:arg.length≤1):tRes xPut b (hZ (E.e2 l n arg nm c []) (n + 1 + 1)) [(vr (n + 1 + 1)).sv,(vstr sArgs).sv,(vr (n + 1)).sv] (.bool true) (hZ (e3 l n arg nm c) (n + 1 + 1)) :=
 zPut (H.e2 ha (by simp)) hu (gE2 H ha) (by rfl) (put_last (H.e1 ha) _ _)
end
end
section
set_option maxRecDepth 100000
open Go.RowKit
abbrev TL:=List (Nat × Sc × Prop)
def TL.sc:TL→List (Nat × Sc)
 | []=>[]
 | q :: t=>(q.1,q.2.1) :: TL.sc t
def TL.ps:TL→List Prop→List Prop
 | [],a=>a
 | q :: t,a=>TL.ps t (q.2.2 :: a)
def TL.ok:TL→Prop
 | []=>True
 | q :: t=>q.2.2∧TL.ok t
theorem TL.ps_all:∀ (t:TL) (a:List Prop),t.ok→AllP a→AllP (t.ps a)
 | [],a,_,h=>h
 | q :: t,a,h,ha=>TL.ps_all t (q.2.2 :: a) h.2 ⟨h.1,ha⟩
theorem TL.ok_app:∀ {t s:TL},t.ok→s.ok→TL.ok (t++s)
 | [],s,_,h=>h
 | q :: t,s,h,hs=>⟨h.1,TL.ok_app (t:=t) h.2 hs⟩
noncomputable abbrev goS (fo:Nat→Option (List SV)) (f N:Nat) (l:List Code) (s:SS):ExR HX:=runL extS fo 100000 100 f N l s.1 s.2
abbrev QT (fo:Nat→Option (List SV)) (f N:Nat) (live:Live) (keep:List Nat) (nx:Nat) (l:List Code) (s s2:SS) (x:Ex) (tl:TL):Prop :=
 outC live keep nx (goS fo f N l (s.tell tl.sc))=outD x s2.1 s2.2 (tl.ps []) (goS fo f N l (s.tell tl.sc))
theorem QT.code {w0:B0} {fo:Nat→Option (List SV)} {fn:Nat} (hH:Hd w0 fo fn) {f N:Nat} {live:Live} {keep:List Nat} {nx:Nat} {l:List Code} {s s2:SS} {x:Ex} {tl:TL}
  (h:QT fo f N live keep nx l s s2 x tl) (hp:(l.all fun c=>planOkC (plan f) c)=true) (ht:tl.ok) (hid:∀ b,b < fn→(b,b)∈live) :
  CodeL w0 N l s.1 s.2 (fun x' tm' st'=>x'=x∧tm'=s2.1∧st'=s2.2):=by
 obtain ⟨tm,m,nx0,hx⟩:=s
 exact CodeL.sc (x':=⟨hx.h,0,tl.sc,[],[]⟩) rfl (CodeL.runG hH extS_ok hp h (TL.ps_all tl [] ht trivial) hid)
abbrev QE (fo:Nat→Option (List SV)) (f N:Nat) (rs:Array ResultVar) (l:List Code) (s:SS) (tl:TL):Prop:=endC rs (goS fo f N l (s.tell tl.sc))=endD (tl.ps []) (goS fo f N l (s.tell tl.sc))
theorem QE.code {w0:B0} {fo:Nat→Option (List SV)} {fn:Nat} (hH:Hd w0 fo fn) {f N:Nat} {rs:Array ResultVar} {l:List Code} {s:SS} {tl:TL}
  (h:QE fo f N rs l s tl) (hp:(l.all fun c=>planOkC (plan f) c)=true) (ht:tl.ok) :
  CodeL w0 N l s.1 s.2 (fun x tm' st'=>(x=.normal∨x=.ret)∧resS Tryz.prog st'.m tm' rs=some (.bool true)):=by
 obtain ⟨tm,m,nx0,hx⟩:=s
 exact CodeL.sc (x':=⟨hx.h,0,tl.sc,[],[]⟩) rfl (CodeL.runE hH extS_ok hp h (TL.ps_all tl [] ht trivial))
abbrev QA (fo:Nat→Option (List SV)) (f N:Nat) (live:Live) (keep:List Nat) (nx:Nat) (l:List Code) (is:List Nat) (s s2:Nat→SS) (x:Ex) (tl:Nat→TL):Prop :=
 (is.map fun i=>outC live keep nx (goS fo f N l ((s i).tell (tl i).sc)))=is.map fun i=>outD x (s2 i).1 (s2 i).2 ((tl i).ps []) (goS fo f N l ((s i).tell (tl i).sc))
theorem QA.at {fo:Nat→Option (List SV)} {f N:Nat} {live:Live} {keep:List Nat} {nx:Nat} {l:List Code} {is:List Nat} {s s2:Nat→SS} {x:Ex} {tl:Nat→TL} (h:QA fo f N live keep nx l is s s2 x tl) {i:Nat} (hi:i∈is):QT fo f N live keep nx l (s i) (s2 i) x (tl i):=List.map_inj_left.1 h i hi
abbrev TE:=Nat × Sc × Prop
def qI (o:Nat) (u:Option SV) (v:SV):TE:=(o,.val v,u=some v)
def qKind (o b:Nat) (l:Obs) (n m k:Int):TE:=(o,.res (.int .i64 k) (hZ l n),tRes xKind b (hZ l n) [(vr m).sv] (.int .i64 k) (hZ l n))
def qName (o b:Nat) (l:Obs) (n m:Int) (k:List UInt8):TE:=(o,.res (.str k) (hZ l n),tRes xName b (hZ l n) [(vr m).sv] (.str k) (hZ l n))
def qNum (o b:Nat) (l:Obs) (n m k:Int):TE:=(o,.res (.int .i64 k) (hZ l n),tRes xNum b (hZ l n) [(vr m).sv] (.int .i64 k) (hZ l n))
def qAt (o b:Nat) (l:Obs) (n m i:Int) (x:V) (t:Bool):TE:=(o,.res (vt x t) (hZ l n),tRes xAt b (hZ l n) [(vr m).sv,.int .i64 i] (vt x t) (hZ l n))
def qGet (o b:Nat) (l:Obs) (n m:Int) (k x:V) (t:Bool):TE:=(o,.res (vt x t) (hZ l n),tRes xGet b (hZ l n) [(vr m).sv,k.sv] (vt x t) (hZ l n))
def qPut (o b:Nat) (l:Obs) (n m:Int) (k x:V) (l':Obs):TE:=(o,.res (.bool true) (hZ l' n),tRes xPut b (hZ l n) [(vr m).sv,k.sv,x.sv] (.bool true) (hZ l' n))
def qItems (o:Nat) (l:Obs) (n m:Int) (xs:List V):TE:=(o,.row xs,(hZ l n).items (vr m)=xs)
def qMk (o:Nat) (l:Obs) (n k:Int) (nm:List UInt8) (m:Int) (xs:List V):TE:=(o,.res (vr (n + 1)).sv (hZ (l++[(n + 1,⟨k,nm,m,xs,[]⟩)]) (n + 1)),mkP (hZ l n) k nm m xs (vr (n + 1)).sv (hZ (l++[(n + 1,⟨k,nm,m,xs,[]⟩)]) (n + 1)))
def qRaise (o p q b:Nat) (l:Obs) (n:Int) (arg:List V) (nm:List UInt8) (c:Int):TL :=
  [(o,.res (vr (n + 1)).sv (hZ (e1 l n arg) (n + 1)),mkP (hZ l n) 2 [] 0 arg (vr (n + 1)).sv (hZ (e1 l n arg) (n + 1))),
   (p,.res (vr (n + 1 + 1)).sv (hZ (e2 l n arg nm c []) (n + 1 + 1)),mkP (hZ (e1 l n arg) (n + 1)) 6 nm 0 [vr c] (vr (n + 1 + 1)).sv (hZ (e2 l n arg nm c []) (n + 1 + 1))),
   qPut q b (e2 l n arg nm c []) (n + 1 + 1) (n + 1 + 1) (vstr sArgs) (vr (n + 1)) (e3 l n arg nm c)]
theorem qRaise_ok {o p q b:Nat} {l:Obs} {n:Int} {u:Nat} {arg:List V} {nm:List UInt8} {c:Int} (H:HJ l n u) (hu:u + 5≤uMax) (ha:arg.length≤1):(qRaise o p q b l n arg nm c).ok:=⟨xE1 H hu ha,xE2 H hu ha,xE3 H hu ha,trivial⟩
def bA:Obs:=[(2,⟨5,[69,120,99,101,112,116,105,111,110],0,[],[]⟩),
 (3,⟨5,[76,111,111,107,117,112,69,114,114,111,114],0,[vr 2],[]⟩),
 (4,⟨5,[73,110,100,101,120,69,114,114,111,114],0,[vr 3,vr 2],[]⟩),
 (5,⟨5,[75,101,121,69,114,114,111,114],0,[vr 3,vr 2],[]⟩),
 (6,⟨5,[65,114,105,116,104,109,101,116,105,99,69,114,114,111,114],0,[vr 2],[]⟩),
 (7,⟨5,[90,101,114,111,68,105,118,105,115,105,111,110,69,114,114,111,114],0,[vr 6,vr 2],[]⟩),
 (8,⟨5,[79,118,101,114,102,108,111,119,69,114,114,111,114],0,[vr 6,vr 2],[]⟩),
 (9,⟨5,[84,121,112,101,69,114,114,111,114],0,[vr 2],[]⟩),
 (10,⟨5,[86,97,108,117,101,69,114,114,111,114],0,[vr 2],[]⟩),
 (11,⟨5,[78,97,109,101,69,114,114,111,114],0,[vr 2],[]⟩),
 (12,⟨5,[85,110,98,111,117,110,100,76,111,99,97,108,69,114,114,111,114],0,[vr 11,vr 2],[]⟩),
 (13,⟨5,[65,116,116,114,105,98,117,116,101,69,114,114,111,114],0,[vr 2],[]⟩),
 (14,⟨5,[83,116,111,112,73,116,101,114,97,116,105,111,110],0,[vr 2],[]⟩),
 (15,⟨5,[82,117,110,116,105,109,101,69,114,114,111,114],0,[vr 2],[]⟩),
 (16,⟨5,[82,101,99,117,114,115,105,111,110,69,114,114,111,114],0,[vr 15,vr 2],[]⟩),
 (17,⟨5,[65,115,115,101,114,116,105,111,110,69,114,114,111,114],0,[vr 2],[]⟩),
 (18,⟨5,[77,101,109,111,114,121,69,114,114,111,114],0,[vr 2],[]⟩),
 (19,⟨12,[101,120,99,101,112,116,105,111,110,115],0,[],[(vstr [69,120,99,101,112,116,105,111,110],vr 2),(vstr [76,111,111,107,117,112,69,114,114,111,114],vr 3),(vstr [73,110,100,101,120,69,114,114,111,114],vr 4),(vstr [75,101,121,69,114,114,111,114],vr 5),(vstr [65,114,105,116,104,109,101,116,105,99,69,114,114,111,114],vr 6),(vstr [90,101,114,111,68,105,118,105,115,105,111,110,69,114,114,111,114],vr 7),(vstr [79,118,101,114,102,108,111,119,69,114,114,111,114],vr 8),(vstr [84,121,112,101,69,114,114,111,114],vr 9),(vstr [86,97,108,117,101,69,114,114,111,114],vr 10),(vstr [78,97,109,101,69,114,114,111,114],vr 11),(vstr [85,110,98,111,117,110,100,76,111,99,97,108,69,114,114,111,114],vr 12),(vstr [65,116,116,114,105,98,117,116,101,69,114,114,111,114],vr 13),(vstr [83,116,111,112,73,116,101,114,97,116,105,111,110],vr 14),(vstr [82,117,110,116,105,109,101,69,114,114,111,114],vr 15),(vstr [82,101,99,117,114,115,105,111,110,69,114,114,111,114],vr 16),(vstr [65,115,115,101,114,116,105,111,110,69,114,114,111,114],vr 17),(vstr [77,101,109,111,114,121,69,114,114,111,114],vr 18)]⟩)]
def lZ (D:Row) (z:Obs):Obs:=bA++((20,⟨12,[109,97,105,110],0,[],D⟩) :: z)
theorem lZ_app (D:Row) (z y:Obs):lZ D z++y=lZ D (z++y):=by
 unfold lZ;rw [List.append_assoc];rfl
theorem HJ.zero:HJ (lZ [] []) 20 100:=⟨by
 have h:((lZ [] []).all fun p=>decide (p.1≤20))=true:=by kernel_rfl
 exact fun p hp=>by simpa using List.all_eq_true.1 h p hp,by decide,by decide,zB (by kernel_rfl)⟩
end
section
set_option maxRecDepth 100000
open Go.RowKit
def ptr1 (v:SV):List Nat:=match v with
 | .ptr b _=>[b]
 | .sl b _ _ _ _=>[b]
 | _=>[]
theorem ptr1_some {e:Env} {v:SV} {u:Value} {b:Nat} (h:VR e v u) (hb:b∈ptr1 v):∃ y,e b=some y:=by
 cases h<;>simp only [ptr1,List.mem_singleton,List.not_mem_nil] at hb
 case ptr h=>subst hb;exact ⟨_,h⟩
 case sl h _ _ _ _=>subst hb;exact ⟨_,h⟩
 case sle h=>subst hb;exact ⟨_,h⟩
theorem ptrs_some {e:Env} {b:Nat}:∀ {vs:List SV} {us:List Value},VRs e vs us→b∈vs.flatMap ptr1→∃ y,e b=some y
 | [],_,_,hb=>by simp at hb
 | v :: t,_,.cons h1 h2,hb=>by
  rw [List.flatMap_cons] at hb
  rcases List.mem_append.1 hb with h | h
  ·exact ptr1_some h1 h
  ·exact ptrs_some h2 h
def blk1 (m:T SB) (vs:List SV):List (Nat × Option SB):=(vs.flatMap ptr1).map fun b=>(b,m.get b)
abbrev xH (b:Nat) (h:Hp):HX:=⟨some (b,h),0,[],[],[]⟩
def CallP (f:Nat) (vs:List SV) (bl:List (Nat × Option SB)) (b:Nat) (h:Hp) (v:SV) (h':Hp):Prop :=
 ∀ (w0:B0) (e:Env) (m:T SB) (nx:Nat) (w:World) (F:FootE) (us:List Value),(∀ p∈bl,m.get p.1=p.2)→Rl (HL w0) e ⟨m,nx,xH b h⟩ w F→VRs e vs us →
  Calls Tryz.prog f ⟨us⟩ w fun en w'=>∃ u F',en=.returned u∧VR e v u∧Rl (HL w0) e ⟨m,nx,xH b h'⟩ w' F'∧Nxt nx e ⟨m,nx,xH b h⟩ w F e ⟨m,nx,xH b h'⟩ w' F'
def xCall (f:Nat):ExtF:=fun vs st=>match st with
 | ⟨m,nx,⟨h,cnt,sc,pc,rc⟩⟩=>match h with
  | some (b,h0)=>match sc with
   | (k,.res v h') :: t=>bif Nat.beq k cnt then nxtC cnt fun n=>some (v,⟨m,nx,⟨some (b,h'),n,t,CallP f vs (blk1 m vs) b h0 v h' :: pc,rc⟩⟩) else none
   | _=>none
  | none=>none
theorem xCall_ok (f:Nat):ExtOk f (xCall f):=fun w0 vs st v st' h=>by
 obtain ⟨m,nx,⟨hh,cnt,sc,pc,rc⟩⟩:=st
 unfold xCall at h
 split at h
 rename_i hq
 cases hq
 split at h
 ·rename_i b h0
  split at h
  ·rename_i k v0 h1 t
   cases hb:Nat.beq k cnt with
   | false=>rw [hb] at h;cases h
   | true =>
    rw [hb,cond_true,nxtC_ok] at h
    cases h
    intro hg
    have hp:CallP f vs (blk1 m vs) b h0 v h1:=hg.1 _ (List.mem_cons_self ..)
    refine ⟨⟨fun p hp=>hg.1 p (List.mem_cons_of_mem _ hp),hg.2⟩,fun e w F us hR hvs=>?_⟩
    refine (hp w0 e m nx w F us (fun p hp=>?_) hR.xs hvs).mono fun en w' ⟨u,F',q1,q2,q3,q4⟩=>?_
    ·obtain ⟨c,-,rfl⟩:=List.mem_map.1 hp;rfl
    ·exact ⟨u,e,F',q1,q2,q3.xs,q4.xs⟩
  ·cases h
 ·cases h
theorem gcM_congr {ρ:Nat→Option Nat} {m m':T SB}:∀ {l:Live},(∀ p∈l,m.get p.1=m'.get p.1)→gcM ρ m l=gcM ρ m' l
 | [],_=>rfl
 | p :: t,h=>by
  unfold gcM
  rw [h p (List.mem_cons_self ..),gcM_congr fun q hq=>h q (List.mem_cons_of_mem _ hq)]
def bC (w:World) (I:Nat→Prop) (id:Nat→Option (Nat × Nat × Nat)):B0:=⟨w,fo0,fun _=>none,nofun,I,id⟩
theorem bC_fix {w:World} {I:Nat→Prop} {id:Nat→Option (Nat × Nat × Nat)} (d:Nat):Fix (bC w I id) d↔d=0∨d=2:=by
 constructor
 ·rintro (h1 | h1 | ⟨_,_,_,h1⟩)
  ·exact .inl h1
  ·exact .inr h1
  ·cases h1
 ·rintro (h1 | h1)
  ·exact .inl h1
  ·exact .inr (.inl h1)
theorem Rl.bC {w w':World} {I I':Nat→Prop} {id id':Nat→Option (Nat × Nat × Nat)} {e:Env} {m:T SB} {nx b:Nat} {h:Hp} {F:FootE} (hR:Rl (HL (E.bC w I id)) e ⟨m,nx,xH b h⟩ w' F):Rl (HL (E.bC w I' id')) e ⟨m,nx,xH b h⟩ w' F:=by
 obtain ⟨c,F0,k⟩:∃ c F0,HXAt (E.bC w I id) e b h w' F c F0:=hR.ext.2
 have h1:=hR.ext.1
 exact ⟨hR.blk,hR.dis,hR.old,hR.dom,hR.sib,⟨⟨h1.1,fun d hd=>h1.2.1 d ((bC_fix d).2 ((bC_fix d).1 hd)),h1.2.2.1,nofun⟩,⟨c,F0,k.at_,k.hr,k.ok,fun d=>(k.iff d).trans (or_congr Iff.rfl ((bC_fix d).trans (bC_fix d).symm)),fun d hd=>k.nf d ((bC_fix d).2 ((bC_fix d).1 hd))⟩⟩⟩
theorem callP_of {f:Nat} {g:Func} {c:Code} {vs vs2:List SV} {bl:List (Nat × Option SB)} {b b2:Nat} {h h':Hp} {v v2:SV} {live:Live} {fn:Nat} {m1 m2:T SB}
  (hf:Tryz.prog.funcs[f]?=some g) (hc:g.body=some c) (hl:vs2.length≤g.ntmps) (hl2:vs2.length < TMax)
  (hlv:liveOk fn live=true) (hb:(b,b2)∈live)
  (hbl:∀ p∈live,p.1=b∨(p.1∈vs.flatMap ptr1∧(p.1,m1.get p.1)∈bl)) (hm1:m1.get b=none)
  (hwr:∀ p∈live,∀ k,m1.get p.1=some k→k.wr=true∧k.sib=[])
  (hm:gcM (toNew live) m1 live=some m2)
  (hbk:∀ p∈live,∀ k,m1.get p.1=some k→∃ k2,m2.get p.2=some k2∧SB.ren (toOld live) k2=some k)
  (hvs:renL (SV.ren (toNew live) renF) vs=some vs2) (hv:SV.ren (toOld live) renF v2=some v)
  (H:∀ w0:B0,Hd w0 fo0 fn→CodeQ w0 g.ntmps c (initT vs2 0 .e) ⟨m2,fn,xH b2 h⟩ fun x tm st=>(x=.normal∨x=.ret)∧resS Tryz.prog st.m tm g.results=some v2∧(∀ d k,m2.get d=some k→st.m.get d=some k)∧st.x.h=some (b2,h')) :
  CallP f vs bl b h v h':=by
 intro w0 e m nx w F us hmb hR hvs0
 obtain ⟨c0,F0,hX⟩:∃ c0 F0,HXAt w0 e b h w F c0 F0:=hR.ext.2
 have hRE:HXR w0 e (xH b h) w F:=hR.ext
 have hG:Gl w:=hRE.gl
 have hFix:=hRE.tab
 obtain ⟨z0,hz0⟩:=hX.at_
 have hFc:F c0:=(hX.iff c0).2 (.inl (by obtain ⟨L,r⟩:=hX.hr;exact r.own.1))
 have hmn:m.get b=none:=by
  cases hq:m.get b with
  | none=>rfl
  | some k=>exact absurd hFc (hR.blk b k c0 0 z0 hq hz0).1
 have hmm:∀ p∈live,m.get p.1=m1.get p.1:=fun p hp=>by
  rcases hbl p hp with h1 | ⟨-,h1⟩
  ·rw [h1,hmn,hm1]
  ·exact hmb _ h1
 have hsome:∀ p∈live,∃ y,e p.1=some y:=fun p hp=>by
  rcases hbl p hp with h1 | ⟨h1,-⟩
  ·exact ⟨_,by rw [h1];exact hz0⟩
  ·exact ptrs_some hvs0 h1
 -- the small state
 obtain ⟨F1,hF1⟩:∃ F1:FootE,F1=fun d=>F0 d∨d=0∨d=2:=⟨_,rfl⟩
 have hF10:∀ d,F1 d↔F0 d∨d=0∨d=2:=fun d=>by rw [hF1]
 have hF1F:∀ d,F1 d→F d:=fun d hd=>by
  rcases (hF10 d).1 hd with h1 | h1 | h1
  ·exact (hX.iff d).2 (.inl h1)
  ·exact hFix d (.inl h1)
  ·exact hFix d (.inr (.inl h1))
 have hB:∀ (I:Nat→Prop) (id:Nat→Option (Nat × Nat × Nat)) d,Fix (E.bC w I id) d↔d=0∨d=2:=fun I id d=>bC_fix d
 have hRA:∀ (I:Nat→Prop) (id:Nat→Option (Nat × Nat × Nat)),Rl (HL (E.bC w I id)) e ⟨m,nx,xH b h⟩ w F1:=fun I id =>
  ⟨fun y k c o z r1 r2=>⟨fun hc=>(hR.blk y k c o z r1 r2).1 (hF1F c hc),(hR.blk y k c o z r1 r2).2⟩,hR.dis,hR.old,hR.dom,hR.sib,
   ⟨⟨hG,fun _ _=>rfl,Nat.le_refl _,nofun⟩,⟨c0,F0,hX.at_,hX.hr,hX.ok,fun d=>by rw [hF10,hB],fun d hd=>by
    rcases (hB I id d).1 hd with h1 | h1
    ·exact hX.nf d (.inl h1)
    ·exact hX.nf d (.inr (.inl h1))⟩⟩⟩
 have hgc:gc live [] fn .e ⟨m,nx,xH b h⟩=some (.e,⟨m2,fn,xH b2 h⟩):=by
  unfold E.gc
  rw [hlv,cond_true]
  simp only [gcM_congr hmm,hm,gcT,gcX,mem_toNew hlv hb]
 obtain ⟨e2,-,-,hmem,hdom,hget,hR2,-,ho2⟩:=gc_ex (w0:=E.bC w (Im e ⟨m,nx,xH b h⟩ F1) (fun _=>none)) (fn:=0) ⟨nofun,nofun,nofun⟩ (tm:=.e) (ts:=#[]) (hRA _ _) (fun t v ht=>by simp at ht) ⟨BlI.refl,nofun,fun c _ hi=>.inl hi⟩ (fun b hb=>absurd hb (Nat.not_lt_zero b)) hgc
 obtain ⟨Is,hIs⟩:∃ Is:Nat→Prop,Is=Im e2 ⟨m2,fn,xH b2 h⟩ F1:=⟨_,rfl⟩
 have hIF:∀ d,d < w.heap.size→Is d→Im e ⟨m,nx,xH b h⟩ F d:=fun d hd hi=>by
  rw [hIs] at hi
  rcases ho2.im d hd hi with h1 | h1
  ·rcases h1 with h1 | h1
   ·exact .inl (hF1F d h1)
   ·exact .inr h1
  ·refine .inl (hFix d ?_)
   rcases (hB _ _ d).1 h1 with h1 | h1
   ·exact .inl h1
   ·exact .inr (.inl h1)
 -- of what is the caller's,and not handed to it,nothing is its own
 have hno:∀ y k cc o z,m.get y=some k→e y=some (cc,o,z)→(∀ d,(y,d) ∉ live)→¬ Is cc:=fun y k cc o z r1 r2 hy hi=>by
  rw [hIs] at hi
  rcases hi with hi | ⟨d',k',o',z',s1,s2⟩
  ·exact (hR.blk y k cc o z r1 r2).1 (hF1F cc hi)
  ·obtain ⟨b',kk,t1,t2⟩:=hget d' k' s1
   rw [hmem b' d' t1] at s2
   have hne:b'≠y:=fun hq=>hy d' (hq ▸ t1)
   obtain ⟨u1,u2⟩:=hwr (b',d') t1 kk (by rw [← hmm _ t1];exact t2)
   rcases hR.dis b' y kk k cc o' z' cc o z t2 r1 hne u1 s2 r2 with q | ⟨q,-⟩
   ·exact q rfl
   ·rw [u2] at q;cases q
 have hnoF:∀ d,Fix w0 d→d≠0→d≠2→¬ Is d:=fun d hd h0 h2 hi=>by
  rw [hIs] at hi
  rcases hi with hi | ⟨d',k',o',z',s1,s2⟩
  ·rcases (hF10 d).1 hi with h1 | h1 | h1
   ·exact hX.nf d hd h1
   ·exact h0 h1
   ·exact h2 h1
  ·obtain ⟨b',kk,t1,t2⟩:=hget d' k' s1
   rw [hmem b' d' t1] at s2
   exact (hR.blk b' kk d o' z' t2 s2).1 (hFix d hd)
 obtain ⟨wB,hwB⟩:∃ wB:B0,wB=E.bC w Is (fun d=>if d < fn then e2 d else none):=⟨_,rfl⟩
 have hHd:Hd wB fo0 fn:=by
  subst hwB
  refine ⟨rfl,⟨nofun,nofun,fun d x hd=>?_⟩,nofun⟩
  replace hd:(if d < fn then e2 d else none)=some x:=hd
  split at hd
  ·assumption
  ·cases hd
 have hvs2:VRs e2 vs2 us:=renL_ok (fun v v2 u h1 h2=>SV.ren_ok (fun b c hbc=>hmem b c (toNew_mem hbc)) renF h1 h2) hvs hvs0
 have hlen:us.length=vs2.length:=(hvs2.length).symm
 have hOwn:Own wB e2 ⟨m2,fn,xH b2 h⟩ w F1:=by
  subst hwB
  refine ⟨BlI.refl,fun d x hd=>?_,fun c _ hi=>.inl (by show Is c;rw [hIs];exact hi)⟩
  replace hd:(if d < fn then e2 d else none)=some x:=hd
  split at hd
  ·exact hd
  ·cases hd
 refine calls_of_wp hf hc (H wB hHd _ w _ ⟨⟨e2,F1,by subst hwB;exact hR2.bC,?_,hOwn⟩,?_,rfl⟩ fun x tm st a' w' ⟨hx,hres,hkp,hh⟩ hA=>?_)
 ·refine initT_ok hvs2 (fun t v ht=>by simp at ht) (by omega) fun j u hj=>?_
  have hj2:=(List.getElem?_eq_some_iff.1 hj).1
  rw [Array.getElem?_append_left (by simp;omega)]
  simpa using hj
 ·simp;omega
 ·obtain ⟨e',F',hR',ha',ho'⟩:=hA.ex
  obtain ⟨u,k1,k2⟩:=resS_ok hR' ha' hres
  have hds:=hA.ds
  have hid:∀ p∈live,e' p.2=e p.1:=fun p hp=>by
   obtain ⟨y,hy⟩:=hsome p hp
   rw [hy]
   refine ho'.id p.2 y ?_
   rw [hwB]
   show (if p.2 < fn then e2 p.2 else none)=some y
   rw [if_pos (live_lt hlv hp).1,hmem p.1 p.2 hp,hy]
  have hρ:∀ d y,toOld live d=some y→e y=e' d:=fun d y hy=>(hid (y,d) (toOld_mem hy)).symm
  have hbl':=ho'.bl
  have him:=ho'.im
  have hRx:HXR wB e' st.x w' F':=hR'.ext
  have hw0:wB.w=w:=by rw [hwB];rfl
  have hI0:wB.I=Is:=by rw [hwB];rfl
  have hFx:∀ d,Fix wB d↔d=0∨d=2:=fun d=>by rw [hwB];exact hB _ _ d
  have hat:∀ d,d < w.heap.size→¬ Is d→w'.heap[d]?=w.heap[d]?:=fun d hd hn=>by
   have:=hbl'.at_ d (by rw [hw0];exact hd) (by rw [hI0];exact hn)
   rw [this,hw0]
  have hF'I:∀ d,d < w.heap.size→F' d→Is d∨d=0∨d=2:=fun d hd hF=>by
   rcases him d (by rw [hw0];exact hd) (.inl hF) with h1 | h1
   ·left;rw [hI0] at h1;exact h1
   ·exact .inr ((hFx d).1 h1)
  have hsz:w.heap.size≤w'.heap.size:=by have:=hbl'.sz;rw [hw0] at this;exact this
  obtain ⟨c1,F2,hX'⟩:∃ c1 F2,HXAt wB e' b2 h' w' F' c1 F2:=by
   have h2:=hRx.2
   rw [hh] at h2
   exact h2
  have hlt0:∀ d,Fix w0 d→d < w.heap.size:=fun d hd=>(HL w0).lt _ _ _ _ hR.ext d (hFix d hd)
  have h02:∀ d,d=0∨d=2→F d:=fun d hd=>hFix d (hd.elim .inl fun h=>.inr (.inl h))
  obtain ⟨FF,hFF⟩:∃ FF:FootE,FF=fun d=>F' d∨Fix w0 d:=⟨_,rfl⟩
  have hFFi:∀ d,FF d↔F' d∨Fix w0 d:=fun d=>by rw [hFF]
  have hFFF:∀ y k cc o z,m.get y=some k→e y=some (cc,o,z)→¬ F' cc→¬ FF cc:=fun y k cc o z r1 r2 hn hff=>by
   rcases (hFFi cc).1 hff with h1 | h1
   ·exact hn h1
   ·exact (hR.blk y k cc o z r1 r2).1 (hFix cc h1)
  have hRF:Rl (HL w0) e ⟨m,nx,xH b h'⟩ w' FF:=by
   refine ⟨fun y k cc o z r1 r2=>?_,hR.dis,hR.old,hR.dom,hR.sib,⟨⟨hRE.1.1,fun d hd=>?_,Nat.le_trans hRE.1.2.2.1 hsz,hRE.1.2.2.2⟩,⟨c1,F2,?_,hX'.hr,hX'.ok,fun d=>?_,fun d hd=>?_⟩⟩⟩
   ·have hlt:=(hR.blk y k cc o z r1 r2).2.lt
    by_cases hy:∃ d,(y,d)∈live
    ·obtain ⟨d,hd⟩:=hy
     obtain ⟨k2,s1,s2⟩:=hbk (y,d) hd k (by rw [← hmm _ hd];exact r1)
     have s3:=hkp d k2 s1
     have s4:e' d=some (cc,o,z):=(hid (y,d) hd).trans r2
     obtain ⟨s5,s6⟩:=hR'.blk d k2 cc o z s3 s4
     exact ⟨hFFF y k cc o z r1 r2 s5,SB.ren_ok hρ s2 s6⟩
    ·have hn:=hno y k cc o z r1 r2 fun d hd=>hy ⟨d,hd⟩
     refine ⟨hFFF y k cc o z r1 r2 fun hF=>?_,(hR.blk y k cc o z r1 r2).2.keep (.refl e) (hat cc hlt hn)⟩
     rcases hF'I cc hlt hF with h1 | h1
     ·exact hn h1
     ·exact (hR.blk y k cc o z r1 r2).1 (h02 cc h1)
   ·refine Eq.trans ?_ (hRE.1.2.1 d hd)
    by_cases h0:d=0∨d=2
    ·have:=hRx.1.2.1 d ((hFx d).2 h0)
     rw [this,hw0]
    ·exact hat d (hlt0 d hd) (hnoF d hd (fun h=>h0 (.inl h)) (fun h=>h0 (.inr h)))
   ·obtain ⟨z,hz⟩:=hX'.at_
    exact ⟨z,(hid (b,b2) hb).symm.trans hz⟩
   ·rw [hFFi,hX'.iff d,hFx]
    constructor
    ·rintro ((h1 | h1) | h1)
     ·exact .inl h1
     ·exact .inr (h1.elim .inl fun h=>.inr (.inl h))
     ·exact .inr h1
    ·rintro (h1 | h1)
     ·exact .inl (.inl h1)
     ·exact .inr h1
   ·intro h2
    have h3:F' d:=(hX'.iff d).2 (.inl h2)
    by_cases h0:d=0∨d=2
    ·exact hX'.nf d ((hFx d).2 h0) h2
    ·rcases hF'I d (hlt0 d hd) h3 with h1 | h1
     ·exact hnoF d hd (fun h=>h0 (.inl h)) (fun h=>h0 (.inr h)) h1
     ·exact h0 h1
  have hN:Nxt nx e ⟨m,nx,xH b h⟩ w F e ⟨m,nx,xH b h'⟩ w' FF:=by
   have q1:=hbl'.os
   have q2:=hbl'.tape
   have q3:=hbl'.output
   rw [hw0] at q1 q2 q3
   refine ⟨.refl e,q1,q2,q3,hsz,fun d hd hi=>hat d hd fun h1=>hi (hIF d hd h1),fun d hd hi=>?_,fun _ _ h=>⟨h,fun _=>rfl⟩,Nat.le_refl _⟩
   rcases hi with hi | hi
   ·rcases (hFFi d).1 hi with h1 | h1
    ·rcases hF'I d hd h1 with h2 | h2
     ·exact hIF d hd h2
     ·exact .inl (h02 d h2)
    ·exact .inl (hFix d h1)
   ·exact .inr hi
  have hvu:VR e v u:=SV.ren_ok hρ renF hv k2
  rcases hx with rfl | rfl
  ·exact ⟨hds,_,k1,u,FF,rfl,hvu,hRF,hN⟩
  ·exact ⟨hds,_,k1,u,FF,rfl,hvu,hRF,hN⟩
noncomputable abbrev goX (ext:ExtT) (fo:Nat→Option (List SV)) (f N:Nat) (l:List Code) (s:SS):ExR HX:=runL ext fo 100000 100 f N l s.1 s.2
abbrev QTX (ext:ExtT) (fo:Nat→Option (List SV)) (f N:Nat) (live:Live) (keep:List Nat) (nx:Nat) (l:List Code) (s s2:SS) (x:Ex) (tl:TL):Prop :=
 outC live keep nx (goX ext fo f N l (s.tell tl.sc))=outD x s2.1 s2.2 (tl.ps []) (goX ext fo f N l (s.tell tl.sc))
theorem QTX.code {w0:B0} {fo:Nat→Option (List SV)} {fn:Nat} (hH:Hd w0 fo fn) {ext:ExtT} (hx:∀ f h,ext f=some h→extP f h) {f N:Nat} {live:Live} {keep:List Nat} {nx:Nat} {l:List Code} {s s2:SS} {x:Ex} {tl:TL}
  (h:QTX ext fo f N live keep nx l s s2 x tl) (hp:(l.all fun c=>planOkC (plan f) c)=true) (ht:tl.ok) (hid:∀ b,b < fn→(b,b)∈live) :
  CodeL w0 N l s.1 s.2 (fun x' tm' st'=>x'=x∧tm'=s2.1∧st'=s2.2):=by
 obtain ⟨tm,m,nx0,hx0⟩:=s
 exact CodeL.sc (x':=⟨hx0.h,0,tl.sc,[],[]⟩) rfl (CodeL.runG hH hx hp h (TL.ps_all tl [] ht trivial) hid)
abbrev QEX (ext:ExtT) (fo:Nat→Option (List SV)) (f N:Nat) (rs:Array ResultVar) (l:List Code) (s:SS) (tl:TL):Prop:=endC rs (goX ext fo f N l (s.tell tl.sc))=endD (tl.ps []) (goX ext fo f N l (s.tell tl.sc))
theorem QEX.code {w0:B0} {fo:Nat→Option (List SV)} {fn:Nat} (hH:Hd w0 fo fn) {ext:ExtT} (hx:∀ f h,ext f=some h→extP f h) {f N:Nat} {rs:Array ResultVar} {l:List Code} {s:SS} {tl:TL}
  (h:QEX ext fo f N rs l s tl) (hp:(l.all fun c=>planOkC (plan f) c)=true) (ht:tl.ok) :
  CodeL w0 N l s.1 s.2 (fun x tm' st'=>(x=.normal∨x=.ret)∧resS Tryz.prog st'.m tm' rs=some (.bool true)):=by
 obtain ⟨tm,m,nx0,hx0⟩:=s
 exact CodeL.sc (x':=⟨hx0.h,0,tl.sc,[],[]⟩) rfl (CodeL.runE hH hx hp h (TL.ps_all tl [] ht trivial))
abbrev QAX (ext:ExtT) (fo:Nat→Option (List SV)) (f N:Nat) (live:Live) (keep:List Nat) (nx:Nat) (l:List Code) (is:List Nat) (s s2:Nat→SS) (x:Ex) (tl:Nat→TL):Prop :=
 (is.map fun i=>outC live keep nx (goX ext fo f N l ((s i).tell (tl i).sc)))=is.map fun i=>outD x (s2 i).1 (s2 i).2 ((tl i).ps []) (goX ext fo f N l ((s i).tell (tl i).sc))
theorem QAX.at {ext:ExtT} {fo:Nat→Option (List SV)} {f N:Nat} {live:Live} {keep:List Nat} {nx:Nat} {l:List Code} {is:List Nat} {s s2:Nat→SS} {x:Ex} {tl:Nat→TL} (h:QAX ext fo f N live keep nx l is s s2 x tl) {i:Nat} (hi:i∈is):QTX ext fo f N live keep nx l (s i) (s2 i) x (tl i):=List.map_inj_left.1 h i hi
def qCall (o f:Nat) (vs:List SV) (bl:List (Nat × Option SB)) (b:Nat) (h:Hp) (v:SV) (h':Hp):TE:=(o,.res v h',CallP f vs bl b h v h')
def extC (f:Nat) (g:ExtT):ExtT:=fun j=>bif Nat.beq j f then some (xCall f) else g j
theorem extC_ok {f:Nat} {g:ExtT} (hc:Callable Tryz.prog f) (h:∀ f x,g f=some x→extP f x):∀ j x,extC f g j=some x→extP j x :=
 extS_one (x:=xCall f) ⟨hc,xCall_ok f⟩ h
end
end Go.Proofs.YtlbcbikplfocfaaGreatDoor.W.E
