/- NumQ LpN -/
import Derived.Test.YtildnolfgdcndaaGreatDoorPart28
set_option linter.unusedVariables false
set_option linter.unusedSimpArgs false
namespace Go.Proofs.YtildnolfgdcndaaGreatDoor.Num
section
open Go.RowKit
def D (n:Nat):List UInt8:=dg (n / 10) [dch n]
theorem dg_app (M:Nat):∀ l r:List UInt8,dg M (l++r)=dg M l++r:=by
 induction M using Nat.strongRecOn with
 | _ M ih =>
  intro l r
  rcases Nat.eq_zero_or_pos M with h | h
  ·subst h;rw [dg_zero,dg_zero]
  ·rw [dg_pos h,dg_pos h,← ih (M / 10) (by omega),List.cons_append]
theorem D_small {n:Nat} (h:n < 10):D n=[dch n]:=by
 unfold D
 rw [show n / 10=0 by omega,dg_zero]
theorem D_step {n:Nat} (h:10≤n):D n=D (n / 10)++[dch n]:=by
 unfold D
 have e:=dg_app (n / 10) [] [dch n]
 rw [List.nil_append] at e
 rw [e,dg_pos (by omega)]
theorem D_len_pos (n:Nat):0 < (D n).length:=by
 rcases Nat.lt_or_ge n 10 with h | h
 ·rw [D_small h];simp
 ·rw [D_step h];simp
theorem dch_nat (m:Nat):(dch m).toNat=48 + m % 10:=by
 have:=dch_int m;omega
theorem pgo_app:∀ (l r:List UInt8) (m:Nat),pgo (l++r) m=(pgo l m).bind (pgo r)
 | [],r,m=>rfl
 | c :: l,r,m=>by
  by_cases h:c.toNat < 48∨57 < c.toNat∨922337203685477580 < m
  ·rw [List.cons_append,pgo_stop h,pgo_stop h];rfl
  ·rw [List.cons_append,pgo_step h,pgo_step h,pgo_app]
theorem pgo_D:∀ n:Nat,n≤9223372036854775808→pgo (D n) 0=some n:=by
 intro n
 induction n using Nat.strongRecOn with
 | _ n ih =>
  intro hn
  have hd:=dch_nat n
  rcases Nat.lt_or_ge n 10 with h | h
  ·rw [D_small h,pgo_step (by omega),pgo,hd];congr 1;omega
  ·rw [D_step h,pgo_app,ih (n / 10) (by omega) (by omega),Option.bind_some,pgo_step (by omega),pgo,hd];congr 1;omega
theorem pgo_noughts (k:Nat) (l:List UInt8):pgo (List.replicate k 48++l) 0=pgo l 0:=by
 induction k with
 | zero=>rfl
 | succ k ih=>rw [List.replicate_succ,List.cons_append,pgo_step (by decide)];exact ih
theorem textL_pos {n:Int} (h:0≤n):textL n=D n.natAbs:=by unfold textL D;rw [if_neg (by omega)]
theorem textL_neg {n:Int} (h:n < 0):textL n=45 :: D n.natAbs:=by unfold textL D;rw [if_pos h]
theorem pend_pos {n:Int} (hn:Fits n) (h:0≤n) (k:Nat):pend (List.replicate k 48++D n.natAbs) false=(n,true):=by
 have h1:=pgo_D n.natAbs (by unfold Fits at hn;omega)
 rw [← pgo_noughts k] at h1
 have h2:sgn n.natAbs false=n:=by unfold sgn;simp;omega
 have h3:=D_len_pos n.natAbs
 have h4:0 < (List.replicate k 48++D n.natAbs).length:=by simp;omega
 rw [pend_some h1,h2,chk_ok hn,decide_eq_true h4]
 rfl
theorem pend_neg {n:Int} (hn:Fits n) (h:n < 0) (k:Nat):pend (List.replicate k 48++D n.natAbs) true=(n,true):=by
 have h1:=pgo_D n.natAbs (by unfold Fits at hn;omega)
 rw [← pgo_noughts k] at h1
 have h2:sgn n.natAbs true=n:=by unfold sgn;simp;omega
 have h3:=D_len_pos n.natAbs
 have h4:0 < (List.replicate k 48++D n.natAbs).length:=by simp;omega
 rw [pend_some h1,h2,chk_ok hn,decide_eq_true h4]
 rfl
theorem D_head (n:Nat):∃ c l,D n=c :: l∧c≠45:=by
 induction n using Nat.strongRecOn with
 | _ n ih =>
  rcases Nat.lt_or_ge n 10 with h | h
  ·refine ⟨dch n,[],D_small h,fun e=>?_⟩
   have:=dch_nat n;rw [e] at this;have e2:(45:UInt8).toNat=45:=rfl;omega
  ·obtain ⟨c,l,e,hc⟩:=ih (n / 10) (by omega)
   exact ⟨c,l++[dch n],by rw [D_step h,e,List.cons_append],hc⟩
theorem parse_pos {n:Int} (hn:Fits n) (h:0≤n) (k:Nat):parseS (List.replicate k 48++textL n)=(n,true):=by
 rw [textL_pos h]
 have hp:=pend_pos hn h k
 cases k with
 | zero =>
  obtain ⟨c,l,e,hc⟩:=D_head n.natAbs
  rw [List.replicate_zero,List.nil_append] at hp ⊢
  rw [e] at hp ⊢
  rw [parseS_plain hc];exact hp
 | succ k =>
  rw [List.replicate_succ,List.cons_append] at hp ⊢
  rw [parseS_plain (by decide)];exact hp
theorem parse_neg {n:Int} (hn:Fits n) (h:n < 0) (k:Nat):parseS (45 :: (List.replicate k 48++(textL n).tail))=(n,true):=by
 rw [textL_neg h,List.tail_cons,parseS_below]
 exact pend_neg hn h k
theorem parse_text {n:Int} (hn:Fits n):parseS (textL n)=(n,true):=by
 by_cases h:n < 0
 ·have:=parse_neg hn h 0
  rw [textL_neg h] at this ⊢
  exact this
 ·exact parse_pos hn (by omega) 0
theorem text_pos_len (n:Int):0 < (textL n).length:=by
 by_cases h:n < 0
 ·rw [textL_neg h];simp
 ·rw [textL_pos (by omega)];exact D_len_pos _
end
end Go.Proofs.YtildnolfgdcndaaGreatDoor.Num
namespace Go.Proofs.YtildnolfgdcndaaGreatDoor.W.E
section
set_option maxRecDepth 100000
open Go.RowKit
def strB (vs:List SV) (m:T SB) (nx:Nat) (h:Option (Nat × Hp)) (cnt:Nat) (sc:List (Nat × Sc)) (pc:List Prop) (rc:List (SV × SV)) (t:List UInt8):Option (SV × St HX):=match vs with
 | [.ptr b off]=>match m.get b with
  | some (.cells cs _ _ _)=>match cs[off + 1]? with
   | some (.sl g 0 n 1 _)=>match m.get g with
    | some (.cells gs false sib (some T))=>bif Nat.beq T 5 && ltM g sib then
      nxtC cnt fun d=>some (.str t,(⟨m,nx,⟨h,d,sc,(n≤gs.length∧toBs (gs.take n)=some t∧t≠[]) :: pc,rc⟩⟩:St HX).turn g sib (.cells gs true [] (some T)))
     else none
    | _=>none
   | _=>none
  | _=>none
 | _=>none
def xStrV:ExtF:=fun vs st=>match st with
 | ⟨m,nx,⟨h,cnt,sc,pc,rc⟩⟩=>match sc with
  | (k,.val (.str t)) :: s=>bif Nat.beq k cnt then strB vs m nx h cnt s pc rc t else xTold xString vs ⟨m,nx,⟨h,cnt,sc,pc,rc⟩⟩
  | _=>xTold xString vs ⟨m,nx,⟨h,cnt,sc,pc,rc⟩⟩
theorem strB_ok {vs:List SV} {m:T SB} {nx:Nat} {h:Option (Nat × Hp)} {cnt:Nat} {sc:List (Nat × Sc)} {pc:List Prop} {rc:List (SV × SV)} {t:List UInt8} {v:SV} {st':St HX} (hs:strB vs m nx h cnt sc pc rc t=some (v,st')) :
  ∃ (m':T SB) (p:Prop),st'=⟨m',nx,⟨h,cnt + 1,sc,p :: pc,rc⟩⟩∧(p→xString vs ⟨m,nx,⟨h,0,[],[],[]⟩⟩=some (v,⟨m',nx,⟨h,0,[],[],[]⟩⟩)):=by
 unfold strB at hs
 split at hs<;>try (cases hs;done)
 split at hs<;>try (cases hs;done)
 split at hs<;>try (cases hs;done)
 split at hs<;>try (cases hs;done)
 rename_i b off _ cs _ _ _ e1 _ g n _ e2 _ gs sib T e3
 cases hc:Nat.beq T 5 && ltM g sib with
 | false=>rw [hc] at hs;cases hs
 | true =>
  rw [hc,cond_true,nxtC_ok] at hs
  cases hs
  refine ⟨_,_,rfl,fun hp=>?_⟩
  obtain ⟨p1,p2,p3⟩:=hp
  cases t with
  | nil=>exact absurd rfl p3
  | cons x l =>
   simp only [xString,e1,e2,e3,p2,hc,Nat.ble_eq_true_of_le p1,Bool.and_self,Bool.and_true,cond_true]
   rfl
theorem xStrV_ok:ExtOk 143 xStrV:=fun w0 vs st v st' h=>by
 obtain ⟨m,nx,⟨hh,cnt,sc,pc,rc⟩⟩:=st
 unfold xStrV at h
 split at h
 rename_i hq
 cases hq
 split at h
 ·rename_i k t s
  cases hb:Nat.beq k cnt with
  | false=>rw [hb,cond_false] at h;exact xTold_ok xString_ok w0 vs _ v st' h
  | true =>
   rw [hb,cond_true] at h
   obtain ⟨m',p,rfl,h2⟩:=strB_ok h
   intro hg
   have hp:p:=hg.1 _ (List.mem_cons_self ..)
   have H:=xString_ok w0 vs _ v _ (h2 hp)
   refine ⟨⟨fun p hp=>hg.1 p (List.mem_cons_of_mem _ hp),hg.2⟩,fun e w F us hR hvs=>?_⟩
   refine ((H ⟨nofun,nofun⟩).2 e w F us hR.xs hvs).mono fun en w' ⟨u,e',F',q1,q2,q3,q4⟩=>?_
   exact ⟨u,e',F',q1,q2,q3.xs,q4.xs⟩
 ·exact xTold_ok xString_ok w0 vs _ v st' h
def extN:ExtT:=fun f=>bif Nat.beq f 281 then some (xTold xNumText) else bif Nat.beq f 309 then some (xTold xNumParse) else bif Nat.beq f 143 then some xStrV else extS f
theorem extN_ok:∀ f h,extN f=some h→extP f h :=
 extS_one (x:=xNumText) ⟨callable_of (by kernel_rfl),xTold_ok xNumText_ok⟩ (extS_one (x:=xNumParse) ⟨callable_of (by kernel_rfl),xTold_ok xNumParse_ok⟩ (extS_one (x:=xStrV) ⟨callable_of (by kernel_rfl),xStrV_ok⟩ extS_ok))
noncomputable abbrev goN (fo:Nat→Option (List SV)) (f N:Nat) (l:List Code) (s:SS):ExR HX:=runL extN fo 100000 100 f N l s.1 s.2
abbrev QTN (fo:Nat→Option (List SV)) (f N:Nat) (live:Live) (keep:List Nat) (nx:Nat) (l:List Code) (s s2:SS) (x:Ex) (tl:TL):Prop :=
 outC live keep nx (goN fo f N l (s.tell tl.sc))=outD x s2.1 s2.2 (tl.ps []) (goN fo f N l (s.tell tl.sc))
theorem QTN.code {w0:B0} {fo:Nat→Option (List SV)} {fn:Nat} (hH:Hd w0 fo fn) {f N:Nat} {live:Live} {keep:List Nat} {nx:Nat} {l:List Code} {s s2:SS} {x:Ex} {tl:TL}
  (h:QTN fo f N live keep nx l s s2 x tl) (hp:(l.all fun c=>planOkC (plan f) c)=true) (ht:tl.ok) (hid:∀ b,b < fn→(b,b)∈live) :
  CodeL w0 N l s.1 s.2 (fun x' tm' st'=>x'=x∧tm'=s2.1∧st'=s2.2):=by
 obtain ⟨tm,m,nx0,hx⟩:=s
 exact CodeL.sc (x':=⟨hx.h,0,tl.sc,[],[]⟩) rfl (CodeL.runG hH extN_ok hp h (TL.ps_all tl [] ht trivial) hid)
abbrev QEN (fo:Nat→Option (List SV)) (f N:Nat) (rs:Array ResultVar) (l:List Code) (s:SS) (tl:TL):Prop:=endC rs (goN fo f N l (s.tell tl.sc))=endD (tl.ps []) (goN fo f N l (s.tell tl.sc))
theorem QEN.code {w0:B0} {fo:Nat→Option (List SV)} {fn:Nat} (hH:Hd w0 fo fn) {f N:Nat} {rs:Array ResultVar} {l:List Code} {s:SS} {tl:TL}
  (h:QEN fo f N rs l s tl) (hp:(l.all fun c=>planOkC (plan f) c)=true) (ht:tl.ok) :
  CodeL w0 N l s.1 s.2 (fun x tm' st'=>(x=.normal∨x=.ret)∧resS Tryz.prog st'.m tm' rs=some (.bool true)):=by
 obtain ⟨tm,m,nx0,hx⟩:=s
 exact CodeL.sc (x':=⟨hx.h,0,tl.sc,[],[]⟩) rfl (CodeL.runE hH extN_ok hp h (TL.ps_all tl [] ht trivial))
abbrev QAN (fo:Nat→Option (List SV)) (f N:Nat) (live:Live) (keep:List Nat) (nx:Nat) (l:List Code) (is:List Nat) (s s2:Nat→SS) (x:Ex) (tl:Nat→TL):Prop :=
 (is.map fun i=>outC live keep nx (goN fo f N l ((s i).tell (tl i).sc)))=is.map fun i=>outD x (s2 i).1 (s2 i).2 ((tl i).ps []) (goN fo f N l ((s i).tell (tl i).sc))
theorem QAN.at {fo:Nat→Option (List SV)} {f N:Nat} {live:Live} {keep:List Nat} {nx:Nat} {l:List Code} {is:List Nat} {s s2:Nat→SS} {x:Ex} {tl:Nat→TL} (h:QAN fo f N live keep nx l is s s2 x tl) {i:Nat} (hi:i∈is):QTN fo f N live keep nx l (s i) (s2 i) x (tl i):=List.map_inj_left.1 h i hi
def qText1 (o b:Nat) (l:Obs) (n x:Int) (t:List UInt8):TE:=(o,.res (.str t) (hZ l n),toldP xNumText [.int .i64 x] (some (b,hZ l n)) (.res (.str t) (hZ l n)))
def qParse (o b:Nat) (l:Obs) (n:Int) (t:List UInt8) (x:Int) (u:Bool):TE:=(o,.res (.tup [.int .i64 x,.bool u]) (hZ l n),toldP xNumParse [.str t] (some (b,hZ l n)) (.res (.tup [.int .i64 x,.bool u]) (hZ l n)))
def qStr (o n:Nat) (gs:List SV) (t:List UInt8):TE:=(o,.val (.str t),n≤gs.length∧toBs (gs.take n)=some t∧t≠[])
theorem zText {b:Nat} {l:Obs} {n x:Int} (h1:-9223372036854775808≤x) (h2:x≤9223372036854775807):toldP xNumText [.int .i64 x] (some (b,hZ l n)) (.res (.str (Num.textL x)) (hZ l n)):=fun m nx=>by
 have hf:fitsS x=true:=by unfold fitsS;rw [decide_eq_true h1,decide_eq_true h2];rfl
 simp only [xNumText,toI,hf,cond_true];rfl
theorem zParse {b:Nat} {l:Obs} {n x:Int} {t:List UInt8} {u:Bool} (h:t.length≤1000000000) (e:Num.parseS t=(x,u)):toldP xNumParse [.str t] (some (b,hZ l n)) (.res (.tup [.int .i64 x,.bool u]) (hZ l n)):=fun m nx=>by
 simp only [xNumParse,toS,Nat.ble_eq_true_of_le h,cond_true,e];rfl
theorem toBs_byteS:∀ t:List UInt8,toBs (byteS t)=some t
 | []=>rfl
 | b :: t=>by
  have h:toB (.int .u8 b.toNat)=some b:=by
   show (bif Nat.blt b.toNat 256 then some (UInt8.ofNat b.toNat) else none)=some b
   have:Nat.blt b.toNat 256=true:=by rw [Nat.blt_eq];exact b.toNat_lt
   rw [this,cond_true]
   simp
  unfold byteS at *
  rw [List.map_cons,toBs,h]
  have:=toBs_byteS t
  unfold byteS at this
  rw [this]
theorem zStr {t:List UInt8} (h:t≠[]) {n:Nat} (hn:n=t.length):n≤(byteS t).length∧toBs ((byteS t).take n)=some t∧t≠[]:=by
 subst hn
 have e:(byteS t).length=t.length:=by simp [byteS]
 refine ⟨by omega,?_,h⟩
 rw [← e,List.take_length,toBs_byteS]
end
end Go.Proofs.YtildnolfgdcndaaGreatDoor.W.E
