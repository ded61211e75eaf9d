/- EvF2 -/
import Derived.Test.YtobooojhmgicpaaGreatDoorPart29
set_option linter.unusedVariables false
set_option linter.unusedSimpArgs false
namespace Go.Proofs.YtobooojhmgicpaaGreatDoor.W.E
section
set_option maxRecDepth 100000
open Go.RowKit
section
variable {w0:B0} {fo:Nat→Option (List SV)} {fn:Nat} (hH:Hd w0 fo fn) {N:Nat}
include hH in
theorem CodeL.frameE {ext:ExtT} (hx:∀ f h,ext f=some h→extP f h) {K n f:Nat} {l:List Code} {tm:T SV} {m:T SB} {nx:Nat} {x:HX} {rs:Array ResultVar} {ps:List Prop} {b:Nat} {cs:List SV} {ty:Option Nat}
  (hp:(l.all fun c=>planOkC (plan f) c)=true) (h:endC rs (runL ext (foW fo b cs) K n f N l tm ⟨m,nx,x⟩)=endD ps (runL ext (foW fo b cs) K n f N l tm ⟨m,nx,x⟩)) (hps:AllP ps)
  (hbT:b < TMax) (hm:m.get b=none) (hbf:fn≤b) {t0 off len esz:Nat} {ck:Option Nat} (ht0:tm.get t0=some (.sl b off len esz ck)) :
  CodeL w0 N l tm ⟨m.upd b (some (.row cs ty)),nx,x⟩ (fun x' tm' st'=>(x'=.normal∨x'=.ret)∧resS Tryz.prog st'.m tm' rs=some (.bool true)):=by
 unfold endC endD at h
 split at h
 ·rename_i p hr
  injection h with h
  injection h with h1 h
  injection h with h2 h
  injection h with h3 h4
  have hg:p.2.2.x.good:=⟨by rw [h3];exact AllP.mem hps,map_same h4⟩
  intro a w Q hA hQ
  obtain ⟨e,F,hR,ha,ho⟩:=hA.ex
  have hR0:=hR.sub hbT hm
  have same:(m.upd b (some (SB.row cs ty))).get b=some (.row cs ty):=T.upd_same _ _ hbT
  have ho0:Own w0 e ⟨m,nx,x⟩ w F:=⟨ho.bl,fun c hc hi=>ho.im c hc (by
   rcases hi with hi | ⟨y,k,o,z,q1,q2⟩
   ·exact .inl hi
   ·refine .inr ⟨y,k,o,z,?_,q2⟩
    rw [T.upd_ne _ _ (fun e=>by subst e;rw [hm] at q1;cases q1)];exact q1)⟩
  obtain ⟨c0,o0,z0,he0⟩:∃ c o z,e b=some (c,o,z):=by
   obtain ⟨u,-,hu⟩:=ha t0 _ ht0
   cases hu with
   | sl h _ _ _ _=>exact ⟨_,_,_,h⟩
   | sle _ _ _ h=>exact ⟨_,_,_,h⟩
  obtain ⟨hF0,hB0⟩:=hR.blk b _ c0 o0 z0 same he0
  have hB1:BlkR e w c0 o0 z0 (.cells cs true [] none):=by
   obtain ⟨arr,t,fr,r1,r2,r3,r4,r5⟩:=hB0
   exact ⟨arr,t,fr,r1,r2,⟨nofun,nofun⟩,r4,r5⟩
  have hfa:w0.fa b=none:=by
   cases hq:w0.fa b with
   | none=>rfl
   | some l=>exact absurd (hH.fa b l hq) (by omega)
  have hbo:w0.fo b=none:=by
   cases hq:w0.fo b with
   | none=>rfl
   | some l=>exact absurd (hH.fd.bd b l hq) (by omega)
  have hlt:∀ y c o z,faW w0.fa b (c0,o0,z0) y=some (c,o,z)→c < w.heap.size:=fun y c o z hy=>by
   by_cases hyb:y=b
   ·subst hyb;rw [faW_same] at hy;cases hy;exact hB0.lt
   ·rw [faW_ne _ _ hyb] at hy
    exact Nat.lt_of_lt_of_le (w0.lt y c o z hy) hR0.ext.1.2.2.1
  have hX1:HXR (bW w0 w b cs (c0,o0,z0) hlt) e x w (fun d=>F d∨d=c0):=HXR.to hfa hR0.ext hF0 he0 hB1
  have apart0:∀ y k c o z,m.get y=some k→e y=some (c,o,z)→c≠c0:=fun y k c o z r1 r2=>by
   rintro rfl
   have hy:y≠b:=fun e=>by subst e;rw [hm] at r1;cases r1
   rcases hR.dis b y _ k c o0 z0 c o z same (by show (m.upd b _).get y=_;rw [T.upd_ne _ _ hy];exact r1) (Ne.symm hy) rfl he0 r2 with r | ⟨r,-⟩
   ·exact r rfl
   ·cases r
  have hR1:Rl (HL (bW w0 w b cs (c0,o0,z0) hlt)) e ⟨m,nx,x⟩ w (fun d=>F d∨d=c0) :=
   ⟨fun y k c o z r1 r2=>⟨fun h=>h.elim (hR0.blk y k c o z r1 r2).1 (apart0 y k c o z r1 r2),(hR0.blk y k c o z r1 r2).2⟩,hR0.dis,hR0.old,hR0.dom,hR0.sib,hX1⟩
  obtain ⟨-,key⟩:=RunsL.run (w0:=bW w0 w b cs (c0,o0,z0) hlt) (N:=N) (show (foW w0.fo b cs)=foW fo b cs by rw [hH.fo]) hx hg hp hr
  refine key e w _ a Q hR1 ha hA.size fun a' w' e' F1 q1 q2 q3 q41 q51=>?_
  obtain ⟨hXb,hFc,hwc⟩:=HXR.back hfa hbo hR0.ext hF0 q51.le q51.size q41.ext
  have q4:Rl (HL w0) e' p.2.2 w' (fun d=>F1 d∧d≠c0):=⟨fun y k c o z r1 r2=>⟨fun h=>(q41.blk y k c o z r1 r2).1 h.1,(q41.blk y k c o z r1 r2).2⟩,q41.dis,q41.old,q41.dom,q41.sib,hXb⟩
  have q5:Nxt nx e ⟨m,nx,x⟩ w F e' p.2.2 w' (fun d=>F1 d∧d≠c0):=by
   refine ⟨q51.le,q51.os,q51.tape,q51.output,q51.size,fun c hc hi=>?_,fun c hc hi=>?_,q51.und,q51.nx⟩
   ·by_cases hcc:c=c0
    ·subst hcc;exact hwc
    ·refine q51.frame c hc ?_
     rintro ((h | h) | ⟨y,k,o,z,r1,r2⟩)
     ·exact hi (.inl h)
     ·exact hcc h
     ·exact hi (.inr ⟨y,k,o,z,r1,r2⟩)
   ·have hne:c≠c0:=by
     rintro rfl
     rcases hi with hi | ⟨y,k,o,z,r1,r2⟩
     ·exact hi.2 rfl
     ·exact (q41.blk y k c o z r1 r2).1 hFc
    have h1:Im e' p.2.2 F1 c:=hi.elim (fun h=>.inl h.1) .inr
    rcases q51.img c hc h1 with (h | h) | h
    ·exact .inl h
    ·exact absurd h hne
    ·exact .inr h
  exact hQ p.1 p.2.1 p.2.2 a' w' ⟨.inr h1,h2⟩ ⟨⟨e',_,q4,q1,ho0.next q4 q5⟩,q2,q3.trans hA.ds⟩
 ·cases h
end
theorem QE.frame {w0:B0} {fo:Nat→Option (List SV)} {fn:Nat} (hH:Hd w0 fo fn) {f N:Nat} {rs:Array ResultVar} {l:List Code} {s:SS} {tl:TL} {b:Nat} {cs:List SV} (ty:Option Nat)
  (h:QE (foW fo b cs) f N rs l s tl) (hp:(l.all fun c=>planOkC (plan f) c)=true) (ht:tl.ok) (hbT:b < TMax) (hm:s.2.m.get b=none) (hbf:fn≤b) {t0 off len esz:Nat} {ck:Option Nat} (ht0:s.1.get t0=some (.sl b off len esz ck)) :
  CodeL w0 N l s.1 ⟨s.2.m.upd b (some (.row cs ty)),s.2.nx,s.2.x⟩ (fun x tm' st'=>(x=.normal∨x=.ret)∧resS Tryz.prog st'.m tm' rs=some (.bool true)):=by
 obtain ⟨tm,m,nx0,hx⟩:=s
 exact CodeL.sc (x':=⟨hx.h,0,tl.sc,[],[]⟩) rfl (CodeL.frameE hH extS_ok hp h (TL.ps_all tl [] ht trivial) hbT hm hbf ht0)
theorem AtS.sub {w0:B0} {N:Nat} {tm:T SV} {m:T SB} {nx:Nat} {x:HX} {a:Go.Act} {w:World} {b:Nat} {cs:List SV} {ty:Option Nat} (hb:b < TMax) (hm:m.get b=none) (h:AtS w0 N tm ⟨m.upd b (some (.row cs ty)),nx,x⟩ a w):AtS w0 N tm ⟨m,nx,x⟩ a w:=by
 obtain ⟨e,F,hR,ha,ho⟩:=h.ex
 refine ⟨⟨e,F,hR.sub hb hm,ha,ho.bl,fun c hc hi=>ho.im c hc ?_⟩,h.size,h.ds⟩
 rcases hi with hi | ⟨y,q,o,z,r1,r2⟩
 ·exact .inl hi
 ·refine .inr ⟨y,q,o,z,?_,r2⟩
  show (m.upd b _).get y=_
  rw [T.upd_ne _ _ (fun e=>by subst e;replace r1:m.get y=some q:=r1;rw [hm] at r1;cases r1)];exact r1
theorem CodeL.sub {w0:B0} {N:Nat} {l:List Code} {tm:T SV} {m:T SB} {nx:Nat} {x:HX} {b:Nat} {cs:List SV} {ty:Option Nat} {Post:PostE} (hb:b < TMax) (hm:m.get b=none) (h:CodeL w0 N l tm ⟨m,nx,x⟩ Post):CodeL w0 N l tm ⟨m.upd b (some (.row cs ty)),nx,x⟩ Post :=
 fun a w Q hA hQ=>h a w Q (hA.sub hb hm) hQ
end
end Go.Proofs.YtobooojhmgicpaaGreatDoor.W.E
