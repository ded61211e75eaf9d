/- EvQ3 EvQ4 Lw2 LpB -/
import Derived.Test.YtobooojhmgicpaaGreatDoorPart27
set_option linter.unusedVariables false
set_option linter.unusedSimpArgs false
namespace Go.Proofs.YtobooojhmgicpaaGreatDoor.W.E
section
open Go.RowKit
def st0N (fn:Nat) (sc:List (Nat × Sc)):St HX:=⟨.e,fn,⟨none,0,sc,[],[]⟩⟩
theorem st0N_no {fn:Nat} {sc:List (Nat × Sc)} {b:Nat} {k:SB} (h:(st0N fn sc).m.get b=some k):False:=by
 rw [show (st0N fn sc).m.get b=none from T.get_e b] at h;cases h
def B0.env (w0:B0):Env:=w0.fa
theorem st0N_ok {fn:Nat} (sc:List (Nat × Sc)) {w0:B0} (hg:Gl w0.w) (hd:∀ b x,w0.fa b=some x→b < fn) (hfo:FoE w0 w0.env):Rl (HL w0) w0.env (st0N fn sc) w0.w (Fix w0) :=
 ⟨fun _ _ _ _ _ h _=>(st0N_no h).elim,fun _ _ _ _ _ _ _ _ _ _ h _ _ _ _ _=>(st0N_no h).elim,fun _ _ h=>(st0N_no h).elim,fun b x h=>hd b x h,fun _ _ h _=>(st0N_no h).elim,⟨⟨hg,fun _ _=>rfl,Nat.le_refl _,hfo⟩,fun _=>Iff.rfl⟩⟩
theorem lawF {f:Nat} {g:Func} {c:Code} {vs:List SV} {us:List Value} {w0:B0} {fn:Nat} (hf:Tryz.prog.funcs[f]?=some g) (hc:g.body=some c) (hl:vs.length≤g.ntmps) (hl2:vs.length < TMax) (hvs:VRs w0.env vs us)
  (hg:Gl w0.w) (hd:∀ b x,w0.fa b=some x→b < fn) (hfo:FoE w0 w0.env)
  (h:CodeQ w0 g.ntmps c (initT vs 0 .e) (st0N fn []) fun x tm st=>(x=.normal∨x=.ret)∧resS Tryz.prog st.m tm g.results=some (.bool true)) :
  Calls Tryz.prog f ⟨us⟩ w0.w fun en w'=>en=.returned (.bool true)∧Bl w0.w w':=by
 refine calls_of_wp hf hc (h _ w0.w _ ⟨⟨w0.env,_,st0N_ok [] hg hd hfo,?_,Bl.refl w0.w,fun c hc hi=>?_⟩,?_,rfl⟩ fun x tm st a' w' ⟨hx,hres⟩ hA=>?_)
 ·refine initT_ok hvs (fun t v hv=>by simp at hv) (by omega) fun j u hj=>?_
  have hj2:=(List.getElem?_eq_some_iff.1 hj).1
  rw [Array.getElem?_append_left (by simp;omega)]
  simpa using hj
 ·rcases hi with hi | ⟨y,k,o,z,hy,-⟩
  ·exact hi
  ·exact (st0N_no hy).elim
 ·simp;omega
 ·obtain ⟨e,F,hR,ha,ho⟩:=hA.ex
  obtain ⟨u,k1,k2⟩:=resS_ok hR ha hres
  cases k2
  have hds:=hA.ds
  rcases hx with rfl | rfl
  ·exact ⟨hds,_,k1,rfl,ho.bl⟩
  ·exact ⟨hds,_,k1,rfl,ho.bl⟩
end
section
open Go.RowKit
def Hp.can (h:Hp):Hp:=⟨h.all,fun n=>occ n h.vals,h.last⟩
theorem Hp.can_eq {h:Hp} (hr:RefsOk h):Hp.can h=h:=by
 obtain ⟨a,r,l⟩:=h
 unfold Hp.can
 congr 1
 exact (funext hr).symm
def canX (x:HX):HX:=match x with
 | ⟨some (b,h),cnt,sc,pc,rc⟩=>⟨some (b,Hp.can h),cnt,sc,pc,rc⟩
 | ⟨none,cnt,sc,pc,rc⟩=>⟨none,cnt,sc,pc,rc⟩
def canS (st:St HX):St HX:=match st with
 | ⟨m,nx,x⟩=>⟨m,nx,canX x⟩
theorem AtS.can {w0:B0} {N:Nat} {tm:T SV} {st:St HX} {a:Go.Act} {w:World} (h:AtS w0 N tm st a w):AtS w0 N tm (canS st) a w:=by
 obtain ⟨m,nx,⟨hh,cnt,sc,pc,rc⟩⟩:=st
 cases hh with
 | none=>exact h
 | some p =>
  obtain ⟨b,hp⟩:=p
  obtain ⟨e,F,hR,-,-⟩:=h.ex
  obtain ⟨-,h2⟩:=hR.ext
  obtain ⟨c,F0,k⟩:=h2
  have:=Hp.can_eq k.ok
  show AtS w0 N tm ⟨m,nx,⟨some (b,Hp.can hp),cnt,sc,pc,rc⟩⟩ a w
  rw [this]
  exact h
def gcN (live:Live) (keep:List Nat) (nx:Nat) (tm:T SV) (st:St HX):Option (T SV × St HX):=match gc live keep nx tm st with
 | some (t,s)=>some (t,canS s)
 | none=>none
theorem AtS.gcN {w0:B0} {fn:Nat} (hfd:Fd w0 fn) {N:Nat} {tm tm2:T SV} {st st2:St HX} {a:Go.Act} {w:World} {live:Live} {keep:List Nat} {nx:Nat} (h:AtS w0 N tm st a w) (hid:∀ b,b < fn→(b,b)∈live) (hg:E.gcN live keep nx tm st=some (tm2,st2)):AtS w0 N tm2 st2 a w:=by
 unfold E.gcN at hg
 split at hg
 ·rename_i t s hq
  cases hg
  exact (h.gc hfd hid hq).can
 ·cases hg
def outN (live:Live) (keep:List Nat) (nx:Nat) (r:ExR HX):Option (Ex × Option (T SV × St HX) × List Prop × List SV):=match r with
 | some p=>some (p.1,gcN live keep nx p.2.1 p.2.2,p.2.2.x.pc,p.2.2.x.rc.map Prod.fst)
 | none=>none
theorem CodeL.runN {w0:B0} {fo:Nat→Option (List SV)} {fn:Nat} (hH:Hd w0 fo fn) {N:Nat} {ext:ExtT} (hx:∀ f h,ext f=some h→extP f h) {K n f:Nat} {l:List Code} {tm:T SV} {st:St HX} {x:Ex} {live:Live} {keep:List Nat} {nx:Nat} {tm2:T SV} {st2:St HX} {ps:List Prop}
  (hp:(l.all fun c=>planOkC (plan f) c)=true) (h:outN live keep nx (runL ext fo K n f N l tm st)=outD x tm2 st2 ps (runL ext fo K n f N l tm st)) (hps:AllP ps) (hid:∀ b,b < fn→(b,b)∈live) :
  CodeL w0 N l tm st (fun x' tm' st'=>x'=x∧tm'=tm2∧st'=st2):=by
 cases hr:runL ext fo K n f N l tm st with
 | none=>rw [hr] at h;cases h
 | some p =>
  rw [hr] at h
  unfold outN outD at h
  injection h with h
  injection h with h1 h
  injection h with h2 h
  injection h with h3 h4
  have hg:p.2.2.x.good:=⟨by rw [h3];exact AllP.mem hps,map_same h4⟩
  intro a w Q hA hQ
  refine (CodeL.run hH hx (r:=p.2) (x:=p.1) hg hp hr).2 a w Q hA ?_
  rintro x' tm' st' a' w' ⟨rfl,rfl,rfl⟩ hA'
  exact hQ p.1 tm2 st2 a' w' ⟨h1,rfl,rfl⟩ (hA'.gcN hH.fd hid h2)
end
section
open Go.RowKit
end
section
set_option maxRecDepth 100000
open Go.RowKit
def unLoop:Code→Code
 | .block _ (.loop c)=>c
 | c=>c
def unBlock:Code→Code
 | .block _ c=>c
 | c=>c
def atC (l:List Code) (k:Nat):Code:=match l[k]? with
 | some c=>c
 | none=>.skip
def mkT {α:Type}:List (Nat × α)→T α
 | []=>.e
 | p :: t=>(mkT t).upd p.1 (some p.2)
abbrev SS:=T SV × St HX
def Hp.nm (h:Hp):Hp:=⟨h.all,fun n=>occ n h.vals,h.last⟩
def SS.tell (s:SS) (sc:List (Nat × Sc)):SS:=(s.1,⟨s.2.m,s.2.nx,⟨s.2.x.h,0,sc,[],[]⟩⟩)
noncomputable abbrev goP (fo:Nat→Option (List SV)) (f N:Nat) (l:List Code) (s:SS):ExR HX:=runL extL fo 100000 100 f N l s.1 s.2
abbrev PT (fo:Nat→Option (List SV)) (f N:Nat) (live:Live) (keep:List Nat) (nx:Nat) (l:List Code) (s s2:SS) (x:Ex) (ps:List Prop):Prop :=
 outN live keep nx (goP fo f N l s)=outD x s2.1 s2.2 ps (goP fo f N l s)
abbrev PE (fo:Nat→Option (List SV)) (f N:Nat) (rs:Array ResultVar) (l:List Code) (s:SS) (ps:List Prop):Prop:=endC rs (goP fo f N l s)=endD ps (goP fo f N l s)
theorem PT.code {w0:B0} {fo:Nat→Option (List SV)} {fn:Nat} (hH:Hd w0 fo fn) {f N:Nat} {live:Live} {keep:List Nat} {nx:Nat} {l:List Code} {s s2:SS} {sc:List (Nat × Sc)} {x:Ex} {ps:List Prop}
  (h:PT fo f N live keep nx l (s.tell sc) s2 x ps) (hp:(l.all fun c=>planOkC (plan f) c)=true) (hps:AllP ps) (hid:∀ b,b < fn→(b,b)∈live) :
  CodeL w0 N l s.1 s.2 (fun x' tm' st'=>x'=x∧tm'=s2.1∧st'=s2.2):=by
 obtain ⟨tm,m,nx0,hx⟩:=s
 exact CodeL.sc (x':=⟨hx.h,0,sc,[],[]⟩) rfl (CodeL.runN hH extL_ok hp h hps hid)
theorem PE.code {w0:B0} {fo:Nat→Option (List SV)} {fn:Nat} (hH:Hd w0 fo fn) {f N:Nat} {rs:Array ResultVar} {l:List Code} {s:SS} {sc:List (Nat × Sc)} {ps:List Prop}
  (h:PE fo f N rs l (s.tell sc) ps) (hp:(l.all fun c=>planOkC (plan f) c)=true) (hps:AllP ps) :
  CodeL w0 N l s.1 s.2 (fun x tm' st'=>(x=.normal∨x=.ret)∧resS Tryz.prog st'.m tm' rs=some (.bool true)):=by
 obtain ⟨tm,m,nx0,hx⟩:=s
 exact CodeL.sc (x':=⟨hx.h,0,sc,[],[]⟩) rfl (CodeL.runE hH extL_ok hp h hps)
abbrev PA (fo:Nat→Option (List SV)) (f N:Nat) (live:Live) (keep:List Nat) (nx:Nat) (l:List Code) (is:List Nat) (s s2:Nat→SS) (x:Ex):Prop :=
 (is.map fun i=>outN live keep nx (goP fo f N l (s i)))=is.map fun i=>outD x (s2 i).1 (s2 i).2 [] (goP fo f N l (s i))
theorem PA.at {fo:Nat→Option (List SV)} {f N:Nat} {live:Live} {keep:List Nat} {nx:Nat} {l:List Code} {is:List Nat} {s s2:Nat→SS} {x:Ex} (h:PA fo f N live keep nx l is s s2 x) {i:Nat} (hi:i∈is):PT fo f N live keep nx l (s i) (s2 i) x []:=List.map_inj_left.1 h i hi
def hBu:Hp:=((hpBoot hp0).1.make 12 [109,97,105,110] 0 []).1
def wldAt (h:Nat) (out:List UInt8):SB:=.cells [.ptr h 0,.int .i64 4,.int .i64 19,.str [],.int .i64 4,.int .i64 20,.str [],.str out] false [] (some 55)
def wldC (out:List UInt8):SB:=.cells [.ptr 0 0,.int .i64 4,.int .i64 19,.str [],.int .i64 4,.int .i64 20,.str [],.str out] false [] (some 55)
def vI (n:Int):SV:=.agg [.int .i64 2,.int .i64 n,.str []]
abbrev fo0:Nat→Option (List SV):=fun _=>none
abbrev foC (cs:List SV):Nat→Option (List SV):=fun b=>match b with
 | 0=>some cs
 | _=>none
theorem o_b {b c:Bool} (h:b=c):some (SV.bool b)=some (SV.bool c):=by rw [h]
theorem o_lt {x y:Int} (h:x < y):some (SV.bool (ltI x y))=some (SV.bool true):=o_b (by rw [ltI_eq];exact decide_eq_true h)
theorem o_nlt {x y:Int} (h:¬ x < y):some (SV.bool (ltI x y))=some (SV.bool false):=o_b (by rw [ltI_eq];exact decide_eq_false h)
theorem o_ge {x y:Int} (h:¬ x < y):some (SV.bool (not (ltI x y)))=some (SV.bool true):=o_b (by rw [ltI_eq,decide_eq_false h];rfl)
theorem o_nge {x y:Int} (h:x < y):some (SV.bool (not (ltI x y)))=some (SV.bool false):=o_b (by rw [ltI_eq,decide_eq_true h];rfl)
theorem o_eq {x y:Int} (h:x=y):some (SV.bool (eqI x y))=some (SV.bool true):=o_b (by rw [eqI_eq];exact beq_iff_eq.2 h)
theorem o_neq {x y:Int} (h:¬ x=y):some (SV.bool (eqI x y))=some (SV.bool false):=o_b (by rw [eqI_eq];exact beq_eq_false_iff_ne.2 h)
theorem wrapI_eq (n:Int):IntKind.i64.wrap n=(n + 9223372036854775808) % 18446744073709551616 - 9223372036854775808:=by
 have e:IntKind.i64.wrap n=if n % 18446744073709551616 ≥ 9223372036854775808 then n % 18446744073709551616 - 18446744073709551616 else n % 18446744073709551616:=by
  simp [IntKind.wrap,IntKind.bits,IntKind.signed]
 rw [e]
 split<;>omega
theorem o_i {x y:Int} (h:(x + 9223372036854775808) % 18446744073709551616 - 9223372036854775808=y):some (SV.int .i64 (wrapF .i64 x))=some (SV.int .i64 y):=by rw [wrapF_eq,wrapI_eq,h]
theorem o_add {x y z:Int} (h:(x + y + 9223372036854775808) % 18446744073709551616 - 9223372036854775808=z):some (SV.int .i64 (wrapF .i64 (Int.add x y)))=some (SV.int .i64 z):=o_i h
theorem o_neV (t:Nat) (ht:t=26) {x y:Int} (h:x=y):binV Tryz.prog .neq t false (vI x) (vI y)=some (.bool false):=by
 have key:∃ F:Bool→Option SV,binV Tryz.prog .neq t false (vI x) (vI y)=F (x == y)∧F true=some (.bool false):=by
  subst ht
  exact ⟨fun b=>match (match some b with | some true=>some true | some false=>some false | none=>none) with | some r=>some (.bool !r) | none=>none,by kernel_rfl,rfl⟩
 obtain ⟨F,h1,h2⟩:=key
 rw [h1,beq_iff_eq.2 h,h2]
theorem wf_i64 {n:Int} (h:(Lit.int .i64 n).wf=true):-9223372036854775808≤n∧n≤9223372036854775807:=by
 simpa [Lit.wf,IntKind.min,IntKind.max,IntKind.bits,IntKind.signed] using h
end
end Go.Proofs.YtobooojhmgicpaaGreatDoor.W.E
