/- EvF EvF2 LpJ EvCp -/
import Derived.Test.YtildnolfgdcndaaGreatDoorPart27
import Derived.Test.YtildnolfgdcndaaGreatDoorPart26
set_option linter.unusedVariables false
set_option linter.unusedSimpArgs false
namespace Go.Proofs.YtildnolfgdcndaaGreatDoor.W.E
section
set_option maxRecDepth 100000
open Go.RowKit
def SV.plain:SV→Bool
 | .bool _=>true
 | .int ..=>true
 | .str _=>true
 | _=>false
theorem SV.plain_vr {e e2:Env} {v:SV} {u:Value} (h:v.plain=true) (hv:VR e v u):VR e2 v u:=by
 cases hv<;>first | exact .bool _ | exact .int _ _ | exact .str _ | (simp [SV.plain] at h)
def RunsL (w0:B0) (N:Nat) (l:List Code) (tm:T SV) (st:St HX) (x:Ex) (r:T SV × St HX):Prop :=
 ∀ (e:Env) (w:World) (F:FootE) (a:Go.Act) (Q:Go.Exit→Go.Act→World→Prop),Rl (HL w0) e st w F→AR e tm a.tmps→N≤a.tmps.size →
  (∀ a' w' e' F',AR e' r.1 a'.tmps→N≤a'.tmps.size→a'.defers=a.defers→Rl (HL w0) e' r.2 w' F'→Nxt st.nx e st w F e' r.2 w' F'→Q x.to a' w')→wpL l Q a w
section
variable {w0:B0} {fo:Nat→Option (List SV)} {fn:Nat} (hH:Hd w0 fo fn) {N:Nat}
theorem call_fo (hf:w0.fo=fo) (ext:ExtT) (K n:Nat):callF (C Tryz.prog ext ⟨default,fo,fun _=>none,nofun,fun _=>False,fun _=>none⟩) plan K n=callF (C Tryz.prog ext w0) plan K n:=by
 rw [← hf];rfl
theorem RunsL.run (hf:w0.fo=fo) {ext:ExtT} (hx:∀ f h,ext f=some h→extP f h) {K n f:Nat} {x:Ex} {r:T SV × St HX} (hg:r.2.x.good):∀ {l:List Code} {tm:T SV} {st:St HX},(l.all fun c=>planOkC (plan f) c)=true→runL ext fo K n f N l tm st=some (x,r) →
  st.x.good∧RunsL w0 N l tm st x r
 | [],tm,st,_,h=>by
  cases h
  exact ⟨hg,fun e w F a Q hR ha hs hQ=>hQ a w e F ha hs rfl hR (Nxt.refl ..)⟩
 | c :: t,tm,st,hp,h=>by
  simp only [List.all_cons,Bool.and_eq_true] at hp
  have hC:=C_ok hx w0
  unfold runL at h
  split at h
  ·rename_i p h1
   obtain ⟨g1,k1⟩:=RunsL.run hf hx hg hp.2 h
   unfold runC at h1
   rw [call_fo hf,← hf] at h1
   obtain ⟨g2,k2⟩:=codeF_ok (N:=N) hC.val hC.mixed (callF_ok hC K n) hC.bit K c tm st .normal p hp.1 h1 g1
   refine ⟨g2,fun e w F a Q hR ha hs hQ=>(k2 e w F a _ hR ha hs fun a1 w1 e1 F1 h1 h2 h3 h4 h5=>?_).wp⟩
   exact k1 e1 w1 F1 a1 Q h4 h1 h2 fun a2 w2 e2 F2 q1 q2 q3 q4 q5=>hQ a2 w2 e2 F2 q1 q2 (q3.trans h3) q4 (h5.trans (q5.less h5.nx))
  ·rename_i r0 hne
   have h0:=h
   unfold runC at h
   rw [call_fo hf,← hf] at h
   obtain ⟨g2,k2⟩:=codeF_ok (N:=N) hC.val hC.mixed (callF_ok hC K n) hC.bit K c tm st x r hp.1 h hg
   refine ⟨g2,fun e w F a Q hR ha hs hQ=>(k2 e w F a _ hR ha hs fun a1 w1 e1 F1 h1 h2 h3 h4 h5=>?_).wp⟩
   have:=hQ a1 w1 e1 F1 h1 h2 h3 h4 h5
   cases x with
   | normal=>exact absurd h0 (hne _)
   | exit j=>exact this
   | ret=>exact this
abbrev SB.row (cs:List SV) (ty:Option Nat):SB:=.cells cs false [] ty
theorem Rl.sub {e:Env} {m:T SB} {nx:Nat} {x:HX} {w:World} {F:FootE} {b:Nat} {k:SB} (hb:b < TMax) (hm:m.get b=.none) (h:Rl (HL w0) e ⟨m.upd b (some k),nx,x⟩ w F):Rl (HL w0) e ⟨m,nx,x⟩ w F:=by
 have up:∀ c q,m.get c=some q→(m.upd b (some k)).get c=some q:=fun c q hc=>by
  rw [T.upd_ne _ _ (fun e=>by subst e;rw [hm] at hc;cases hc)];exact hc
 exact ⟨fun c q cc o z h1 h2=>h.blk c q cc o z (up _ _ h1) h2,fun x y bx by_ c o z c' o' z' h1 h2=>h.dis x y bx by_ c o z c' o' z' (up _ _ h1) (up _ _ h2),fun c q h1=>h.old c q (up _ _ h1),h.dom,fun c q h1=>h.sib c q (up _ _ h1),h.ext⟩
theorem Rl.withRow {e:Env} {m:T SB} {nx:Nat} {x:HX} {w:World} {F:FootE} {b:Nat} {cs:List SV} {ty:Option Nat} (hb:b < TMax) (hbn:b < nx) (h:Rl (HL w0) e ⟨m,nx,x⟩ w F)
  (hc:∀ c o z,e b=some (c,o,z)→¬ F c∧BlkR e w c o z (.row cs ty)∧∀ y k o' z',m.get y=some k→y≠b→e y≠some (c,o',z')):Rl (HL w0) e ⟨m.upd b (some (.row cs ty)),nx,x⟩ w F:=by
 have same:(m.upd b (some (SB.row cs ty))).get b=some (.row cs ty):=T.upd_same _ _ hb
 refine ⟨fun y q c o z h1 h2=>?_,fun y y' q q' c o z c' o' z' h1 h2 h3 h4 h5 h6=>?_,fun y q h1=>?_,h.dom,fun y q h1 h2 z hz=>?_,h.ext⟩
 ·by_cases hy:y=b
  ·subst hy
   replace h1:(m.upd y (some (SB.row cs ty))).get y=some q:=h1
   rw [same] at h1;cases h1
   exact ⟨(hc c o z h2).1,(hc c o z h2).2.1⟩
  ·replace h1:(m.upd b (some (SB.row cs ty))).get y=some q:=h1
   rw [T.upd_ne _ _ hy] at h1
   exact h.blk y q c o z h1 h2
 ·replace h1:(m.upd b (some (SB.row cs ty))).get y=some q:=h1
  replace h2:(m.upd b (some (SB.row cs ty))).get y'=some q':=h2
  by_cases hy:y=b
  ·subst hy
   rw [T.upd_ne _ _ (Ne.symm h3)] at h2
   left
   rintro rfl
   exact (hc c o z h5).2.2 y' q' o' z' h2 (Ne.symm h3) h6
  ·rw [T.upd_ne _ _ hy] at h1
   by_cases hy':y'=b
   ·subst hy'
    left
    rintro rfl
    exact (hc c o' z' h6).2.2 y q o z h1 hy h5
   ·rw [T.upd_ne _ _ hy'] at h2
    exact h.dis y y' q q' c o z c' o' z' h1 h2 h3 h4 h5 h6
 ·by_cases hy:y=b
  ·subst hy;exact hbn
  ·replace h1:(m.upd b (some (SB.row cs ty))).get y=some q:=h1
   rw [T.upd_ne _ _ hy] at h1
   exact h.old y q h1
 ·replace h1:(m.upd b (some (SB.row cs ty))).get y=some q:=h1
  by_cases hy:y=b
  ·subst hy
   rw [same] at h1;cases h1
   cases hz
  ·rw [T.upd_ne _ _ hy] at h1
   exact h.sib y q h1 h2 z hz
def foW (fo:Nat→Option (List SV)) (b:Nat) (cs:List SV):Nat→Option (List SV):=fun y=>bif Nat.beq y b then some cs else fo y
def faW (fa:Nat→Option (Nat × Nat × Nat)) (b:Nat) (p:Nat × Nat × Nat):Nat→Option (Nat × Nat × Nat):=fun y=>bif Nat.beq y b then some p else fa y
theorem foW_same (fo:Nat→Option (List SV)) (b:Nat) (cs:List SV):foW fo b cs b=some cs:=by simp [foW]
theorem bne_of {y b:Nat} (h:y≠b):Nat.beq y b=false:=by
 cases hq:Nat.beq y b with
 | false=>rfl
 | true=>exact absurd (Nat.eq_of_beq_eq_true hq) h
theorem foW_ne (fo:Nat→Option (List SV)) {b y:Nat} (cs:List SV) (h:y≠b):foW fo b cs y=fo y:=by simp [foW,bne_of h]
theorem faW_same (fa:Nat→Option (Nat × Nat × Nat)) (b:Nat) (p:Nat × Nat × Nat):faW fa b p b=some p:=by simp [faW]
theorem faW_ne (fa:Nat→Option (Nat × Nat × Nat)) {b y:Nat} (p:Nat × Nat × Nat) (h:y≠b):faW fa b p y=fa y:=by simp [faW,bne_of h]
def bW (w0:B0) (w:World) (b:Nat) (cs:List SV) (p:Nat × Nat × Nat) (hlt:∀ y c o z,faW w0.fa b p y=some (c,o,z)→c < w.heap.size):B0:=⟨w,foW w0.fo b cs,faW w0.fa b p,hlt,fun _=>False,fun _=>none⟩
theorem bW_fix {w0:B0} {w:World} {b:Nat} {cs:List SV} {c o z:Nat} {hlt:∀ y c' o' z',faW w0.fa b (c,o,z) y=some (c',o',z')→c' < w.heap.size} (hb:w0.fa b=none) (d:Nat):Fix (bW w0 w b cs (c,o,z) hlt) d↔Fix w0 d∨d=c:=by
 constructor
 ·rintro (h | h | ⟨y,o',z',h⟩)
  ·exact .inl (.inl h)
  ·exact .inl (.inr (.inl h))
  ·by_cases hy:y=b
   ·subst hy
    replace h:faW w0.fa y (c,o,z) y=some (d,o',z'):=h
    rw [faW_same] at h;cases h;exact .inr rfl
   ·replace h:faW w0.fa b (c,o,z) y=some (d,o',z'):=h
    rw [faW_ne _ _ hy] at h;exact .inl (.inr (.inr ⟨y,o',z',h⟩))
 ·rintro ((h | h | ⟨y,o',z',h⟩) | rfl)
  ·exact .inl h
  ·exact .inr (.inl h)
  ·refine .inr (.inr ⟨y,o',z',?_⟩)
   have hy:y≠b:=fun e=>by subst e;rw [hb] at h;cases h
   show faW w0.fa b (c,o,z) y=_
   rw [faW_ne _ _ hy];exact h
  ·exact .inr (.inr ⟨b,o,z,faW_same _ _ _⟩)
theorem HXR.to {w0:B0} {w:World} {b:Nat} {cs:List SV} {c o z:Nat} {hlt:∀ y c' o' z',faW w0.fa b (c,o,z) y=some (c',o',z')→c' < w.heap.size} (hb:w0.fa b=none) {e:Env} {x:HX} {F:FootE} (h:HXR w0 e x w F) (hF:¬ F c) (he:e b=some (c,o,z))
  (hB:BlkR e w c o z (.cells cs true [] none)):HXR (bW w0 w b cs (c,o,z) hlt) e x w (fun d=>F d∨d=c):=by
 refine ⟨⟨h.gl,fun _ _=>rfl,Nat.le_refl _,fun y l hy=>?_⟩,?_⟩
 ·by_cases hyb:y=b
  ·subst hyb
   replace hy:foW w0.fo y cs y=some l:=hy
   rw [foW_same] at hy;cases hy
   exact ⟨c,o,z,faW_same _ _ _,he,hB⟩
  ·replace hy:foW w0.fo b cs y=some l:=hy
   rw [foW_ne _ _ hyb] at hy
   obtain ⟨c',o',z',h1,h2,h3⟩:=h.1.2.2.2 y l hy
   refine ⟨c',o',z',?_,h2,h3.keep (.refl e) (h.1.2.1 c' (.inr (.inr ⟨y,o',z',h1⟩)))⟩
   show faW w0.fa b (c,o,z) y=_
   rw [faW_ne _ _ hyb];exact h1
 ·obtain ⟨-,h2⟩:=h
  split
  ·rename_i hx
   rw [hx] at h2
   exact fun d=>by show F d∨d=c↔_;rw [bW_fix hb,h2 d]
  ·rename_i p hx
   rw [hx] at h2
   obtain ⟨cc,F0,k⟩:=h2
   refine ⟨cc,F0,k.at_,k.hr,k.ok,fun d=>?_,fun d hd=>?_⟩
   ·show F d∨d=c↔_;rw [bW_fix hb,k.iff d,or_assoc]
   ·rcases (bW_fix hb d).1 hd with h | rfl
    ·exact k.nf d h
    ·exact fun h0=>hF ((k.iff d).2 (.inl h0))
theorem HXR.back {w0:B0} {w w':World} {b:Nat} {cs:List SV} {c o z:Nat} {hlt:∀ y c' o' z',faW w0.fa b (c,o,z) y=some (c',o',z')→c' < w.heap.size} (hb:w0.fa b=none) (hbo:w0.fo b=none) {e e':Env} {x x':HX} {F F':FootE} (h0:HXR w0 e x w F) (hF:¬ F c) (hl:e.le e') (hs:w.heap.size≤w'.heap.size)
  (h:HXR (bW w0 w b cs (c,o,z) hlt) e' x' w' F'):HXR w0 e' x' w' (fun d=>F' d∧d≠c)∧F' c∧w'.heap[c]?=w.heap[c]?:=by
 have hc:¬ Fix w0 c:=fun hf=>hF (h0.tab c hf)
 have hfc:Fix (bW w0 w b cs (c,o,z) hlt) c:=(bW_fix hb c).2 (.inr rfl)
 refine ⟨⟨⟨h0.1.1,fun d hd=>(h.1.2.1 d ((bW_fix hb d).2 (.inl hd))).trans (h0.1.2.1 d hd),Nat.le_trans h0.1.2.2.1 hs,h0.1.2.2.2.mono hl⟩,?_⟩,h.tab c hfc,h.1.2.1 c hfc⟩
 obtain ⟨-,h2⟩:=h
 split
 ·rename_i hx
  rw [hx] at h2
  intro d
  show F' d∧d≠c↔_
  rw [h2 d,bW_fix hb]
  constructor
  ·rintro ⟨h | h,hn⟩
   ·exact h
   ·exact absurd h hn
  ·exact fun hd=>⟨.inl hd,fun e=>hc (e ▸ hd)⟩
 ·rename_i p hx
  rw [hx] at h2
  obtain ⟨cc,F0,k⟩:=h2
  refine ⟨cc,F0,k.at_,k.hr,k.ok,fun d=>?_,fun d hd=>k.nf d ((bW_fix hb d).2 (.inl hd))⟩
  show F' d∧d≠c↔_
  rw [k.iff d,bW_fix hb]
  constructor
  ·rintro ⟨h | h | h,hn⟩
   ·exact .inl h
   ·exact .inr h
   ·exact absurd h hn
  ·rintro (h | h)
   ·exact ⟨.inl h,fun e=>k.nf c hfc (e ▸ h)⟩
   ·exact ⟨.inr (.inl h),fun e=>hc (e ▸ h)⟩
include hH in
theorem CodeL.frame {ext:ExtT} (hx:∀ f h,ext f=some h→extP f h) {K n f:Nat} {l:List Code} {tm tm2:T SV} {m m2:T SB} {nx nx2:Nat} {x x2:HX} {ex:Ex} {live:Live} {keep:List Nat} {ps:List Prop} {b:Nat} {cs:List SV} {ty:Option Nat}
  (hp:(l.all fun c=>planOkC (plan f) c)=true) (h:outC live keep nx2 (runL ext (foW fo b cs) K n f N l tm ⟨m,nx,x⟩)=outD ex tm2 ⟨m2,nx2,x2⟩ ps (runL ext (foW fo b cs) K n f N l tm ⟨m,nx,x⟩)) (hps:AllP ps) (hid:∀ b,b < fn→(b,b)∈live)
  (hb:(b,b)∈live) (hpl:∀ v∈cs,v.plain=true) (hm:m.get b=none) (hbf:fn≤b) {t0 off len esz:Nat} {ck:Option Nat} (ht0:tm.get t0=some (.sl b off len esz ck)) :
  CodeL w0 N l tm ⟨m.upd b (some (.row cs ty)),nx,x⟩ (fun x' tm' st'=>x'=ex∧tm'=tm2∧st'=⟨m2.upd b (some (.row cs ty)),nx2,x2⟩):=by
 unfold outC outD at h
 split at h
 ·rename_i p hr
  injection h with h
  injection h with h1 h
  injection h with h2 h
  injection h with h3 h4
  have hg:p.2.2.x.good:=⟨by rw [h3];exact AllP.mem hps,map_same h4⟩
  intro a w Q hA hQ
  obtain ⟨e,F,hR,ha,ho⟩:=hA.ex
  have hlv:liveOk nx2 live=true:=by
   unfold E.gc at h2
   cases hl:liveOk nx2 live with
   | true=>rfl
   | false=>rw [hl] at h2;cases h2
  have hbT:b < TMax:=(live_lt hlv hb).2
  have hR0:=hR.sub hbT hm
  have same:(m.upd b (some (SB.row cs ty))).get b=some (.row cs ty):=T.upd_same _ _ hbT
  have ho0:Own w0 e ⟨m,nx,x⟩ w F:=⟨ho.bl,ho.id,fun c hc hi=>ho.im c hc (by
   rcases hi with hi | ⟨y,k,o,z,q1,q2⟩
   ·exact .inl hi
   ·refine .inr ⟨y,k,o,z,?_,q2⟩
    rw [T.upd_ne _ _ (fun e=>by subst e;rw [hm] at q1;cases q1)];exact q1)⟩
  obtain ⟨c0,o0,z0,he0⟩:∃ c o z,e b=some (c,o,z):=by
   obtain ⟨u,-,hu⟩:=ha t0 _ ht0
   cases hu with
   | sl h _ _ _ _=>exact ⟨_,_,_,h⟩
   | sle _ _ _ h=>exact ⟨_,_,_,h⟩
  obtain ⟨hF0,hB0⟩:=hR.blk b _ c0 o0 z0 same he0
  have hB1:BlkR e w c0 o0 z0 (.cells cs true [] none):=by
   obtain ⟨arr,t,fr,r1,r2,r3,r4,r5⟩:=hB0
   exact ⟨arr,t,fr,r1,r2,⟨nofun,nofun⟩,r4,r5⟩
  have hfa:w0.fa b=none:=by
   cases hq:w0.fa b with
   | none=>rfl
   | some l=>exact absurd (hH.fa b l hq) (by omega)
  have hbo:w0.fo b=none:=by
   cases hq:w0.fo b with
   | none=>rfl
   | some l=>exact absurd (hH.fd.bd b l hq) (by omega)
  have hlt:∀ y c o z,faW w0.fa b (c0,o0,z0) y=some (c,o,z)→c < w.heap.size:=fun y c o z hy=>by
   by_cases hyb:y=b
   ·subst hyb;rw [faW_same] at hy;cases hy;exact hB0.lt
   ·rw [faW_ne _ _ hyb] at hy
    exact Nat.lt_of_lt_of_le (w0.lt y c o z hy) hR0.ext.1.2.2.1
  have hX1:HXR (bW w0 w b cs (c0,o0,z0) hlt) e x w (fun d=>F d∨d=c0):=HXR.to hfa hR0.ext hF0 he0 hB1
  have apart0:∀ y k c o z,m.get y=some k→e y=some (c,o,z)→c≠c0:=fun y k c o z r1 r2=>by
   rintro rfl
   have hy:y≠b:=fun e=>by subst e;rw [hm] at r1;cases r1
   rcases hR.dis b y _ k c o0 z0 c o z same (by show (m.upd b _).get y=_;rw [T.upd_ne _ _ hy];exact r1) (Ne.symm hy) rfl he0 r2 with r | ⟨r,-⟩
   ·exact r rfl
   ·cases r
  have hR1:Rl (HL (bW w0 w b cs (c0,o0,z0) hlt)) e ⟨m,nx,x⟩ w (fun d=>F d∨d=c0) :=
   ⟨fun y k c o z r1 r2=>⟨fun h=>h.elim (hR0.blk y k c o z r1 r2).1 (apart0 y k c o z r1 r2),(hR0.blk y k c o z r1 r2).2⟩,hR0.dis,hR0.old,hR0.dom,hR0.sib,hX1⟩
  obtain ⟨-,key⟩:=RunsL.run (w0:=bW w0 w b cs (c0,o0,z0) hlt) (N:=N) (show (foW w0.fo b cs)=foW fo b cs by rw [hH.fo]) hx hg hp hr
  refine key e w _ a Q hR1 ha hA.size fun a' w' e' F1 q1 q2 q3 q41 q51=>?_
  obtain ⟨hXb,hFc,hwc⟩:=HXR.back hfa hbo hR0.ext hF0 q51.le q51.size q41.ext
  have q4:Rl (HL w0) e' p.2.2 w' (fun d=>F1 d∧d≠c0):=⟨fun y k c o z r1 r2=>⟨fun h=>(q41.blk y k c o z r1 r2).1 h.1,(q41.blk y k c o z r1 r2).2⟩,q41.dis,q41.old,q41.dom,q41.sib,hXb⟩
  have q5:Nxt nx e ⟨m,nx,x⟩ w F e' p.2.2 w' (fun d=>F1 d∧d≠c0):=by
   refine ⟨q51.le,q51.os,q51.tape,q51.output,q51.size,fun c hc hi=>?_,fun c hc hi=>?_,q51.und,q51.nx⟩
   ·by_cases hcc:c=c0
    ·subst hcc;exact hwc
    ·refine q51.frame c hc ?_
     rintro ((h | h) | ⟨y,k,o,z,r1,r2⟩)
     ·exact hi (.inl h)
     ·exact hcc h
     ·exact hi (.inr ⟨y,k,o,z,r1,r2⟩)
   ·have hne:c≠c0:=by
     rintro rfl
     rcases hi with hi | ⟨y,k,o,z,r1,r2⟩
     ·exact hi.2 rfl
     ·exact (q41.blk y k c o z r1 r2).1 hFc
    have h1:Im e' p.2.2 F1 c:=hi.elim (fun h=>.inl h.1) .inr
    rcases q51.img c hc h1 with (h | h) | h
    ·exact .inl h
    ·exact absurd h hne
    ·exact .inr h
  revert q4 q5
  generalize (fun d=>F1 d∧d≠c0)=F'
  intro q4 q5
  obtain ⟨e2,-,hnx,hmem,hdom,himg,k1,k2,k3⟩:=gc_ex hH.fd q4 q1 (ho0.next q4 q5) hid h2
  have hQ':=hQ ex tm2 _ a' w' ⟨rfl,rfl,rfl⟩
  -- where the row lies
  have place:∀ c o z,e2 b=some (c,o,z)→e b=some (c,o,z)∧BlkR e w c o z (.row cs ty)∧w'.heap[c]?=w.heap[c]?∧¬ F' c∧∀ y k o' z',p.2.2.m.get y=some k→e' y≠some (c,o',z'):=by
   intro c o z hq
   rw [hmem b b hb] at hq
   have hbn:b < nx:=hR.old b _ same
   have hq0:e b=some (c,o,z):=by
    cases he:e b with
    | none=>rw [(q5.und b hbn he).1] at hq;cases hq
    | some y=>rw [q5.le b y he] at hq;cases hq;rfl
   obtain ⟨g1,g2⟩:=hR.blk b _ c o z same hq0
   have hlt:=g2.lt
   have hno:¬ Im e ⟨m,nx,x⟩ F c:=by
    rintro (hi | ⟨y,k,o',z',r1,r2⟩)
    ·exact g1 hi
    ·have hy:y≠b:=fun e=>by subst e;replace r1:m.get y=some k:=r1;rw [hm] at r1;cases r1
     rcases hR.dis b y _ k c o z c o' z' same (by show (m.upd b _).get y=_;rw [T.upd_ne _ _ hy];exact r1) (Ne.symm hy) rfl hq0 r2 with r | ⟨r,-⟩
     ·exact r rfl
     ·cases r
   refine ⟨hq0,g2,q5.frame c hlt hno,fun hF=>hno (q5.img c hlt (.inl hF)),fun y k o' z' r1 r2=>hno (q5.img c hlt (.inr ⟨y,k,o',z',r1,r2⟩))⟩
  rw [h1]
  refine hQ' ⟨⟨e2,F',?_,k2,k3.bl,k3.id,fun c hc hi=>?_⟩,q2,q3.trans hA.ds⟩
  ·refine k1.withRow hbT (live_lt hlv hb).1 fun c o z hq=>?_
   obtain ⟨g0,g1,g2,g3,g4⟩:=place c o z hq
   refine ⟨g3,?_,fun y k o' z' hy hne he=>?_⟩
   ·obtain ⟨arr,t,fr,r1,r2,r3,r4,r5⟩:=g1
    exact ⟨arr,t,fr,g2.trans r1,r2,r3,r4,fun j v hj=>(r5 j v hj).elim fun s1 ⟨u,s2,s3⟩=>⟨s1,u,s2,SV.plain_vr (hpl v (List.mem_of_getElem? hj)) s3⟩⟩
   ·obtain ⟨y0,k0,s1,s2⟩:=himg y k hy
    exact g4 y0 k0 o' z' s2 ((hmem y0 y s1).symm.trans he)
  ·rcases hi with hi | ⟨y,k,o,z,r1,r2⟩
   ·exact k3.im c hc (.inl hi)
   ·by_cases hy:y=b
    ·subst hy
     obtain ⟨g0,-⟩:=place c o z r2
     exact ho.im c hc (.inr ⟨y,_,o,z,same,g0⟩)
    ·replace r1:(m2.upd b (some (SB.row cs ty))).get y=some k:=r1
     rw [T.upd_ne _ _ hy] at r1
     exact k3.im c hc (.inr ⟨y,k,o,z,r1,r2⟩)
 ·cases h
theorem CodeL.less {w0:B0} {N:Nat} {l:List Code} {tm:T SV} {st:St HX} {P1 Post:PostE} (h:CodeL w0 N l tm st P1) (hm:∀ x tm' st' a w,P1 x tm' st'→AtS w0 N tm' st' a w→∃ x2 tm2 st2,x2=x∧Post x2 tm2 st2∧AtS w0 N tm2 st2 a w):CodeL w0 N l tm st Post :=
 fun a w Q hA hQ=>h a w Q hA fun x tm' st' a' w' hp hA'=>by
  obtain ⟨x2,tm2,st2,rfl,h1,h2⟩:=hm x tm' st' a' w' hp hA'
  exact hQ _ _ _ _ _ h1 h2
theorem QT.frame {w0:B0} {fo:Nat→Option (List SV)} {fn:Nat} (hH:Hd w0 fo fn) {f N:Nat} {live:Live} {keep:List Nat} {nx:Nat} {l:List Code} {s s2:SS} {x:Ex} {tl:TL} {b:Nat} {cs:List SV} (ty:Option Nat)
  (h:QT (foW fo b cs) f N live keep nx l s s2 x tl) (hp:(l.all fun c=>planOkC (plan f) c)=true) (ht:tl.ok) (hid:∀ b,b < fn→(b,b)∈live)
  (hb:(b,b)∈live) (hpl:∀ v∈cs,v.plain=true) (hm:s.2.m.get b=none) (hbf:fn≤b) {t0 off len esz:Nat} {ck:Option Nat} (ht0:s.1.get t0=some (.sl b off len esz ck)) :
  CodeL w0 N l s.1 ⟨s.2.m.upd b (some (.row cs ty)),s.2.nx,s.2.x⟩ (fun x' tm' st'=>x'=x∧tm'=s2.1∧st'=⟨s2.2.m.upd b (some (.row cs ty)),s2.2.nx,s2.2.x⟩):=by
 obtain ⟨tm,m,nx0,hx⟩:=s
 obtain ⟨tm2,m2,nx2,hx2⟩:=s2
 have hnx:nx=nx2:=by
  have h2:=h
  unfold QT outC outD at h2
  split at h2
  ·injection h2 with h2
   injection h2 with h3 h2
   injection h2 with h4 h5
   unfold E.gc at h4
   cases hl:liveOk nx live with
   | false=>rw [hl] at h4;cases h4
   | true =>
    rw [hl,cond_true] at h4
    split at h4
    ·split at h4
     ·split at h4
      ·cases h4;rfl
      ·cases h4
     ·cases h4
    ·cases h4
  ·cases h2
 subst hnx
 exact CodeL.sc (x':=⟨hx.h,0,tl.sc,[],[]⟩) rfl (CodeL.frame hH extS_ok hp h (TL.ps_all tl [] ht trivial) hid hb hpl hm hbf ht0)
end
end
section
set_option maxRecDepth 100000
open Go.RowKit
section
variable {w0:B0} {fo:Nat→Option (List SV)} {fn:Nat} (hH:Hd w0 fo fn) {N:Nat}
include hH in
theorem CodeL.frameE {ext:ExtT} (hx:∀ f h,ext f=some h→extP f h) {K n f:Nat} {l:List Code} {tm:T SV} {m:T SB} {nx:Nat} {x:HX} {rs:Array ResultVar} {ps:List Prop} {b:Nat} {cs:List SV} {ty:Option Nat}
  (hp:(l.all fun c=>planOkC (plan f) c)=true) (h:endC rs (runL ext (foW fo b cs) K n f N l tm ⟨m,nx,x⟩)=endD ps (runL ext (foW fo b cs) K n f N l tm ⟨m,nx,x⟩)) (hps:AllP ps)
  (hbT:b < TMax) (hm:m.get b=none) (hbf:fn≤b) {t0 off len esz:Nat} {ck:Option Nat} (ht0:tm.get t0=some (.sl b off len esz ck)) :
  CodeL w0 N l tm ⟨m.upd b (some (.row cs ty)),nx,x⟩ (fun x' tm' st'=>(x'=.normal∨x'=.ret)∧resS Tryz.prog st'.m tm' rs=some (.bool true)):=by
 unfold endC endD at h
 split at h
 ·rename_i p hr
  injection h with h
  injection h with h1 h
  injection h with h2 h
  injection h with h3 h4
  have hg:p.2.2.x.good:=⟨by rw [h3];exact AllP.mem hps,map_same h4⟩
  intro a w Q hA hQ
  obtain ⟨e,F,hR,ha,ho⟩:=hA.ex
  have hR0:=hR.sub hbT hm
  have same:(m.upd b (some (SB.row cs ty))).get b=some (.row cs ty):=T.upd_same _ _ hbT
  have ho0:Own w0 e ⟨m,nx,x⟩ w F:=⟨ho.bl,ho.id,fun c hc hi=>ho.im c hc (by
   rcases hi with hi | ⟨y,k,o,z,q1,q2⟩
   ·exact .inl hi
   ·refine .inr ⟨y,k,o,z,?_,q2⟩
    rw [T.upd_ne _ _ (fun e=>by subst e;rw [hm] at q1;cases q1)];exact q1)⟩
  obtain ⟨c0,o0,z0,he0⟩:∃ c o z,e b=some (c,o,z):=by
   obtain ⟨u,-,hu⟩:=ha t0 _ ht0
   cases hu with
   | sl h _ _ _ _=>exact ⟨_,_,_,h⟩
   | sle _ _ _ h=>exact ⟨_,_,_,h⟩
  obtain ⟨hF0,hB0⟩:=hR.blk b _ c0 o0 z0 same he0
  have hB1:BlkR e w c0 o0 z0 (.cells cs true [] none):=by
   obtain ⟨arr,t,fr,r1,r2,r3,r4,r5⟩:=hB0
   exact ⟨arr,t,fr,r1,r2,⟨nofun,nofun⟩,r4,r5⟩
  have hfa:w0.fa b=none:=by
   cases hq:w0.fa b with
   | none=>rfl
   | some l=>exact absurd (hH.fa b l hq) (by omega)
  have hbo:w0.fo b=none:=by
   cases hq:w0.fo b with
   | none=>rfl
   | some l=>exact absurd (hH.fd.bd b l hq) (by omega)
  have hlt:∀ y c o z,faW w0.fa b (c0,o0,z0) y=some (c,o,z)→c < w.heap.size:=fun y c o z hy=>by
   by_cases hyb:y=b
   ·subst hyb;rw [faW_same] at hy;cases hy;exact hB0.lt
   ·rw [faW_ne _ _ hyb] at hy
    exact Nat.lt_of_lt_of_le (w0.lt y c o z hy) hR0.ext.1.2.2.1
  have hX1:HXR (bW w0 w b cs (c0,o0,z0) hlt) e x w (fun d=>F d∨d=c0):=HXR.to hfa hR0.ext hF0 he0 hB1
  have apart0:∀ y k c o z,m.get y=some k→e y=some (c,o,z)→c≠c0:=fun y k c o z r1 r2=>by
   rintro rfl
   have hy:y≠b:=fun e=>by subst e;rw [hm] at r1;cases r1
   rcases hR.dis b y _ k c o0 z0 c o z same (by show (m.upd b _).get y=_;rw [T.upd_ne _ _ hy];exact r1) (Ne.symm hy) rfl he0 r2 with r | ⟨r,-⟩
   ·exact r rfl
   ·cases r
  have hR1:Rl (HL (bW w0 w b cs (c0,o0,z0) hlt)) e ⟨m,nx,x⟩ w (fun d=>F d∨d=c0) :=
   ⟨fun y k c o z r1 r2=>⟨fun h=>h.elim (hR0.blk y k c o z r1 r2).1 (apart0 y k c o z r1 r2),(hR0.blk y k c o z r1 r2).2⟩,hR0.dis,hR0.old,hR0.dom,hR0.sib,hX1⟩
  obtain ⟨-,key⟩:=RunsL.run (w0:=bW w0 w b cs (c0,o0,z0) hlt) (N:=N) (show (foW w0.fo b cs)=foW fo b cs by rw [hH.fo]) hx hg hp hr
  refine key e w _ a Q hR1 ha hA.size fun a' w' e' F1 q1 q2 q3 q41 q51=>?_
  obtain ⟨hXb,hFc,hwc⟩:=HXR.back hfa hbo hR0.ext hF0 q51.le q51.size q41.ext
  have q4:Rl (HL w0) e' p.2.2 w' (fun d=>F1 d∧d≠c0):=⟨fun y k c o z r1 r2=>⟨fun h=>(q41.blk y k c o z r1 r2).1 h.1,(q41.blk y k c o z r1 r2).2⟩,q41.dis,q41.old,q41.dom,q41.sib,hXb⟩
  have q5:Nxt nx e ⟨m,nx,x⟩ w F e' p.2.2 w' (fun d=>F1 d∧d≠c0):=by
   refine ⟨q51.le,q51.os,q51.tape,q51.output,q51.size,fun c hc hi=>?_,fun c hc hi=>?_,q51.und,q51.nx⟩
   ·by_cases hcc:c=c0
    ·subst hcc;exact hwc
    ·refine q51.frame c hc ?_
     rintro ((h | h) | ⟨y,k,o,z,r1,r2⟩)
     ·exact hi (.inl h)
     ·exact hcc h
     ·exact hi (.inr ⟨y,k,o,z,r1,r2⟩)
   ·have hne:c≠c0:=by
     rintro rfl
     rcases hi with hi | ⟨y,k,o,z,r1,r2⟩
     ·exact hi.2 rfl
     ·exact (q41.blk y k c o z r1 r2).1 hFc
    have h1:Im e' p.2.2 F1 c:=hi.elim (fun h=>.inl h.1) .inr
    rcases q51.img c hc h1 with (h | h) | h
    ·exact .inl h
    ·exact absurd h hne
    ·exact .inr h
  exact hQ p.1 p.2.1 p.2.2 a' w' ⟨.inr h1,h2⟩ ⟨⟨e',_,q4,q1,ho0.next q4 q5⟩,q2,q3.trans hA.ds⟩
 ·cases h
end
theorem QE.frame {w0:B0} {fo:Nat→Option (List SV)} {fn:Nat} (hH:Hd w0 fo fn) {f N:Nat} {rs:Array ResultVar} {l:List Code} {s:SS} {tl:TL} {b:Nat} {cs:List SV} (ty:Option Nat)
  (h:QE (foW fo b cs) f N rs l s tl) (hp:(l.all fun c=>planOkC (plan f) c)=true) (ht:tl.ok) (hbT:b < TMax) (hm:s.2.m.get b=none) (hbf:fn≤b) {t0 off len esz:Nat} {ck:Option Nat} (ht0:s.1.get t0=some (.sl b off len esz ck)) :
  CodeL w0 N l s.1 ⟨s.2.m.upd b (some (.row cs ty)),s.2.nx,s.2.x⟩ (fun x tm' st'=>(x=.normal∨x=.ret)∧resS Tryz.prog st'.m tm' rs=some (.bool true)):=by
 obtain ⟨tm,m,nx0,hx⟩:=s
 exact CodeL.sc (x':=⟨hx.h,0,tl.sc,[],[]⟩) rfl (CodeL.frameE hH extS_ok hp h (TL.ps_all tl [] ht trivial) hbT hm hbf ht0)
end
section
set_option maxRecDepth 100000
open Go.RowKit
theorem hidC {live:Live} (h:(0,0)∈live):∀ b,b < 1→(b,b)∈live:=fun b hb=>by
 obtain rfl:b=0:=by omega
 exact h
theorem natIx_lt {n i:Nat} (hi:i < n):natIx (Int.ofNat i) n=some i:=by
 show (bif Nat.blt i n then some i else none)=some i
 have:Nat.blt i n=true:=by simpa [Nat.blt_eq] using hi
 rw [this];rfl
abbrev csV (cs:List Int):List SV:=cs.map (SV.int .i64)
theorem csV_at {cs:List Int} {i:Nat} {m:Int} (h:cs[i]?=some m):(csV cs)[i]?=some (SV.int .i64 m):=by rw [List.getElem?_map,h];rfl
end
section
set_option maxRecDepth 100000
open Go.RowKit
def ptr1 (v:SV):List Nat:=match v with
 | .ptr b _=>[b]
 | .sl b _ _ _ _=>[b]
 | _=>[]
theorem ptr1_some {e:Env} {v:SV} {u:Value} {b:Nat} (h:VR e v u) (hb:b∈ptr1 v):∃ y,e b=some y:=by
 cases h<;>simp only [ptr1,List.mem_singleton,List.not_mem_nil] at hb
 case ptr h=>subst hb;exact ⟨_,h⟩
 case sl h _ _ _ _=>subst hb;exact ⟨_,h⟩
 case sle h=>subst hb;exact ⟨_,h⟩
theorem ptrs_some {e:Env} {b:Nat}:∀ {vs:List SV} {us:List Value},VRs e vs us→b∈vs.flatMap ptr1→∃ y,e b=some y
 | [],_,_,hb=>by simp at hb
 | v :: t,_,.cons h1 h2,hb=>by
  rw [List.flatMap_cons] at hb
  rcases List.mem_append.1 hb with h | h
  ·exact ptr1_some h1 h
  ·exact ptrs_some h2 h
def blk1 (m:T SB) (vs:List SV):List (Nat × Option SB):=(vs.flatMap ptr1).map fun b=>(b,m.get b)
abbrev xH (b:Nat) (h:Hp):HX:=⟨some (b,h),0,[],[],[]⟩
def CallP (f:Nat) (vs:List SV) (bl:List (Nat × Option SB)) (b:Nat) (h:Hp) (v:SV) (h':Hp):Prop :=
 ∀ (w0:B0) (e:Env) (m:T SB) (nx:Nat) (w:World) (F:FootE) (us:List Value),(∀ p∈bl,m.get p.1=p.2)→Rl (HL w0) e ⟨m,nx,xH b h⟩ w F→VRs e vs us →
  Calls Tryz.prog f ⟨us⟩ w fun en w'=>∃ u F',en=.returned u∧VR e v u∧Rl (HL w0) e ⟨m,nx,xH b h'⟩ w' F'∧Nxt nx e ⟨m,nx,xH b h⟩ w F e ⟨m,nx,xH b h'⟩ w' F'
def xCall (f:Nat):ExtF:=fun vs st=>match st with
 | ⟨m,nx,⟨h,cnt,sc,pc,rc⟩⟩=>match h with
  | some (b,h0)=>match sc with
   | (k,.res v h') :: t=>bif Nat.beq k cnt then nxtC cnt fun n=>some (v,⟨m,nx,⟨some (b,h'),n,t,CallP f vs (blk1 m vs) b h0 v h' :: pc,rc⟩⟩) else none
   | _=>none
  | none=>none
theorem xCall_ok (f:Nat):ExtOk f (xCall f):=fun w0 vs st v st' h=>by
 obtain ⟨m,nx,⟨hh,cnt,sc,pc,rc⟩⟩:=st
 unfold xCall at h
 split at h
 rename_i hq
 cases hq
 split at h
 ·rename_i b h0
  split at h
  ·rename_i k v0 h1 t
   cases hb:Nat.beq k cnt with
   | false=>rw [hb] at h;cases h
   | true =>
    rw [hb,cond_true,nxtC_ok] at h
    cases h
    intro hg
    have hp:CallP f vs (blk1 m vs) b h0 v h1:=hg.1 _ (List.mem_cons_self ..)
    refine ⟨⟨fun p hp=>hg.1 p (List.mem_cons_of_mem _ hp),hg.2⟩,fun e w F us hR hvs=>?_⟩
    refine (hp w0 e m nx w F us (fun p hp=>?_) hR.xs hvs).mono fun en w' ⟨u,F',q1,q2,q3,q4⟩=>?_
    ·obtain ⟨c,-,rfl⟩:=List.mem_map.1 hp;rfl
    ·exact ⟨u,e,F',q1,q2,q3.xs,q4.xs⟩
  ·cases h
 ·cases h
theorem gcM_congr {ρ:Nat→Option Nat} {m m':T SB}:∀ {l:Live},(∀ p∈l,m.get p.1=m'.get p.1)→gcM ρ m l=gcM ρ m' l
 | [],_=>rfl
 | p :: t,h=>by
  unfold gcM
  rw [h p (List.mem_cons_self ..),gcM_congr fun q hq=>h q (List.mem_cons_of_mem _ hq)]
def bC (w:World) (I:Nat→Prop) (id:Nat→Option (Nat × Nat × Nat)):B0:=⟨w,fo0,fun _=>none,nofun,I,id⟩
theorem bC_fix {w:World} {I:Nat→Prop} {id:Nat→Option (Nat × Nat × Nat)} (d:Nat):Fix (bC w I id) d↔d=0∨d=2:=by
 constructor
 ·rintro (h1 | h1 | ⟨_,_,_,h1⟩)
  ·exact .inl h1
  ·exact .inr h1
  ·cases h1
 ·rintro (h1 | h1)
  ·exact .inl h1
  ·exact .inr (.inl h1)
theorem Rl.bC {w w':World} {I I':Nat→Prop} {id id':Nat→Option (Nat × Nat × Nat)} {e:Env} {m:T SB} {nx b:Nat} {h:Hp} {F:FootE} (hR:Rl (HL (E.bC w I id)) e ⟨m,nx,xH b h⟩ w' F):Rl (HL (E.bC w I' id')) e ⟨m,nx,xH b h⟩ w' F:=by
 obtain ⟨c,F0,k⟩:∃ c F0,HXAt (E.bC w I id) e b h w' F c F0:=hR.ext.2
 have h1:=hR.ext.1
 exact ⟨hR.blk,hR.dis,hR.old,hR.dom,hR.sib,⟨⟨h1.1,fun d hd=>h1.2.1 d ((bC_fix d).2 ((bC_fix d).1 hd)),h1.2.2.1,nofun⟩,⟨c,F0,k.at_,k.hr,k.ok,fun d=>(k.iff d).trans (or_congr Iff.rfl ((bC_fix d).trans (bC_fix d).symm)),fun d hd=>k.nf d ((bC_fix d).2 ((bC_fix d).1 hd))⟩⟩⟩
theorem callP_of {f:Nat} {g:Func} {c:Code} {vs vs2:List SV} {bl:List (Nat × Option SB)} {b b2:Nat} {h h':Hp} {v v2:SV} {live:Live} {fn:Nat} {m1 m2:T SB}
  (hf:Tryz.prog.funcs[f]?=some g) (hc:g.body=some c) (hl:vs2.length≤g.ntmps) (hl2:vs2.length < TMax)
  (hlv:liveOk fn live=true) (hb:(b,b2)∈live)
  (hbl:∀ p∈live,p.1=b∨(p.1∈vs.flatMap ptr1∧(p.1,m1.get p.1)∈bl)) (hm1:m1.get b=none)
  (hwr:∀ p∈live,∀ k,m1.get p.1=some k→k.wr=true∧k.sib=[])
  (hm:gcM (toNew live) m1 live=some m2)
  (hbk:∀ p∈live,∀ k,m1.get p.1=some k→∃ k2,m2.get p.2=some k2∧SB.ren (toOld live) k2=some k)
  (hvs:renL (SV.ren (toNew live) renF) vs=some vs2) (hv:SV.ren (toOld live) renF v2=some v)
  (H:∀ w0:B0,Hd w0 fo0 fn→CodeQ w0 g.ntmps c (initT vs2 0 .e) ⟨m2,fn,xH b2 h⟩ fun x tm st=>(x=.normal∨x=.ret)∧resS Tryz.prog st.m tm g.results=some v2∧(∀ d k,m2.get d=some k→st.m.get d=some k)∧st.x.h=some (b2,h')) :
  CallP f vs bl b h v h':=by
 intro w0 e m nx w F us hmb hR hvs0
 obtain ⟨c0,F0,hX⟩:∃ c0 F0,HXAt w0 e b h w F c0 F0:=hR.ext.2
 have hRE:HXR w0 e (xH b h) w F:=hR.ext
 have hG:Gl w:=hRE.gl
 have hFix:=hRE.tab
 obtain ⟨z0,hz0⟩:=hX.at_
 have hFc:F c0:=(hX.iff c0).2 (.inl (by obtain ⟨L,r⟩:=hX.hr;exact r.own.1))
 have hmn:m.get b=none:=by
  cases hq:m.get b with
  | none=>rfl
  | some k=>exact absurd hFc (hR.blk b k c0 0 z0 hq hz0).1
 have hmm:∀ p∈live,m.get p.1=m1.get p.1:=fun p hp=>by
  rcases hbl p hp with h1 | ⟨-,h1⟩
  ·rw [h1,hmn,hm1]
  ·exact hmb _ h1
 have hsome:∀ p∈live,∃ y,e p.1=some y:=fun p hp=>by
  rcases hbl p hp with h1 | ⟨h1,-⟩
  ·exact ⟨_,by rw [h1];exact hz0⟩
  ·exact ptrs_some hvs0 h1
 -- the small state
 obtain ⟨F1,hF1⟩:∃ F1:FootE,F1=fun d=>F0 d∨d=0∨d=2:=⟨_,rfl⟩
 have hF10:∀ d,F1 d↔F0 d∨d=0∨d=2:=fun d=>by rw [hF1]
 have hF1F:∀ d,F1 d→F d:=fun d hd=>by
  rcases (hF10 d).1 hd with h1 | h1 | h1
  ·exact (hX.iff d).2 (.inl h1)
  ·exact hFix d (.inl h1)
  ·exact hFix d (.inr (.inl h1))
 have hB:∀ (I:Nat→Prop) (id:Nat→Option (Nat × Nat × Nat)) d,Fix (E.bC w I id) d↔d=0∨d=2:=fun I id d=>bC_fix d
 have hRA:∀ (I:Nat→Prop) (id:Nat→Option (Nat × Nat × Nat)),Rl (HL (E.bC w I id)) e ⟨m,nx,xH b h⟩ w F1:=fun I id =>
  ⟨fun y k c o z r1 r2=>⟨fun hc=>(hR.blk y k c o z r1 r2).1 (hF1F c hc),(hR.blk y k c o z r1 r2).2⟩,hR.dis,hR.old,hR.dom,hR.sib,
   ⟨⟨hG,fun _ _=>rfl,Nat.le_refl _,nofun⟩,⟨c0,F0,hX.at_,hX.hr,hX.ok,fun d=>by rw [hF10,hB],fun d hd=>by
    rcases (hB I id d).1 hd with h1 | h1
    ·exact hX.nf d (.inl h1)
    ·exact hX.nf d (.inr (.inl h1))⟩⟩⟩
 have hgc:gc live [] fn .e ⟨m,nx,xH b h⟩=some (.e,⟨m2,fn,xH b2 h⟩):=by
  unfold E.gc
  rw [hlv,cond_true]
  simp only [gcM_congr hmm,hm,gcT,gcX,mem_toNew hlv hb]
 obtain ⟨e2,-,-,hmem,hdom,hget,hR2,-,ho2⟩:=gc_ex (w0:=E.bC w (Im e ⟨m,nx,xH b h⟩ F1) (fun _=>none)) (fn:=0) ⟨nofun,nofun,nofun⟩ (tm:=.e) (ts:=#[]) (hRA _ _) (fun t v ht=>by simp at ht) ⟨BlI.refl,nofun,fun c _ hi=>.inl hi⟩ (fun b hb=>absurd hb (Nat.not_lt_zero b)) hgc
 obtain ⟨Is,hIs⟩:∃ Is:Nat→Prop,Is=Im e2 ⟨m2,fn,xH b2 h⟩ F1:=⟨_,rfl⟩
 have hIF:∀ d,d < w.heap.size→Is d→Im e ⟨m,nx,xH b h⟩ F d:=fun d hd hi=>by
  rw [hIs] at hi
  rcases ho2.im d hd hi with h1 | h1
  ·rcases h1 with h1 | h1
   ·exact .inl (hF1F d h1)
   ·exact .inr h1
  ·refine .inl (hFix d ?_)
   rcases (hB _ _ d).1 h1 with h1 | h1
   ·exact .inl h1
   ·exact .inr (.inl h1)
 -- of what is the caller's,and not handed to it,nothing is its own
 have hno:∀ y k cc o z,m.get y=some k→e y=some (cc,o,z)→(∀ d,(y,d) ∉ live)→¬ Is cc:=fun y k cc o z r1 r2 hy hi=>by
  rw [hIs] at hi
  rcases hi with hi | ⟨d',k',o',z',s1,s2⟩
  ·exact (hR.blk y k cc o z r1 r2).1 (hF1F cc hi)
  ·obtain ⟨b',kk,t1,t2⟩:=hget d' k' s1
   rw [hmem b' d' t1] at s2
   have hne:b'≠y:=fun hq=>hy d' (hq ▸ t1)
   obtain ⟨u1,u2⟩:=hwr (b',d') t1 kk (by rw [← hmm _ t1];exact t2)
   rcases hR.dis b' y kk k cc o' z' cc o z t2 r1 hne u1 s2 r2 with q | ⟨q,-⟩
   ·exact q rfl
   ·rw [u2] at q;cases q
 have hnoF:∀ d,Fix w0 d→d≠0→d≠2→¬ Is d:=fun d hd h0 h2 hi=>by
  rw [hIs] at hi
  rcases hi with hi | ⟨d',k',o',z',s1,s2⟩
  ·rcases (hF10 d).1 hi with h1 | h1 | h1
   ·exact hX.nf d hd h1
   ·exact h0 h1
   ·exact h2 h1
  ·obtain ⟨b',kk,t1,t2⟩:=hget d' k' s1
   rw [hmem b' d' t1] at s2
   exact (hR.blk b' kk d o' z' t2 s2).1 (hFix d hd)
 obtain ⟨wB,hwB⟩:∃ wB:B0,wB=E.bC w Is (fun d=>if d < fn then e2 d else none):=⟨_,rfl⟩
 have hHd:Hd wB fo0 fn:=by
  subst hwB
  refine ⟨rfl,⟨nofun,nofun,fun d x hd=>?_⟩,nofun⟩
  replace hd:(if d < fn then e2 d else none)=some x:=hd
  split at hd
  ·assumption
  ·cases hd
 have hvs2:VRs e2 vs2 us:=renL_ok (fun v v2 u h1 h2=>SV.ren_ok (fun b c hbc=>hmem b c (toNew_mem hbc)) renF h1 h2) hvs hvs0
 have hlen:us.length=vs2.length:=(hvs2.length).symm
 have hOwn:Own wB e2 ⟨m2,fn,xH b2 h⟩ w F1:=by
  subst hwB
  refine ⟨BlI.refl,fun d x hd=>?_,fun c _ hi=>.inl (by show Is c;rw [hIs];exact hi)⟩
  replace hd:(if d < fn then e2 d else none)=some x:=hd
  split at hd
  ·exact hd
  ·cases hd
 refine calls_of_wp hf hc (H wB hHd _ w _ ⟨⟨e2,F1,by subst hwB;exact hR2.bC,?_,hOwn⟩,?_,rfl⟩ fun x tm st a' w' ⟨hx,hres,hkp,hh⟩ hA=>?_)
 ·refine initT_ok hvs2 (fun t v ht=>by simp at ht) (by omega) fun j u hj=>?_
  have hj2:=(List.getElem?_eq_some_iff.1 hj).1
  rw [Array.getElem?_append_left (by simp;omega)]
  simpa using hj
 ·simp;omega
 ·obtain ⟨e',F',hR',ha',ho'⟩:=hA.ex
  obtain ⟨u,k1,k2⟩:=resS_ok hR' ha' hres
  have hds:=hA.ds
  have hid:∀ p∈live,e' p.2=e p.1:=fun p hp=>by
   obtain ⟨y,hy⟩:=hsome p hp
   rw [hy]
   refine ho'.id p.2 y ?_
   rw [hwB]
   show (if p.2 < fn then e2 p.2 else none)=some y
   rw [if_pos (live_lt hlv hp).1,hmem p.1 p.2 hp,hy]
  have hρ:∀ d y,toOld live d=some y→e y=e' d:=fun d y hy=>(hid (y,d) (toOld_mem hy)).symm
  have hbl':=ho'.bl
  have him:=ho'.im
  have hRx:HXR wB e' st.x w' F':=hR'.ext
  have hw0:wB.w=w:=by rw [hwB];rfl
  have hI0:wB.I=Is:=by rw [hwB];rfl
  have hFx:∀ d,Fix wB d↔d=0∨d=2:=fun d=>by rw [hwB];exact hB _ _ d
  have hat:∀ d,d < w.heap.size→¬ Is d→w'.heap[d]?=w.heap[d]?:=fun d hd hn=>by
   have:=hbl'.at_ d (by rw [hw0];exact hd) (by rw [hI0];exact hn)
   rw [this,hw0]
  have hF'I:∀ d,d < w.heap.size→F' d→Is d∨d=0∨d=2:=fun d hd hF=>by
   rcases him d (by rw [hw0];exact hd) (.inl hF) with h1 | h1
   ·left;rw [hI0] at h1;exact h1
   ·exact .inr ((hFx d).1 h1)
  have hsz:w.heap.size≤w'.heap.size:=by have:=hbl'.sz;rw [hw0] at this;exact this
  obtain ⟨c1,F2,hX'⟩:∃ c1 F2,HXAt wB e' b2 h' w' F' c1 F2:=by
   have h2:=hRx.2
   rw [hh] at h2
   exact h2
  have hlt0:∀ d,Fix w0 d→d < w.heap.size:=fun d hd=>(HL w0).lt _ _ _ _ hR.ext d (hFix d hd)
  have h02:∀ d,d=0∨d=2→F d:=fun d hd=>hFix d (hd.elim .inl fun h=>.inr (.inl h))
  obtain ⟨FF,hFF⟩:∃ FF:FootE,FF=fun d=>F' d∨Fix w0 d:=⟨_,rfl⟩
  have hFFi:∀ d,FF d↔F' d∨Fix w0 d:=fun d=>by rw [hFF]
  have hFFF:∀ y k cc o z,m.get y=some k→e y=some (cc,o,z)→¬ F' cc→¬ FF cc:=fun y k cc o z r1 r2 hn hff=>by
   rcases (hFFi cc).1 hff with h1 | h1
   ·exact hn h1
   ·exact (hR.blk y k cc o z r1 r2).1 (hFix cc h1)
  have hRF:Rl (HL w0) e ⟨m,nx,xH b h'⟩ w' FF:=by
   refine ⟨fun y k cc o z r1 r2=>?_,hR.dis,hR.old,hR.dom,hR.sib,⟨⟨hRE.1.1,fun d hd=>?_,Nat.le_trans hRE.1.2.2.1 hsz,hRE.1.2.2.2⟩,⟨c1,F2,?_,hX'.hr,hX'.ok,fun d=>?_,fun d hd=>?_⟩⟩⟩
   ·have hlt:=(hR.blk y k cc o z r1 r2).2.lt
    by_cases hy:∃ d,(y,d)∈live
    ·obtain ⟨d,hd⟩:=hy
     obtain ⟨k2,s1,s2⟩:=hbk (y,d) hd k (by rw [← hmm _ hd];exact r1)
     have s3:=hkp d k2 s1
     have s4:e' d=some (cc,o,z):=(hid (y,d) hd).trans r2
     obtain ⟨s5,s6⟩:=hR'.blk d k2 cc o z s3 s4
     exact ⟨hFFF y k cc o z r1 r2 s5,SB.ren_ok hρ s2 s6⟩
    ·have hn:=hno y k cc o z r1 r2 fun d hd=>hy ⟨d,hd⟩
     refine ⟨hFFF y k cc o z r1 r2 fun hF=>?_,(hR.blk y k cc o z r1 r2).2.keep (.refl e) (hat cc hlt hn)⟩
     rcases hF'I cc hlt hF with h1 | h1
     ·exact hn h1
     ·exact (hR.blk y k cc o z r1 r2).1 (h02 cc h1)
   ·refine Eq.trans ?_ (hRE.1.2.1 d hd)
    by_cases h0:d=0∨d=2
    ·have:=hRx.1.2.1 d ((hFx d).2 h0)
     rw [this,hw0]
    ·exact hat d (hlt0 d hd) (hnoF d hd (fun h=>h0 (.inl h)) (fun h=>h0 (.inr h)))
   ·obtain ⟨z,hz⟩:=hX'.at_
    exact ⟨z,(hid (b,b2) hb).symm.trans hz⟩
   ·rw [hFFi,hX'.iff d,hFx]
    constructor
    ·rintro ((h1 | h1) | h1)
     ·exact .inl h1
     ·exact .inr (h1.elim .inl fun h=>.inr (.inl h))
     ·exact .inr h1
    ·rintro (h1 | h1)
     ·exact .inl (.inl h1)
     ·exact .inr h1
   ·intro h2
    have h3:F' d:=(hX'.iff d).2 (.inl h2)
    by_cases h0:d=0∨d=2
    ·exact hX'.nf d ((hFx d).2 h0) h2
    ·rcases hF'I d (hlt0 d hd) h3 with h1 | h1
     ·exact hnoF d hd (fun h=>h0 (.inl h)) (fun h=>h0 (.inr h)) h1
     ·exact h0 h1
  have hN:Nxt nx e ⟨m,nx,xH b h⟩ w F e ⟨m,nx,xH b h'⟩ w' FF:=by
   have q1:=hbl'.os
   have q2:=hbl'.tape
   have q3:=hbl'.output
   rw [hw0] at q1 q2 q3
   refine ⟨.refl e,q1,q2,q3,hsz,fun d hd hi=>hat d hd fun h1=>hi (hIF d hd h1),fun d hd hi=>?_,fun _ _ h=>⟨h,fun _=>rfl⟩,Nat.le_refl _⟩
   rcases hi with hi | hi
   ·rcases (hFFi d).1 hi with h1 | h1
    ·rcases hF'I d hd h1 with h2 | h2
     ·exact hIF d hd h2
     ·exact .inl (h02 d h2)
    ·exact .inl (hFix d h1)
   ·exact .inr hi
  have hvu:VR e v u:=SV.ren_ok hρ renF hv k2
  rcases hx with rfl | rfl
  ·exact ⟨hds,_,k1,u,FF,rfl,hvu,hRF,hN⟩
  ·exact ⟨hds,_,k1,u,FF,rfl,hvu,hRF,hN⟩
noncomputable abbrev goX (ext:ExtT) (fo:Nat→Option (List SV)) (f N:Nat) (l:List Code) (s:SS):ExR HX:=runL ext fo 100000 100 f N l s.1 s.2
abbrev QTX (ext:ExtT) (fo:Nat→Option (List SV)) (f N:Nat) (live:Live) (keep:List Nat) (nx:Nat) (l:List Code) (s s2:SS) (x:Ex) (tl:TL):Prop :=
 outC live keep nx (goX ext fo f N l (s.tell tl.sc))=outD x s2.1 s2.2 (tl.ps []) (goX ext fo f N l (s.tell tl.sc))
theorem QTX.code {w0:B0} {fo:Nat→Option (List SV)} {fn:Nat} (hH:Hd w0 fo fn) {ext:ExtT} (hx:∀ f h,ext f=some h→extP f h) {f N:Nat} {live:Live} {keep:List Nat} {nx:Nat} {l:List Code} {s s2:SS} {x:Ex} {tl:TL}
  (h:QTX ext fo f N live keep nx l s s2 x tl) (hp:(l.all fun c=>planOkC (plan f) c)=true) (ht:tl.ok) (hid:∀ b,b < fn→(b,b)∈live) :
  CodeL w0 N l s.1 s.2 (fun x' tm' st'=>x'=x∧tm'=s2.1∧st'=s2.2):=by
 obtain ⟨tm,m,nx0,hx0⟩:=s
 exact CodeL.sc (x':=⟨hx0.h,0,tl.sc,[],[]⟩) rfl (CodeL.runG hH hx hp h (TL.ps_all tl [] ht trivial) hid)
abbrev QEX (ext:ExtT) (fo:Nat→Option (List SV)) (f N:Nat) (rs:Array ResultVar) (l:List Code) (s:SS) (tl:TL):Prop:=endC rs (goX ext fo f N l (s.tell tl.sc))=endD (tl.ps []) (goX ext fo f N l (s.tell tl.sc))
theorem QEX.code {w0:B0} {fo:Nat→Option (List SV)} {fn:Nat} (hH:Hd w0 fo fn) {ext:ExtT} (hx:∀ f h,ext f=some h→extP f h) {f N:Nat} {rs:Array ResultVar} {l:List Code} {s:SS} {tl:TL}
  (h:QEX ext fo f N rs l s tl) (hp:(l.all fun c=>planOkC (plan f) c)=true) (ht:tl.ok) :
  CodeL w0 N l s.1 s.2 (fun x tm' st'=>(x=.normal∨x=.ret)∧resS Tryz.prog st'.m tm' rs=some (.bool true)):=by
 obtain ⟨tm,m,nx0,hx0⟩:=s
 exact CodeL.sc (x':=⟨hx0.h,0,tl.sc,[],[]⟩) rfl (CodeL.runE hH hx hp h (TL.ps_all tl [] ht trivial))
abbrev QAX (ext:ExtT) (fo:Nat→Option (List SV)) (f N:Nat) (live:Live) (keep:List Nat) (nx:Nat) (l:List Code) (is:List Nat) (s s2:Nat→SS) (x:Ex) (tl:Nat→TL):Prop :=
 (is.map fun i=>outC live keep nx (goX ext fo f N l ((s i).tell (tl i).sc)))=is.map fun i=>outD x (s2 i).1 (s2 i).2 ((tl i).ps []) (goX ext fo f N l ((s i).tell (tl i).sc))
theorem QAX.at {ext:ExtT} {fo:Nat→Option (List SV)} {f N:Nat} {live:Live} {keep:List Nat} {nx:Nat} {l:List Code} {is:List Nat} {s s2:Nat→SS} {x:Ex} {tl:Nat→TL} (h:QAX ext fo f N live keep nx l is s s2 x tl) {i:Nat} (hi:i∈is):QTX ext fo f N live keep nx l (s i) (s2 i) x (tl i):=List.map_inj_left.1 h i hi
def qCall (o f:Nat) (vs:List SV) (bl:List (Nat × Option SB)) (b:Nat) (h:Hp) (v:SV) (h':Hp):TE:=(o,.res v h',CallP f vs bl b h v h')
def extC (f:Nat) (g:ExtT):ExtT:=fun j=>bif Nat.beq j f then some (xCall f) else g j
theorem extC_ok {f:Nat} {g:ExtT} (hc:Callable Tryz.prog f) (h:∀ f x,g f=some x→extP f x):∀ j x,extC f g j=some x→extP j x :=
 extS_one (x:=xCall f) ⟨hc,xCall_ok f⟩ h
end
end Go.Proofs.YtildnolfgdcndaaGreatDoor.W.E
