/- EvF EvF2 EvCp -/
import Derived.Test.YtlbcbikplfocfaaGreatDoorPart27
set_option linter.unusedVariables false
set_option linter.unusedSimpArgs false
namespace Go.Proofs.YtlbcbikplfocfaaGreatDoor.W.E
section
set_option maxRecDepth 100000
open Go.RowKit
def SV.plain:SV→Bool
 | .bool _=>true
 | .int ..=>true
 | .str _=>true
 | _=>false
theorem SV.plain_vr {e e2:Env} {v:SV} {u:Value} (h:v.plain=true) (hv:VR e v u):VR e2 v u:=by
 cases hv<;>first | exact .bool _ | exact .int _ _ | exact .str _ | (simp [SV.plain] at h)
def RunsL (w0:B0) (N:Nat) (l:List Code) (tm:T SV) (st:St HX) (x:Ex) (r:T SV × St HX):Prop :=
 ∀ (e:Env) (w:World) (F:FootE) (a:Go.Act) (Q:Go.Exit→Go.Act→World→Prop),Rl (HL w0) e st w F→AR e tm a.tmps→N≤a.tmps.size →
  (∀ a' w' e' F',AR e' r.1 a'.tmps→N≤a'.tmps.size→a'.defers=a.defers→Rl (HL w0) e' r.2 w' F'→Nxt st.nx e st w F e' r.2 w' F'→Q x.to a' w')→wpL l Q a w
section
variable {w0:B0} {fo:Nat→Option (List SV)} {fn:Nat} (hH:Hd w0 fo fn) {N:Nat}
theorem call_fo (hf:w0.fo=fo) (ext:ExtT) (K n:Nat):callF (C Tryz.prog ext ⟨default,fo,fun _=>none,nofun,fun _=>False,fun _=>none⟩) plan K n=callF (C Tryz.prog ext w0) plan K n:=by
 rw [← hf];rfl
theorem RunsL.run (hf:w0.fo=fo) {ext:ExtT} (hx:∀ f h,ext f=some h→extP f h) {K n f:Nat} {x:Ex} {r:T SV × St HX} (hg:r.2.x.good):∀ {l:List Code} {tm:T SV} {st:St HX},(l.all fun c=>planOkC (plan f) c)=true→runL ext fo K n f N l tm st=some (x,r) →
  st.x.good∧RunsL w0 N l tm st x r
 | [],tm,st,_,h=>by
  cases h
  exact ⟨hg,fun e w F a Q hR ha hs hQ=>hQ a w e F ha hs rfl hR (Nxt.refl ..)⟩
 | c :: t,tm,st,hp,h=>by
  simp only [List.all_cons,Bool.and_eq_true] at hp
  have hC:=C_ok hx w0
  unfold runL at h
  split at h
  ·rename_i p h1
   obtain ⟨g1,k1⟩:=RunsL.run hf hx hg hp.2 h
   unfold runC at h1
   rw [call_fo hf,← hf] at h1
   obtain ⟨g2,k2⟩:=codeF_ok (N:=N) hC.val hC.mixed (callF_ok hC K n) hC.bit K c tm st .normal p hp.1 h1 g1
   refine ⟨g2,fun e w F a Q hR ha hs hQ=>(k2 e w F a _ hR ha hs fun a1 w1 e1 F1 h1 h2 h3 h4 h5=>?_).wp⟩
   exact k1 e1 w1 F1 a1 Q h4 h1 h2 fun a2 w2 e2 F2 q1 q2 q3 q4 q5=>hQ a2 w2 e2 F2 q1 q2 (q3.trans h3) q4 (h5.trans (q5.less h5.nx))
  ·rename_i r0 hne
   have h0:=h
   unfold runC at h
   rw [call_fo hf,← hf] at h
   obtain ⟨g2,k2⟩:=codeF_ok (N:=N) hC.val hC.mixed (callF_ok hC K n) hC.bit K c tm st x r hp.1 h hg
   refine ⟨g2,fun e w F a Q hR ha hs hQ=>(k2 e w F a _ hR ha hs fun a1 w1 e1 F1 h1 h2 h3 h4 h5=>?_).wp⟩
   have:=hQ a1 w1 e1 F1 h1 h2 h3 h4 h5
   cases x with
   | normal=>exact absurd h0 (hne _)
   | exit j=>exact this
   | ret=>exact this
abbrev SB.row (cs:List SV) (ty:Option Nat):SB:=.cells cs false [] ty
theorem Rl.sub {e:Env} {m:T SB} {nx:Nat} {x:HX} {w:World} {F:FootE} {b:Nat} {k:SB} (hb:b < TMax) (hm:m.get b=.none) (h:Rl (HL w0) e ⟨m.upd b (some k),nx,x⟩ w F):Rl (HL w0) e ⟨m,nx,x⟩ w F:=by
 have up:∀ c q,m.get c=some q→(m.upd b (some k)).get c=some q:=fun c q hc=>by
  rw [T.upd_ne _ _ (fun e=>by subst e;rw [hm] at hc;cases hc)];exact hc
 exact ⟨fun c q cc o z h1 h2=>h.blk c q cc o z (up _ _ h1) h2,fun x y bx by_ c o z c' o' z' h1 h2=>h.dis x y bx by_ c o z c' o' z' (up _ _ h1) (up _ _ h2),fun c q h1=>h.old c q (up _ _ h1),h.dom,fun c q h1=>h.sib c q (up _ _ h1),h.ext⟩
theorem Rl.withRow {e:Env} {m:T SB} {nx:Nat} {x:HX} {w:World} {F:FootE} {b:Nat} {cs:List SV} {ty:Option Nat} (hb:b < TMax) (hbn:b < nx) (h:Rl (HL w0) e ⟨m,nx,x⟩ w F)
  (hc:∀ c o z,e b=some (c,o,z)→¬ F c∧BlkR e w c o z (.row cs ty)∧∀ y k o' z',m.get y=some k→y≠b→e y≠some (c,o',z')):Rl (HL w0) e ⟨m.upd b (some (.row cs ty)),nx,x⟩ w F:=by
 have same:(m.upd b (some (SB.row cs ty))).get b=some (.row cs ty):=T.upd_same _ _ hb
 refine ⟨fun y q c o z h1 h2=>?_,fun y y' q q' c o z c' o' z' h1 h2 h3 h4 h5 h6=>?_,fun y q h1=>?_,h.dom,fun y q h1 h2 z hz=>?_,h.ext⟩
 ·by_cases hy:y=b
  ·subst hy
   replace h1:(m.upd y (some (SB.row cs ty))).get y=some q:=h1
   rw [same] at h1;cases h1
   exact ⟨(hc c o z h2).1,(hc c o z h2).2.1⟩
  ·replace h1:(m.upd b (some (SB.row cs ty))).get y=some q:=h1
   rw [T.upd_ne _ _ hy] at h1
   exact h.blk y q c o z h1 h2
 ·replace h1:(m.upd b (some (SB.row cs ty))).get y=some q:=h1
  replace h2:(m.upd b (some (SB.row cs ty))).get y'=some q':=h2
  by_cases hy:y=b
  ·subst hy
   rw [T.upd_ne _ _ (Ne.symm h3)] at h2
   left
   rintro rfl
   exact (hc c o z h5).2.2 y' q' o' z' h2 (Ne.symm h3) h6
  ·rw [T.upd_ne _ _ hy] at h1
   by_cases hy':y'=b
   ·subst hy'
    left
    rintro rfl
    exact (hc c o' z' h6).2.2 y q o z h1 hy h5
   ·rw [T.upd_ne _ _ hy'] at h2
    exact h.dis y y' q q' c o z c' o' z' h1 h2 h3 h4 h5 h6
 ·by_cases hy:y=b
  ·subst hy;exact hbn
  ·replace h1:(m.upd b (some (SB.row cs ty))).get y=some q:=h1
   rw [T.upd_ne _ _ hy] at h1
   exact h.old y q h1
 ·replace h1:(m.upd b (some (SB.row cs ty))).get y=some q:=h1
  by_cases hy:y=b
  ·subst hy
   rw [same] at h1;cases h1
   cases hz
  ·rw [T.upd_ne _ _ hy] at h1
   exact h.sib y q h1 h2 z hz
def foW (fo:Nat→Option (List SV)) (b:Nat) (cs:List SV):Nat→Option (List SV):=fun y=>bif Nat.beq y b then some cs else fo y
def faW (fa:Nat→Option (Nat × Nat × Nat)) (b:Nat) (p:Nat × Nat × Nat):Nat→Option (Nat × Nat × Nat):=fun y=>bif Nat.beq y b then some p else fa y
theorem foW_same (fo:Nat→Option (List SV)) (b:Nat) (cs:List SV):foW fo b cs b=some cs:=by simp [foW]
theorem bne_of {y b:Nat} (h:y≠b):Nat.beq y b=false:=by
 cases hq:Nat.beq y b with
 | false=>rfl
 | true=>exact absurd (Nat.eq_of_beq_eq_true hq) h
theorem foW_ne (fo:Nat→Option (List SV)) {b y:Nat} (cs:List SV) (h:y≠b):foW fo b cs y=fo y:=by simp [foW,bne_of h]
theorem faW_same (fa:Nat→Option (Nat × Nat × Nat)) (b:Nat) (p:Nat × Nat × Nat):faW fa b p b=some p:=by simp [faW]
theorem faW_ne (fa:Nat→Option (Nat × Nat × Nat)) {b y:Nat} (p:Nat × Nat × Nat) (h:y≠b):faW fa b p y=fa y:=by simp [faW,bne_of h]
def bW (w0:B0) (w:World) (b:Nat) (cs:List SV) (p:Nat × Nat × Nat) (hlt:∀ y c o z,faW w0.fa b p y=some (c,o,z)→c < w.heap.size):B0:=⟨w,foW w0.fo b cs,faW w0.fa b p,hlt,fun _=>False,fun _=>none⟩
theorem bW_fix {w0:B0} {w:World} {b:Nat} {cs:List SV} {c o z:Nat} {hlt:∀ y c' o' z',faW w0.fa b (c,o,z) y=some (c',o',z')→c' < w.heap.size} (hb:w0.fa b=none) (d:Nat):Fix (bW w0 w b cs (c,o,z) hlt) d↔Fix w0 d∨d=c:=by
 constructor
 ·rintro (h | h | ⟨y,o',z',h⟩)
  ·exact .inl (.inl h)
  ·exact .inl (.inr (.inl h))
  ·by_cases hy:y=b
   ·subst hy
    replace h:faW w0.fa y (c,o,z) y=some (d,o',z'):=h
    rw [faW_same] at h;cases h;exact .inr rfl
   ·replace h:faW w0.fa b (c,o,z) y=some (d,o',z'):=h
    rw [faW_ne _ _ hy] at h;exact .inl (.inr (.inr ⟨y,o',z',h⟩))
 ·rintro ((h | h | ⟨y,o',z',h⟩) | rfl)
  ·exact .inl h
  ·exact .inr (.inl h)
  ·refine .inr (.inr ⟨y,o',z',?_⟩)
   have hy:y≠b:=fun e=>by subst e;rw [hb] at h;cases h
   show faW w0.fa b (c,o,z) y=_
   rw [faW_ne _ _ hy];exact h
  ·exact .inr (.inr ⟨b,o,z,faW_same _ _ _⟩)
theorem HXR.to {w0:B0} {w:World} {b:Nat} {cs:List SV} {c o z:Nat} {hlt:∀ y c' o' z',faW w0.fa b (c,o,z) y=some (c',o',z')→c' < w.heap.size} (hb:w0.fa b=none) {e:Env} {x:HX} {F:FootE} (h:HXR w0 e x w F) (hF:¬ F c) (he:e b=some (c,o,z))
  (hB:BlkR e w c o z (.cells cs true [] none)):HXR (bW w0 w b cs (c,o,z) hlt) e x w (fun d=>F d∨d=c):=by
 refine ⟨⟨h.gl,fun _ _=>rfl,Nat.le_refl _,fun y l hy=>?_⟩,?_⟩
 ·by_cases hyb:y=b
  ·subst hyb
   replace hy:foW w0.fo y cs y=some l:=hy
   rw [foW_same] at hy;cases hy
   exact ⟨c,o,z,faW_same _ _ _,he,hB⟩
  ·replace hy:foW w0.fo b cs y=some l:=hy
   rw [foW_ne _ _ hyb] at hy
   obtain ⟨c',o',z',h1,h2,h3⟩:=h.1.2.2.2 y l hy
   refine ⟨c',o',z',?_,h2,h3.keep (.refl e) (h.1.2.1 c' (.inr (.inr ⟨y,o',z',h1⟩)))⟩
   show faW w0.fa b (c,o,z) y=_
   rw [faW_ne _ _ hyb];exact h1
 ·obtain ⟨-,h2⟩:=h
  split
  ·rename_i hx
   rw [hx] at h2
   exact fun d=>by show F d∨d=c↔_;rw [bW_fix hb,h2 d]
  ·rename_i p hx
   rw [hx] at h2
   obtain ⟨cc,F0,k⟩:=h2
   refine ⟨cc,F0,k.at_,k.hr,k.ok,fun d=>?_,fun d hd=>?_⟩
   ·show F d∨d=c↔_;rw [bW_fix hb,k.iff d,or_assoc]
   ·rcases (bW_fix hb d).1 hd with h | rfl
    ·exact k.nf d h
    ·exact fun h0=>hF ((k.iff d).2 (.inl h0))
theorem HXR.back {w0:B0} {w w':World} {b:Nat} {cs:List SV} {c o z:Nat} {hlt:∀ y c' o' z',faW w0.fa b (c,o,z) y=some (c',o',z')→c' < w.heap.size} (hb:w0.fa b=none) (hbo:w0.fo b=none) {e e':Env} {x x':HX} {F F':FootE} (h0:HXR w0 e x w F) (hF:¬ F c) (hl:e.le e') (hs:w.heap.size≤w'.heap.size)
  (h:HXR (bW w0 w b cs (c,o,z) hlt) e' x' w' F'):HXR w0 e' x' w' (fun d=>F' d∧d≠c)∧F' c∧w'.heap[c]?=w.heap[c]?:=by
 have hc:¬ Fix w0 c:=fun hf=>hF (h0.tab c hf)
 have hfc:Fix (bW w0 w b cs (c,o,z) hlt) c:=(bW_fix hb c).2 (.inr rfl)
 refine ⟨⟨⟨h0.1.1,fun d hd=>(h.1.2.1 d ((bW_fix hb d).2 (.inl hd))).trans (h0.1.2.1 d hd),Nat.le_trans h0.1.2.2.1 hs,h0.1.2.2.2.mono hl⟩,?_⟩,h.tab c hfc,h.1.2.1 c hfc⟩
 obtain ⟨-,h2⟩:=h
 split
 ·rename_i hx
  rw [hx] at h2
  intro d
  show F' d∧d≠c↔_
  rw [h2 d,bW_fix hb]
  constructor
  ·rintro ⟨h | h,hn⟩
   ·exact h
   ·exact absurd h hn
  ·exact fun hd=>⟨.inl hd,fun e=>hc (e ▸ hd)⟩
 ·rename_i p hx
  rw [hx] at h2
  obtain ⟨cc,F0,k⟩:=h2
  refine ⟨cc,F0,k.at_,k.hr,k.ok,fun d=>?_,fun d hd=>k.nf d ((bW_fix hb d).2 (.inl hd))⟩
  show F' d∧d≠c↔_
  rw [k.iff d,bW_fix hb]
  constructor
  ·rintro ⟨h | h | h,hn⟩
   ·exact .inl h
   ·exact .inr h
   ·exact absurd h hn
  ·rintro (h | h)
   ·exact ⟨.inl h,fun e=>k.nf c hfc (e ▸ h)⟩
   ·exact ⟨.inr (.inl h),fun e=>hc (e ▸ h)⟩
include hH in
theorem CodeL.frameG {ext:ExtT} (hx:∀ f h,ext f=some h→extP f h) {K n f:Nat} {l:List Code} {tm tm2:T SV} {m m2:T SB} {nx nx2:Nat} {x x2:HX} {ex:Ex} {live:Live} {keep:List Nat} {ps:List Prop} {b:Nat} {cs:List SV} {ty:Option Nat}
  (hp:(l.all fun c=>planOkC (plan f) c)=true) (h:outC live keep nx2 (runL ext (foW fo b cs) K n f N l tm ⟨m,nx,x⟩)=outD ex tm2 ⟨m2,nx2,x2⟩ ps (runL ext (foW fo b cs) K n f N l tm ⟨m,nx,x⟩)) (hps:AllP ps) (hid:∀ b,b < fn→(b,b)∈live)
  (hb:(b,b)∈live) (hpl:∀ v∈cs,v.plain=true) (hm:m.get b=none) (hbf:fn≤b) (hex:∀ (e:Env) (w:World) (F:FootE) (a:Go.Act),Rl (HL w0) e ⟨m.upd b (some (.row cs ty)),nx,x⟩ w F→AR e tm a.tmps→∃ y,e b=some y) :
  CodeL w0 N l tm ⟨m.upd b (some (.row cs ty)),nx,x⟩ (fun x' tm' st'=>x'=ex∧tm'=tm2∧st'=⟨m2.upd b (some (.row cs ty)),nx2,x2⟩):=by
 unfold outC outD at h
 split at h
 ·rename_i p hr
  injection h with h
  injection h with h1 h
  injection h with h2 h
  injection h with h3 h4
  have hg:p.2.2.x.good:=⟨by rw [h3];exact AllP.mem hps,map_same h4⟩
  intro a w Q hA hQ
  obtain ⟨e,F,hR,ha,ho⟩:=hA.ex
  have hlv:liveOk nx2 live=true:=by
   unfold E.gc at h2
   cases hl:liveOk nx2 live with
   | true=>rfl
   | false=>rw [hl] at h2;cases h2
  have hbT:b < TMax:=(live_lt hlv hb).2
  have hR0:=hR.sub hbT hm
  have same:(m.upd b (some (SB.row cs ty))).get b=some (.row cs ty):=T.upd_same _ _ hbT
  have ho0:Own w0 e ⟨m,nx,x⟩ w F:=⟨ho.bl,ho.id,fun c hc hi=>ho.im c hc (by
   rcases hi with hi | ⟨y,k,o,z,q1,q2⟩
   ·exact .inl hi
   ·refine .inr ⟨y,k,o,z,?_,q2⟩
    rw [T.upd_ne _ _ (fun e=>by subst e;rw [hm] at q1;cases q1)];exact q1)⟩
  obtain ⟨⟨c0,o0,z0⟩,he0⟩:=hex e w F a hR ha
  obtain ⟨hF0,hB0⟩:=hR.blk b _ c0 o0 z0 same he0
  have hB1:BlkR e w c0 o0 z0 (.cells cs true [] none):=by
   obtain ⟨arr,t,fr,r1,r2,r3,r4,r5⟩:=hB0
   exact ⟨arr,t,fr,r1,r2,⟨nofun,nofun⟩,r4,r5⟩
  have hfa:w0.fa b=none:=by
   cases hq:w0.fa b with
   | none=>rfl
   | some l=>exact absurd (hH.fa b l hq) (by omega)
  have hbo:w0.fo b=none:=by
   cases hq:w0.fo b with
   | none=>rfl
   | some l=>exact absurd (hH.fd.bd b l hq) (by omega)
  have hlt:∀ y c o z,faW w0.fa b (c0,o0,z0) y=some (c,o,z)→c < w.heap.size:=fun y c o z hy=>by
   by_cases hyb:y=b
   ·subst hyb;rw [faW_same] at hy;cases hy;exact hB0.lt
   ·rw [faW_ne _ _ hyb] at hy
    exact Nat.lt_of_lt_of_le (w0.lt y c o z hy) hR0.ext.1.2.2.1
  have hX1:HXR (bW w0 w b cs (c0,o0,z0) hlt) e x w (fun d=>F d∨d=c0):=HXR.to hfa hR0.ext hF0 he0 hB1
  have apart0:∀ y k c o z,m.get y=some k→e y=some (c,o,z)→c≠c0:=fun y k c o z r1 r2=>by
   rintro rfl
   have hy:y≠b:=fun e=>by subst e;rw [hm] at r1;cases r1
   rcases hR.dis b y _ k c o0 z0 c o z same (by show (m.upd b _).get y=_;rw [T.upd_ne _ _ hy];exact r1) (Ne.symm hy) rfl he0 r2 with r | ⟨r,-⟩
   ·exact r rfl
   ·cases r
  have hR1:Rl (HL (bW w0 w b cs (c0,o0,z0) hlt)) e ⟨m,nx,x⟩ w (fun d=>F d∨d=c0) :=
   ⟨fun y k c o z r1 r2=>⟨fun h=>h.elim (hR0.blk y k c o z r1 r2).1 (apart0 y k c o z r1 r2),(hR0.blk y k c o z r1 r2).2⟩,hR0.dis,hR0.old,hR0.dom,hR0.sib,hX1⟩
  obtain ⟨-,key⟩:=RunsL.run (w0:=bW w0 w b cs (c0,o0,z0) hlt) (N:=N) (show (foW w0.fo b cs)=foW fo b cs by rw [hH.fo]) hx hg hp hr
  refine key e w _ a Q hR1 ha hA.size fun a' w' e' F1 q1 q2 q3 q41 q51=>?_
  obtain ⟨hXb,hFc,hwc⟩:=HXR.back hfa hbo hR0.ext hF0 q51.le q51.size q41.ext
  have q4:Rl (HL w0) e' p.2.2 w' (fun d=>F1 d∧d≠c0):=⟨fun y k c o z r1 r2=>⟨fun h=>(q41.blk y k c o z r1 r2).1 h.1,(q41.blk y k c o z r1 r2).2⟩,q41.dis,q41.old,q41.dom,q41.sib,hXb⟩
  have q5:Nxt nx e ⟨m,nx,x⟩ w F e' p.2.2 w' (fun d=>F1 d∧d≠c0):=by
   refine ⟨q51.le,q51.os,q51.tape,q51.output,q51.size,fun c hc hi=>?_,fun c hc hi=>?_,q51.und,q51.nx⟩
   ·by_cases hcc:c=c0
    ·subst hcc;exact hwc
    ·refine q51.frame c hc ?_
     rintro ((h | h) | ⟨y,k,o,z,r1,r2⟩)
     ·exact hi (.inl h)
     ·exact hcc h
     ·exact hi (.inr ⟨y,k,o,z,r1,r2⟩)
   ·have hne:c≠c0:=by
     rintro rfl
     rcases hi with hi | ⟨y,k,o,z,r1,r2⟩
     ·exact hi.2 rfl
     ·exact (q41.blk y k c o z r1 r2).1 hFc
    have h1:Im e' p.2.2 F1 c:=hi.elim (fun h=>.inl h.1) .inr
    rcases q51.img c hc h1 with (h | h) | h
    ·exact .inl h
    ·exact absurd h hne
    ·exact .inr h
  revert q4 q5
  generalize (fun d=>F1 d∧d≠c0)=F'
  intro q4 q5
  obtain ⟨e2,-,hnx,hmem,hdom,himg,k1,k2,k3⟩:=gc_ex hH.fd q4 q1 (ho0.next q4 q5) hid h2
  have hQ':=hQ ex tm2 _ a' w' ⟨rfl,rfl,rfl⟩
  -- where the row lies
  have place:∀ c o z,e2 b=some (c,o,z)→e b=some (c,o,z)∧BlkR e w c o z (.row cs ty)∧w'.heap[c]?=w.heap[c]?∧¬ F' c∧∀ y k o' z',p.2.2.m.get y=some k→e' y≠some (c,o',z'):=by
   intro c o z hq
   rw [hmem b b hb] at hq
   have hbn:b < nx:=hR.old b _ same
   have hq0:e b=some (c,o,z):=by
    cases he:e b with
    | none=>rw [(q5.und b hbn he).1] at hq;cases hq
    | some y=>rw [q5.le b y he] at hq;cases hq;rfl
   obtain ⟨g1,g2⟩:=hR.blk b _ c o z same hq0
   have hlt:=g2.lt
   have hno:¬ Im e ⟨m,nx,x⟩ F c:=by
    rintro (hi | ⟨y,k,o',z',r1,r2⟩)
    ·exact g1 hi
    ·have hy:y≠b:=fun e=>by subst e;replace r1:m.get y=some k:=r1;rw [hm] at r1;cases r1
     rcases hR.dis b y _ k c o z c o' z' same (by show (m.upd b _).get y=_;rw [T.upd_ne _ _ hy];exact r1) (Ne.symm hy) rfl hq0 r2 with r | ⟨r,-⟩
     ·exact r rfl
     ·cases r
   refine ⟨hq0,g2,q5.frame c hlt hno,fun hF=>hno (q5.img c hlt (.inl hF)),fun y k o' z' r1 r2=>hno (q5.img c hlt (.inr ⟨y,k,o',z',r1,r2⟩))⟩
  rw [h1]
  refine hQ' ⟨⟨e2,F',?_,k2,k3.bl,k3.id,fun c hc hi=>?_⟩,q2,q3.trans hA.ds⟩
  ·refine k1.withRow hbT (live_lt hlv hb).1 fun c o z hq=>?_
   obtain ⟨g0,g1,g2,g3,g4⟩:=place c o z hq
   refine ⟨g3,?_,fun y k o' z' hy hne he=>?_⟩
   ·obtain ⟨arr,t,fr,r1,r2,r3,r4,r5⟩:=g1
    exact ⟨arr,t,fr,g2.trans r1,r2,r3,r4,fun j v hj=>(r5 j v hj).elim fun s1 ⟨u,s2,s3⟩=>⟨s1,u,s2,SV.plain_vr (hpl v (List.mem_of_getElem? hj)) s3⟩⟩
   ·obtain ⟨y0,k0,s1,s2⟩:=himg y k hy
    exact g4 y0 k0 o' z' s2 ((hmem y0 y s1).symm.trans he)
  ·rcases hi with hi | ⟨y,k,o,z,r1,r2⟩
   ·exact k3.im c hc (.inl hi)
   ·by_cases hy:y=b
    ·subst hy
     obtain ⟨g0,-⟩:=place c o z r2
     exact ho.im c hc (.inr ⟨y,_,o,z,same,g0⟩)
    ·replace r1:(m2.upd b (some (SB.row cs ty))).get y=some k:=r1
     rw [T.upd_ne _ _ hy] at r1
     exact k3.im c hc (.inr ⟨y,k,o,z,r1,r2⟩)
 ·cases h
include hH in
theorem CodeL.frame {ext:ExtT} (hx:∀ f h,ext f=some h→extP f h) {K n f:Nat} {l:List Code} {tm tm2:T SV} {m m2:T SB} {nx nx2:Nat} {x x2:HX} {ex:Ex} {live:Live} {keep:List Nat} {ps:List Prop} {b:Nat} {cs:List SV} {ty:Option Nat}
  (hp:(l.all fun c=>planOkC (plan f) c)=true) (h:outC live keep nx2 (runL ext (foW fo b cs) K n f N l tm ⟨m,nx,x⟩)=outD ex tm2 ⟨m2,nx2,x2⟩ ps (runL ext (foW fo b cs) K n f N l tm ⟨m,nx,x⟩)) (hps:AllP ps) (hid:∀ b,b < fn→(b,b)∈live)
  (hb:(b,b)∈live) (hpl:∀ v∈cs,v.plain=true) (hm:m.get b=none) (hbf:fn≤b) {t0 off len esz:Nat} {ck:Option Nat} (ht0:tm.get t0=some (.sl b off len esz ck)) :
  CodeL w0 N l tm ⟨m.upd b (some (.row cs ty)),nx,x⟩ (fun x' tm' st'=>x'=ex∧tm'=tm2∧st'=⟨m2.upd b (some (.row cs ty)),nx2,x2⟩) :=
 CodeL.frameG hH hx hp h hps hid hb hpl hm hbf fun e w F a _ ha=>by
  obtain ⟨u,-,hu⟩:=ha t0 _ ht0
  cases hu with
  | sl h _ _ _ _=>exact ⟨_,h⟩
  | sle _ _ _ h=>exact ⟨_,h⟩
theorem CodeL.less {w0:B0} {N:Nat} {l:List Code} {tm:T SV} {st:St HX} {P1 Post:PostE} (h:CodeL w0 N l tm st P1) (hm:∀ x tm' st' a w,P1 x tm' st'→AtS w0 N tm' st' a w→∃ x2 tm2 st2,x2=x∧Post x2 tm2 st2∧AtS w0 N tm2 st2 a w):CodeL w0 N l tm st Post :=
 fun a w Q hA hQ=>h a w Q hA fun x tm' st' a' w' hp hA'=>by
  obtain ⟨x2,tm2,st2,rfl,h1,h2⟩:=hm x tm' st' a' w' hp hA'
  exact hQ _ _ _ _ _ h1 h2
theorem QT.frame {w0:B0} {fo:Nat→Option (List SV)} {fn:Nat} (hH:Hd w0 fo fn) {f N:Nat} {live:Live} {keep:List Nat} {nx:Nat} {l:List Code} {s s2:SS} {x:Ex} {tl:TL} {b:Nat} {cs:List SV} (ty:Option Nat)
  (h:QT (foW fo b cs) f N live keep nx l s s2 x tl) (hp:(l.all fun c=>planOkC (plan f) c)=true) (ht:tl.ok) (hid:∀ b,b < fn→(b,b)∈live)
  (hb:(b,b)∈live) (hpl:∀ v∈cs,v.plain=true) (hm:s.2.m.get b=none) (hbf:fn≤b) {t0 off len esz:Nat} {ck:Option Nat} (ht0:s.1.get t0=some (.sl b off len esz ck)) :
  CodeL w0 N l s.1 ⟨s.2.m.upd b (some (.row cs ty)),s.2.nx,s.2.x⟩ (fun x' tm' st'=>x'=x∧tm'=s2.1∧st'=⟨s2.2.m.upd b (some (.row cs ty)),s2.2.nx,s2.2.x⟩):=by
 obtain ⟨tm,m,nx0,hx⟩:=s
 obtain ⟨tm2,m2,nx2,hx2⟩:=s2
 have hnx:nx=nx2:=by
  have h2:=h
  unfold QT outC outD at h2
  split at h2
  ·injection h2 with h2
   injection h2 with h3 h2
   injection h2 with h4 h5
   unfold E.gc at h4
   cases hl:liveOk nx live with
   | false=>rw [hl] at h4;cases h4
   | true =>
    rw [hl,cond_true] at h4
    split at h4
    ·split at h4
     ·split at h4
      ·cases h4;rfl
      ·cases h4
     ·cases h4
    ·cases h4
  ·cases h2
 subst hnx
 exact CodeL.sc (x':=⟨hx.h,0,tl.sc,[],[]⟩) rfl (CodeL.frame hH extS_ok hp h (TL.ps_all tl [] ht trivial) hid hb hpl hm hbf ht0)
end
end
section
set_option maxRecDepth 100000
open Go.RowKit
section
variable {w0:B0} {fo:Nat→Option (List SV)} {fn:Nat} (hH:Hd w0 fo fn) {N:Nat}
include hH in
theorem CodeL.frameE {ext:ExtT} (hx:∀ f h,ext f=some h→extP f h) {K n f:Nat} {l:List Code} {tm:T SV} {m:T SB} {nx:Nat} {x:HX} {rs:Array ResultVar} {ps:List Prop} {b:Nat} {cs:List SV} {ty:Option Nat}
  (hp:(l.all fun c=>planOkC (plan f) c)=true) (h:endC rs (runL ext (foW fo b cs) K n f N l tm ⟨m,nx,x⟩)=endD ps (runL ext (foW fo b cs) K n f N l tm ⟨m,nx,x⟩)) (hps:AllP ps)
  (hbT:b < TMax) (hm:m.get b=none) (hbf:fn≤b) {t0 off len esz:Nat} {ck:Option Nat} (ht0:tm.get t0=some (.sl b off len esz ck)) :
  CodeL w0 N l tm ⟨m.upd b (some (.row cs ty)),nx,x⟩ (fun x' tm' st'=>(x'=.normal∨x'=.ret)∧resS Tryz.prog st'.m tm' rs=some (.bool true)):=by
 unfold endC endD at h
 split at h
 ·rename_i p hr
  injection h with h
  injection h with h1 h
  injection h with h2 h
  injection h with h3 h4
  have hg:p.2.2.x.good:=⟨by rw [h3];exact AllP.mem hps,map_same h4⟩
  intro a w Q hA hQ
  obtain ⟨e,F,hR,ha,ho⟩:=hA.ex
  have hR0:=hR.sub hbT hm
  have same:(m.upd b (some (SB.row cs ty))).get b=some (.row cs ty):=T.upd_same _ _ hbT
  have ho0:Own w0 e ⟨m,nx,x⟩ w F:=⟨ho.bl,ho.id,fun c hc hi=>ho.im c hc (by
   rcases hi with hi | ⟨y,k,o,z,q1,q2⟩
   ·exact .inl hi
   ·refine .inr ⟨y,k,o,z,?_,q2⟩
    rw [T.upd_ne _ _ (fun e=>by subst e;rw [hm] at q1;cases q1)];exact q1)⟩
  obtain ⟨c0,o0,z0,he0⟩:∃ c o z,e b=some (c,o,z):=by
   obtain ⟨u,-,hu⟩:=ha t0 _ ht0
   cases hu with
   | sl h _ _ _ _=>exact ⟨_,_,_,h⟩
   | sle _ _ _ h=>exact ⟨_,_,_,h⟩
  obtain ⟨hF0,hB0⟩:=hR.blk b _ c0 o0 z0 same he0
  have hB1:BlkR e w c0 o0 z0 (.cells cs true [] none):=by
   obtain ⟨arr,t,fr,r1,r2,r3,r4,r5⟩:=hB0
   exact ⟨arr,t,fr,r1,r2,⟨nofun,nofun⟩,r4,r5⟩
  have hfa:w0.fa b=none:=by
   cases hq:w0.fa b with
   | none=>rfl
   | some l=>exact absurd (hH.fa b l hq) (by omega)
  have hbo:w0.fo b=none:=by
   cases hq:w0.fo b with
   | none=>rfl
   | some l=>exact absurd (hH.fd.bd b l hq) (by omega)
  have hlt:∀ y c o z,faW w0.fa b (c0,o0,z0) y=some (c,o,z)→c < w.heap.size:=fun y c o z hy=>by
   by_cases hyb:y=b
   ·subst hyb;rw [faW_same] at hy;cases hy;exact hB0.lt
   ·rw [faW_ne _ _ hyb] at hy
    exact Nat.lt_of_lt_of_le (w0.lt y c o z hy) hR0.ext.1.2.2.1
  have hX1:HXR (bW w0 w b cs (c0,o0,z0) hlt) e x w (fun d=>F d∨d=c0):=HXR.to hfa hR0.ext hF0 he0 hB1
  have apart0:∀ y k c o z,m.get y=some k→e y=some (c,o,z)→c≠c0:=fun y k c o z r1 r2=>by
   rintro rfl
   have hy:y≠b:=fun e=>by subst e;rw [hm] at r1;cases r1
   rcases hR.dis b y _ k c o0 z0 c o z same (by show (m.upd b _).get y=_;rw [T.upd_ne _ _ hy];exact r1) (Ne.symm hy) rfl he0 r2 with r | ⟨r,-⟩
   ·exact r rfl
   ·cases r
  have hR1:Rl (HL (bW w0 w b cs (c0,o0,z0) hlt)) e ⟨m,nx,x⟩ w (fun d=>F d∨d=c0) :=
   ⟨fun y k c o z r1 r2=>⟨fun h=>h.elim (hR0.blk y k c o z r1 r2).1 (apart0 y k c o z r1 r2),(hR0.blk y k c o z r1 r2).2⟩,hR0.dis,hR0.old,hR0.dom,hR0.sib,hX1⟩
  obtain ⟨-,key⟩:=RunsL.run (w0:=bW w0 w b cs (c0,o0,z0) hlt) (N:=N) (show (foW w0.fo b cs)=foW fo b cs by rw [hH.fo]) hx hg hp hr
  refine key e w _ a Q hR1 ha hA.size fun a' w' e' F1 q1 q2 q3 q41 q51=>?_
  obtain ⟨hXb,hFc,hwc⟩:=HXR.back hfa hbo hR0.ext hF0 q51.le q51.size q41.ext
  have q4:Rl (HL w0) e' p.2.2 w' (fun d=>F1 d∧d≠c0):=⟨fun y k c o z r1 r2=>⟨fun h=>(q41.blk y k c o z r1 r2).1 h.1,(q41.blk y k c o z r1 r2).2⟩,q41.dis,q41.old,q41.dom,q41.sib,hXb⟩
  have q5:Nxt nx e ⟨m,nx,x⟩ w F e' p.2.2 w' (fun d=>F1 d∧d≠c0):=by
   refine ⟨q51.le,q51.os,q51.tape,q51.output,q51.size,fun c hc hi=>?_,fun c hc hi=>?_,q51.und,q51.nx⟩
   ·by_cases hcc:c=c0
    ·subst hcc;exact hwc
    ·refine q51.frame c hc ?_
     rintro ((h | h) | ⟨y,k,o,z,r1,r2⟩)
     ·exact hi (.inl h)
     ·exact hcc h
     ·exact hi (.inr ⟨y,k,o,z,r1,r2⟩)
   ·have hne:c≠c0:=by
     rintro rfl
     rcases hi with hi | ⟨y,k,o,z,r1,r2⟩
     ·exact hi.2 rfl
     ·exact (q41.blk y k c o z r1 r2).1 hFc
    have h1:Im e' p.2.2 F1 c:=hi.elim (fun h=>.inl h.1) .inr
    rcases q51.img c hc h1 with (h | h) | h
    ·exact .inl h
    ·exact absurd h hne
    ·exact .inr h
  exact hQ p.1 p.2.1 p.2.2 a' w' ⟨.inr h1,h2⟩ ⟨⟨e',_,q4,q1,ho0.next q4 q5⟩,q2,q3.trans hA.ds⟩
 ·cases h
end
theorem QE.frame {w0:B0} {fo:Nat→Option (List SV)} {fn:Nat} (hH:Hd w0 fo fn) {f N:Nat} {rs:Array ResultVar} {l:List Code} {s:SS} {tl:TL} {b:Nat} {cs:List SV} (ty:Option Nat)
  (h:QE (foW fo b cs) f N rs l s tl) (hp:(l.all fun c=>planOkC (plan f) c)=true) (ht:tl.ok) (hbT:b < TMax) (hm:s.2.m.get b=none) (hbf:fn≤b) {t0 off len esz:Nat} {ck:Option Nat} (ht0:s.1.get t0=some (.sl b off len esz ck)) :
  CodeL w0 N l s.1 ⟨s.2.m.upd b (some (.row cs ty)),s.2.nx,s.2.x⟩ (fun x tm' st'=>(x=.normal∨x=.ret)∧resS Tryz.prog st'.m tm' rs=some (.bool true)):=by
 obtain ⟨tm,m,nx0,hx⟩:=s
 exact CodeL.sc (x':=⟨hx.h,0,tl.sc,[],[]⟩) rfl (CodeL.frameE hH extS_ok hp h (TL.ps_all tl [] ht trivial) hbT hm hbf ht0)
theorem AtS.sub {w0:B0} {N:Nat} {tm:T SV} {m:T SB} {nx:Nat} {x:HX} {a:Go.Act} {w:World} {b:Nat} {cs:List SV} {ty:Option Nat} (hb:b < TMax) (hm:m.get b=none) (h:AtS w0 N tm ⟨m.upd b (some (.row cs ty)),nx,x⟩ a w):AtS w0 N tm ⟨m,nx,x⟩ a w:=by
 obtain ⟨e,F,hR,ha,ho⟩:=h.ex
 refine ⟨⟨e,F,hR.sub hb hm,ha,ho.bl,ho.id,fun c hc hi=>ho.im c hc ?_⟩,h.size,h.ds⟩
 rcases hi with hi | ⟨y,q,o,z,r1,r2⟩
 ·exact .inl hi
 ·refine .inr ⟨y,q,o,z,?_,r2⟩
  show (m.upd b _).get y=_
  rw [T.upd_ne _ _ (fun e=>by subst e;replace r1:m.get y=some q:=r1;rw [hm] at r1;cases r1)];exact r1
theorem CodeL.sub {w0:B0} {N:Nat} {l:List Code} {tm:T SV} {m:T SB} {nx:Nat} {x:HX} {b:Nat} {cs:List SV} {ty:Option Nat} {Post:PostE} (hb:b < TMax) (hm:m.get b=none) (h:CodeL w0 N l tm ⟨m,nx,x⟩ Post):CodeL w0 N l tm ⟨m.upd b (some (.row cs ty)),nx,x⟩ Post :=
 fun a w Q hA hQ=>h a w Q (hA.sub hb hm) hQ
end
section
set_option maxRecDepth 100000
open Go.RowKit
noncomputable abbrev goX (ext:ExtT) (fo:Nat→Option (List SV)) (f N:Nat) (l:List Code) (s:SS):ExR HX:=runL ext fo 100000 100 f N l s.1 s.2
abbrev QTX (ext:ExtT) (fo:Nat→Option (List SV)) (f N:Nat) (live:Live) (keep:List Nat) (nx:Nat) (l:List Code) (s s2:SS) (x:Ex) (tl:TL):Prop :=
 outC live keep nx (goX ext fo f N l (s.tell tl.sc))=outD x s2.1 s2.2 (tl.ps []) (goX ext fo f N l (s.tell tl.sc))
theorem QTX.code {w0:B0} {fo:Nat→Option (List SV)} {fn:Nat} (hH:Hd w0 fo fn) {ext:ExtT} (hx:∀ f h,ext f=some h→extP f h) {f N:Nat} {live:Live} {keep:List Nat} {nx:Nat} {l:List Code} {s s2:SS} {x:Ex} {tl:TL}
  (h:QTX ext fo f N live keep nx l s s2 x tl) (hp:(l.all fun c=>planOkC (plan f) c)=true) (ht:tl.ok) (hid:∀ b,b < fn→(b,b)∈live) :
  CodeL w0 N l s.1 s.2 (fun x' tm' st'=>x'=x∧tm'=s2.1∧st'=s2.2):=by
 obtain ⟨tm,m,nx0,hx0⟩:=s
 exact CodeL.sc (x':=⟨hx0.h,0,tl.sc,[],[]⟩) rfl (CodeL.runG hH hx hp h (TL.ps_all tl [] ht trivial) hid)
abbrev QEX (ext:ExtT) (fo:Nat→Option (List SV)) (f N:Nat) (rs:Array ResultVar) (l:List Code) (s:SS) (tl:TL):Prop:=endC rs (goX ext fo f N l (s.tell tl.sc))=endD (tl.ps []) (goX ext fo f N l (s.tell tl.sc))
theorem QEX.code {w0:B0} {fo:Nat→Option (List SV)} {fn:Nat} (hH:Hd w0 fo fn) {ext:ExtT} (hx:∀ f h,ext f=some h→extP f h) {f N:Nat} {rs:Array ResultVar} {l:List Code} {s:SS} {tl:TL}
  (h:QEX ext fo f N rs l s tl) (hp:(l.all fun c=>planOkC (plan f) c)=true) (ht:tl.ok) :
  CodeL w0 N l s.1 s.2 (fun x tm' st'=>(x=.normal∨x=.ret)∧resS Tryz.prog st'.m tm' rs=some (.bool true)):=by
 obtain ⟨tm,m,nx0,hx0⟩:=s
 exact CodeL.sc (x':=⟨hx0.h,0,tl.sc,[],[]⟩) rfl (CodeL.runE hH hx hp h (TL.ps_all tl [] ht trivial))
abbrev QAX (ext:ExtT) (fo:Nat→Option (List SV)) (f N:Nat) (live:Live) (keep:List Nat) (nx:Nat) (l:List Code) (is:List Nat) (s s2:Nat→SS) (x:Ex) (tl:Nat→TL):Prop :=
 (is.map fun i=>outC live keep nx (goX ext fo f N l ((s i).tell (tl i).sc)))=is.map fun i=>outD x (s2 i).1 (s2 i).2 ((tl i).ps []) (goX ext fo f N l ((s i).tell (tl i).sc))
theorem QAX.at {ext:ExtT} {fo:Nat→Option (List SV)} {f N:Nat} {live:Live} {keep:List Nat} {nx:Nat} {l:List Code} {is:List Nat} {s s2:Nat→SS} {x:Ex} {tl:Nat→TL} (h:QAX ext fo f N live keep nx l is s s2 x tl) {i:Nat} (hi:i∈is):QTX ext fo f N live keep nx l (s i) (s2 i) x (tl i):=List.map_inj_left.1 h i hi
end
end Go.Proofs.YtlbcbikplfocfaaGreatDoor.W.E
