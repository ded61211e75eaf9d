/- EsR WnC EsS -/
import Derived.Test.YtmelcflkbfhohaaGreatDoorPart11
set_option linter.unusedVariables false
set_option linter.unusedSimpArgs false
namespace Go.Proofs.YtmelcflkbfhohaaGreatDoor.W.E
section
set_option maxRecDepth 100000
open Go.RowKit
def noN (x:Option Nat):Bool:=match x with | none=>true | some _=>false
def mkL (nx:Nat):Live→Option (T Nat × T Nat)
 | []=>some (.e,.e)
 | p :: t=>match mkL nx t with
  | some q=>cond (Nat.blt p.2 nx && Nat.blt p.2 TMax && Nat.blt p.1 TMax && noN (q.1.get p.1) && noN (q.2.get p.2)) (some (q.1.upd p.1 (some p.2),q.2.upd p.2 (some p.1))) none
  | none=>none
theorem toNew_none:∀ {l:Live} {b:Nat},toNew l b=none→∀ q∈l,q.1≠b
 | p :: t,b,h,q,hq=>by
  unfold toNew at h
  cases hb:Nat.beq p.1 b with
  | true=>rw [hb] at h;cases h
  | false =>
   rw [hb,cond_false] at h
   rcases List.mem_cons.1 hq with rfl | hq
   ·exact fun hh=>by rw [hh,Nat.beq_refl] at hb;cases hb
   ·exact toNew_none h q hq
theorem toOld_none:∀ {l:Live} {b:Nat},toOld l b=none→∀ q∈l,q.2≠b
 | p :: t,b,h,q,hq=>by
  unfold toOld at h
  cases hb:Nat.beq p.2 b with
  | true=>rw [hb] at h;cases h
  | false =>
   rw [hb,cond_false] at h
   rcases List.mem_cons.1 hq with rfl | hq
   ·exact fun hh=>by rw [hh,Nat.beq_refl] at hb;cases hb
   ·exact toOld_none h q hq
theorem noN_ok {x:Option Nat} (h:noN x=true):x=none:=by cases x with | none=>rfl | some _=>cases h
theorem mkL_ok {nx:Nat}:∀ {l:Live} {q:T Nat × T Nat},mkL nx l=some q→liveOk nx l=true∧(∀ x,q.1.get x=toNew l x)∧∀ x,q.2.get x=toOld l x
 | [],q,h=>by cases h;exact ⟨rfl,fun x=>by simp [toNew],fun x=>by simp [toOld]⟩
 | p :: t,q,h=>by
  unfold mkL at h
  split at h
  ·rename_i r hr
   obtain ⟨h1,h2,h3⟩:=mkL_ok hr
   cases hb:(Nat.blt p.2 nx && Nat.blt p.2 TMax && Nat.blt p.1 TMax && noN (r.1.get p.1) && noN (r.2.get p.2)) with
   | false=>rw [hb] at h;cases h
   | true =>
    rw [hb,cond_true] at h
    cases h
    simp only [Bool.and_eq_true] at hb
    obtain ⟨⟨⟨⟨k1,k2⟩,k3⟩,k4⟩,k5⟩:=hb
    have n1:=toNew_none (by rw [← h2];exact noN_ok k4)
    have n2:=toOld_none (by rw [← h3];exact noN_ok k5)
    refine ⟨?_,fun x=>?_,fun x=>?_⟩
    ·simp only [liveOk,Bool.and_eq_true,List.all_eq_true,Bool.not_eq_true']
     refine ⟨⟨⟨k1,k2⟩,fun q hq=>⟨?_,?_⟩⟩,h1⟩
     ·cases hh:Nat.beq q.1 p.1 with
      | false=>rfl
      | true=>exact absurd (Nat.eq_of_beq_eq_true hh) (n1 q hq)
     ·cases hh:Nat.beq q.2 p.2 with
      | false=>rfl
      | true=>exact absurd (Nat.eq_of_beq_eq_true hh) (n2 q hq)
    ·show (r.1.upd p.1 (some p.2)).get x=_
     rw [T.get_upd _ _ (by simpa [Nat.blt_eq] using k3)]
     unfold toNew
     by_cases hx:x=p.1
     ·subst hx;rw [if_pos rfl,Nat.beq_refl];rfl
     ·rw [if_neg hx,h2]
      cases hh:Nat.beq p.1 x with
      | false=>rfl
      | true=>exact absurd (Nat.eq_of_beq_eq_true hh).symm hx
    ·show (r.2.upd p.2 (some p.1)).get x=_
     rw [T.get_upd _ _ (by simpa [Nat.blt_eq] using k2)]
     unfold toOld
     by_cases hx:x=p.2
     ·subst hx;rw [if_pos rfl,Nat.beq_refl];rfl
     ·rw [if_neg hx,h3]
      cases hh:Nat.beq p.2 x with
      | false=>rfl
      | true=>exact absurd (Nat.eq_of_beq_eq_true hh).symm hx
  ·cases h
def gcF (live:Live) (keep:List Nat) (nx:Nat) (tm:T SV) (st:St HX):Option (T SV × St HX):=match mkL nx live with
 | some q=>(match gcM q.1.get st.m live with
   | some m=>(match gcT q.1.get tm keep with
    | some t=>(match gcX q.1.get st.x with
     | some x=>some (t,⟨m,nx,x⟩)
     | none=>none)
    | none=>none)
   | none=>none)
 | none=>none
theorem gcF_ok {live:Live} {keep:List Nat} {nx:Nat} {tm:T SV} {st:St HX} {r:T SV × St HX} (h:gcF live keep nx tm st=some r):gc live keep nx tm st=some r:=by
 unfold gcF at h
 split at h
 ·rename_i q hq
  obtain ⟨h1,h2,-⟩:=mkL_ok hq
  unfold E.gc
  rw [h1,cond_true,show toNew live=q.1.get from funext fun x=>(h2 x).symm]
  exact h
 ·cases h
def outF (live:Live) (keep:List Nat) (nx:Nat) (r:ExR HX):Option (Ex × Option (T SV × St HX) × List Prop × List SV):=match r with
 | some p=>some (p.1,gcF live keep nx p.2.1 p.2.2,p.2.2.x.pc,p.2.2.x.rc.map Prod.fst)
 | none=>none
theorem outF_ok {live:Live} {keep:List Nat} {nx:Nat} {r:ExR HX} {x:Ex} {tm:T SV} {st:St HX} {ps:List Prop} (h:outF live keep nx r=outD x tm st ps r):outC live keep nx r=outD x tm st ps r:=by
 unfold outF at h
 unfold outC outD at *
 split at h
 ·injection h with h
  injection h with h1 h
  injection h with h2 h
  injection h with h3 h4
  simp only [h1,gcF_ok h2,h3,h4]
 ·cases h
abbrev QTF (ext:ExtT) (fo:Nat→Option (List SV)) (f N:Nat) (live:Live) (keep:List Nat) (nx:Nat) (l:List Code) (s s2:SS) (x:Ex) (tl:TL):Prop :=
 outF live keep nx (goX ext fo f N l (s.tell tl.sc))=outD x s2.1 s2.2 (tl.ps []) (goX ext fo f N l (s.tell tl.sc))
theorem QTF.to {ext:ExtT} {fo:Nat→Option (List SV)} {f N:Nat} {live:Live} {keep:List Nat} {nx:Nat} {l:List Code} {s s2:SS} {x:Ex} {tl:TL} (h:QTF ext fo f N live keep nx l s s2 x tl):QTX ext fo f N live keep nx l s s2 x tl:=outF_ok h
theorem rounds_rep {c:Code} {Q:Go.Exit→Go.Act→World→Prop} (k:Nat):∀ (n:Nat) (a:Go.Act) (w:World),wpL (List.replicate n c) (Exit.then (Code.rounds Tryz.prog c Q k) Q) a w→Code.rounds Tryz.prog c Q (k + n) a w
 | 0,a,w,h=>h
 | n + 1,a,w,h=>wp_mono h (then_of (fun a w h=>rounds_rep k n a w h) (fun e a w he h=>by cases e<;>first | exact absurd rfl he | exact h))
section
variable {w0:B0} {N:Nat} {c:Code}
def LoopsQ (w0:B0) (N:Nat) (c:Code) (tm:T SV) (st:St HX) (Post:PostE):Prop:=∃ k,∀ (a:Go.Act) (w:World) (Q:Go.Exit→Go.Act→World→Prop),AtS w0 N tm st a w→(∀ x tm' st' a' w',Post x tm' st'→AtS w0 N tm' st' a' w'→Q x.to a' w')→Code.rounds Tryz.prog c Q k a w
theorem LoopsQ.step {tm tm2:T SV} {st st2:St HX} {Post:PostE} (n:Nat) (h:CodeL w0 N (List.replicate n c) tm st fun x tm' st'=>x=.normal∧tm'=tm2∧st'=st2) (h2:LoopsQ w0 N c tm2 st2 Post):LoopsQ w0 N c tm st Post:=by
 obtain ⟨k,hk⟩:=h2
 refine ⟨k + n,fun a w Q hA hQ=>rounds_rep k n a w (h a w _ hA ?_)⟩
 rintro x tm' st' a' w' ⟨rfl,rfl,rfl⟩ hA'
 exact hk a' w' Q hA' hQ
theorem LoopsQ.done {tm:T SV} {st:St HX} {Post:PostE} (n:Nat) (h:CodeL w0 N (List.replicate n c) tm st fun x tm' st'=>x≠.normal∧Post x tm' st'):LoopsQ w0 N c tm st Post:=by
 refine ⟨0 + n,fun a w Q hA hQ=>rounds_rep 0 n a w (h a w _ hA ?_)⟩
 rintro x tm' st' a' w' ⟨hne,hp⟩ hA'
 have:=hQ _ _ _ _ _ hp hA'
 cases x with
 | normal=>exact absurd rfl hne
 | exit j=>exact this
 | ret=>exact this
theorem LoopsQ.code {tm:T SV} {st:St HX} {Post:PostE} (h:LoopsQ w0 N c tm st Post):CodeQ w0 N (.loop c) tm st Post:=fun a w Q hA hQ=>by
 obtain ⟨k,hk⟩:=h
 exact wp_loop_rounds k (hk a w Q hA hQ)
end
end
section
set_option maxRecDepth 100000
open Go.RowKit
def idZ:Nat→Nat→Live
 | 0,_=>[]
 | k + 1,i=>(i,i) :: idZ k (Nat.add i 1)
theorem idZ_mem:∀ (k i b:Nat),i≤b→b < i + k→(b,b)∈idZ k i
 | 0,i,b,h1,h2=>absurd h2 (by omega)
 | k + 1,i,b,h1,h2=>by
  by_cases h:b=i
  ·subst h;exact List.mem_cons_self ..
  ·exact List.mem_cons_of_mem _ (idZ_mem k (i + 1) b (by omega) (by omega))
def offZ (N:Nat):List (Nat × Nat)→Live
 | []=>[]
 | p :: t=>(Nat.add N p.1,Nat.add N p.2) :: offZ N t
def livZ (j:Nat):Live:=idZ 11 0++((Nat.add (nZ j) 113,11) :: (Nat.add (nZ j) 46,16) :: (offZ (nZ j) [(35,0),(95,1),(121,2),(33,12),(34,13),(60,3),(75,4),(79,5),(77,6),(76,7),(82,8),(83,9),(84,10),(78,11)]++idZ 4 12++idZ (Nat.sub (nZ j) 17) 17))
def livP:Live:=idZ 10 0++[(13,10),(10,11),(15,12),(11,13),(12,14),(14,15),(23,16),(16,17),(17,18)]
def liv6:Live:=idZ 11 0++[(172,11),(89,12),(110,13),(112,14),(11,15),(12,16),(84,17),(85,18),(13,19),(14,20),(15,21),(154,22),(180,23),(119,24),(134,25),(138,26),(136,27),(135,28),(141,29),(142,30),(143,31),(137,32)]
def livE (N k:Nat):Live:=idZ 11 0++((Nat.add N k,11) :: idZ (Nat.sub N 12) 12)
def livF:Live:=idZ 10 0++[(11,10),(12,11),(13,12),(14,13),(17,14),(18,15)]
noncomputable def bodyR:Code:=match (match Tryz.prog.funcs[fRun]? with | some g=>g.body | none=>none) with | some c=>c | none=>.skip
noncomputable def listR:List Code:=flatC bodyR
noncomputable def preR:List Code:=listR.take 10
noncomputable def loopR:Code:=unLoop (atC listR 10)
noncomputable def endR:List Code:=listR.drop 11
def tlZ (b b':Int):TL:=[(466,.val (.bool false),some (SV.bool (not (ltI 0 b)))=some (.bool false)),(471,.val (.int .i64 b'),some (SV.int .i64 (wrapF .i64 (Int.sub b 1)))=some (.int .i64 b'))]
abbrev levQ (b b':Int) (j:Nat):Prop:=QTF extE fo0 fRun 57 (livZ j) [6,10] (nZ (Nat.add j 1)) (List.replicate 5 loopR) (sZ j b) (sZ (Nat.add j 1) b') .normal (tlZ b b')
abbrev endQ (j:Nat):Prop:=QTF extE fo0 fRun 57 (livE (nZ j) 12) [6,10] (nZ j) (List.replicate 2 loopR) (sZ j (Int.ofNat 0)) (eZ j) (.exit 0) []
abbrev finQ (j:Nat):Prop:=QTF extE fo0 fRun 57 livF [6] 16 endR (eZ j) (fS (fE j)) .ret []
abbrev fiRQ (b:Int):Prop:=QTF extE fo0 fRun 57 livF [6] 16 endR (eR b) (fS fR) .ret []
end
section
set_option maxRecDepth 100000
open Go.RowKit
noncomputable abbrev goD (ext:ExtT) (fo:Nat→Option (List SV)) (f N:Nat) (l:List Code) (s:SS):ExR HX:=runL ext fo 100000 1000 f N l s.1 s.2
abbrev QTG (ext:ExtT) (fo:Nat→Option (List SV)) (f N:Nat) (live:Live) (keep:List Nat) (nx:Nat) (l:List Code) (s s2:SS) (x:Ex) (tl:TL):Prop :=
 outF live keep nx (goD ext fo f N l (s.tell tl.sc))=outD x s2.1 s2.2 (tl.ps []) (goD ext fo f N l (s.tell tl.sc))
theorem QTG.code {w0:B0} {fo:Nat→Option (List SV)} {fn:Nat} (hH:Hd w0 fo fn) {ext:ExtT} (hx:∀ f h,ext f=some h→extP f h) {f N:Nat} {live:Live} {keep:List Nat} {nx:Nat} {l:List Code} {s s2:SS} {x:Ex} {tl:TL}
  (h:QTG ext fo f N live keep nx l s s2 x tl) (hp:(l.all fun c=>planOkC (plan f) c)=true) (ht:tl.ok) (hid:∀ b,b < fn→(b,b)∈live) :
  CodeL w0 N l s.1 s.2 (fun x' tm' st'=>x'=x∧tm'=s2.1∧st'=s2.2):=by
 obtain ⟨tm,m,nx0,hx0⟩:=s
 exact CodeL.sc (x':=⟨hx0.h,0,tl.sc,[],[]⟩) rfl (CodeL.runG hH hx hp (outF_ok h) (TL.ps_all tl [] ht trivial) hid)
def zF (N:Nat) (live:Live) (r:Option (SV × St HX)):Option (Option (SV × T SB) × List Prop × List SV):=match r with
 | some p=>some ((match mkL N live with
  | some q=>(match gcM q.1.get p.2.m live with
   | some M=>(match SV.ren q.1.get renF p.1 with
    | some v=>some (v,M)
    | none=>none)
   | none=>none)
  | none=>none),p.2.x.pc,p.2.x.rc.map Prod.fst)
 | none=>none
def zG (v:SV) (M:T SB) (ps:List Prop) (r:Option (SV × St HX)):Option (Option (SV × T SB) × List Prop × List SV):=match r with
 | some p=>some (some (v,M),ps,p.2.x.rc.map Prod.snd)
 | none=>some (none,[],[])
noncomputable def zgo (ext:ExtT) (f:Nat) (vs0:List SV) (bs0:List (Option SB)) (sc:List (Nat × Sc)):Option (SV × St HX):=recY (C Tryz.prog ext ⟨default,fo0,fun _=>none,nofun,fun _=>False,fun _=>none⟩) plan 100000 1000 false f vs0 ⟨addZ .e 0 bs0,bs0.length,⟨none,0,sc,[],[]⟩⟩
abbrev CallR (ext:ExtT) (f:Nat) (vs0:List SV) (bs0 es:List (Option SB)) (v0:SV) (live:Live) (tl:TL):Prop:=zF es.length live (zgo ext f vs0 bs0 tl.sc)=zG v0 (addZ .e 0 es) (tl.ps []) (zgo ext f vs0 bs0 tl.sc)
theorem CallR.call {ext:ExtT} (hx:∀ f h,ext f=some h→extP f h) {f:Nat} {bs0 es:List (Option SB)} {vs0:List SV} {v0:SV} {live:Live} {tl:TL} (h:CallR ext f vs0 bs0 es v0 live tl) (ht:tl.ok) (hid:∀ b,b < bs0.length→(b,b)∈live) :
  CallZ f vs0 bs0 es v0:=fun w0 hHd e F us hR hvs hOwn=>by
 unfold CallR zF zG zgo at h
 rw [hHd.call] at h
 split at h
 ·rename_i p hp
  simp only [Option.some.injEq,Prod.mk.injEq] at h
  obtain ⟨h1,h2,h3⟩:=h
  split at h1
  ·rename_i q hq
   obtain ⟨hlo,hq2,-⟩:=mkL_ok hq
   have hq3:toNew live=q.1.get:=funext fun x=>(hq2 x).symm
   split at h1
   ·rename_i M hM
    split at h1
    ·rename_i v hv
     cases h1
     have hgood:p.2.x.good:=⟨by rw [h2];exact AllP.mem (TL.ps_all tl [] ht trivial),map_same h3⟩
     have hR0:Rl (HL w0) e ⟨addZ .e 0 bs0,bs0.length,⟨none,0,tl.sc,[],[]⟩⟩ w0.w F:=hR.setx (x:=⟨none,0,tl.sc,[],[]⟩) hR.ext
     obtain ⟨-,g2⟩:=((recY_ok (C_ok hx w0) 100000 1000).1 f vs0 _ p.1 p.2 hp).2 hgood
     refine (g2 e w0.w F us hR0 hvs).mono fun en w' ⟨u,e',F',h1,h2,h3,h4⟩=>?_
     have hgc:gc live [] es.length .e p.2=some (.e,⟨addZ .e 0 es,es.length,xz⟩):=by
      unfold E.gc
      rw [hlo,cond_true]
      obtain ⟨v1,m1,n1,⟨h0,cnt,sc,pc,rc⟩⟩:=p
      have hh0:h0=none:=by cases h0 with | none=>rfl | some p=>exact p.2.elim
      subst hh0
      replace hM:gcM q.1.get m1 live=some (addZ .e 0 es):=hM
      simp only [hq3,hM,gcT,gcX]
     have hO2:Own w0 e ⟨addZ .e 0 bs0,bs0.length,⟨none,0,tl.sc,[],[]⟩⟩ w0.w F:=⟨hOwn.bl,hOwn.id,hOwn.im⟩
     obtain ⟨e2,-,-,hmem,-,-,hR2,-,ho2⟩:=gc_ex hHd.fd (tm:=.e) (ts:=#[]) h3 (fun t v ht=>by simp at ht) (hO2.next h3 h4) hid hgc
     exact ⟨u,e2,F',h1,SV.ren_ok (fun b c hbc=>hmem b c (toNew_mem (by rw [hq3];exact hbc))) renF hv h2,hR2,ho2⟩
    ·cases h1
   ·cases h1
  ·cases h1
 ·cases h
end
end Go.Proofs.YtmelcflkbfhohaaGreatDoor.W.E
