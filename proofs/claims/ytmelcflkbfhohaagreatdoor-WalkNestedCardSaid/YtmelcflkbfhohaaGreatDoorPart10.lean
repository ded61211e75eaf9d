/- EsQ EsQ2 EsP -/
import Derived.Test.YtmelcflkbfhohaaGreatDoorPart9
set_option linter.unusedVariables false
set_option linter.unusedSimpArgs false
namespace Go.Proofs.YtmelcflkbfhohaaGreatDoor.W.E
section
set_option maxRecDepth 100000
open Go.RowKit
def renL (q:SV→Option SV):List SV→Option (List SV)
 | []=>some []
 | v :: t=>match q v with
  | some x=>(match renL q t with
   | some l=>some (x :: l)
   | none=>none)
  | none=>none
def ren1 (ρ:Nat→Option Nat) (q:SV→Option SV) (v:SV):Option SV:=match v with
 | .ptr b o=>(match ρ b with | some c=>some (.ptr c o) | none=>none)
 | .sl b o l z k=>(match ρ b with | some c=>some (.sl c o l z k) | none=>none)
 | .map b=>(match ρ b with | some c=>some (.map c) | none=>none)
 | .emp b z=>(match ρ b with | some c=>some (.emp c z) | none=>none)
 | .fn f xs ys=>(match renL q xs with | some l=>(match renL q ys with | some m=>some (.fn f l m) | none=>none) | none=>none)
 | .iface t v=>(match q v with | some x=>some (.iface t x) | none=>none)
 | .agg cs=>(match renL q cs with | some l=>some (.agg l) | none=>none)
 | .tup cs=>(match renL q cs with | some l=>some (.tup l) | none=>none)
 | .yld _=>none
 | .bool b=>some (.bool b)
 | .int k n=>some (.int k n)
 | .str s=>some (.str s)
 | .nilp=>some .nilp
 | .nils=>some .nils
 | .nilm=>some .nilm
 | .nilf=>some .nilf
 | .nili=>some .nili
 | .we=>some .we
def SV.ren (ρ:Nat→Option Nat) (n:Nat):SV→Option SV:=Nat.rec (fun _=>none) (fun _ q=>ren1 ρ q) n
theorem renL_ok {e e2:Env} {q:SV→Option SV} (hq:∀ v v2 u,q v=some v2→VR e v u→VR e2 v2 u):∀ {l l2:List SV} {us:List Value},renL q l=some l2→VRs e l us→VRs e2 l2 us
 | [],l2,us,h,hv=>by cases h;cases hv;exact .nil
 | v :: t,l2,us,h,hv=>by
  unfold renL at h
  split at h
  ·rename_i x hx
   split at h
   ·rename_i l hl
    cases h
    cases hv with
    | cons h1 h2=>exact .cons (hq _ _ _ hx h1) (renL_ok hq hl h2)
   ·cases h
  ·cases h
theorem ren1_ok {e e2:Env} {ρ:Nat→Option Nat} (hρ:∀ b c,ρ b=some c→e2 c=e b) {q:SV→Option SV} (hq:∀ v v2 u,q v=some v2→VR e v u→VR e2 v2 u) {v v2:SV} {u:Value} (h:ren1 ρ q v=some v2) (hv:VR e v u):VR e2 v2 u:=by
 unfold ren1 at h
 cases hv<;>simp only at h
 case bool=>cases h;constructor
 case int=>cases h;constructor
 case str=>cases h;constructor
 case nilp=>cases h;constructor
 case nils=>cases h;constructor
 case nilm=>cases h;constructor
 case nilf=>cases h;constructor
 case nili=>cases h;constructor
 case we=>cases h;constructor
 case yld=>cases h
 case ptr b off c o z hb=>split at h<;>cases h;exact .ptr ((hρ _ _ (by assumption)).trans hb)
 case sl hb h1 h2 h3 h4=>split at h<;>cases h;exact .sl ((hρ _ _ (by assumption)).trans hb) h1 h2 h3 h4
 case sle hb=>split at h<;>cases h;exact .sle _ _ _ ((hρ _ _ (by assumption)).trans hb)
 case map hb=>split at h<;>cases h;exact .map ((hρ _ _ (by assumption)).trans hb)
 case empn=>split at h<;>cases h;constructor
 case emps hb h1 h2=>split at h<;>cases h;exact .emps ((hρ _ _ (by assumption)).trans hb) h1 h2
 case fn h1 h2 =>
  split at h
  ·split at h
   ·cases h;exact .fn (renL_ok hq (by assumption) h1) (renL_ok hq (by assumption) h2)
   ·cases h
  ·cases h
 case iface h1=>split at h<;>cases h;exact .iface (hq _ _ _ (by assumption) h1)
 case agg h1=>split at h<;>cases h;exact .agg (renL_ok hq (by assumption) h1)
 case tup h1=>split at h<;>cases h;exact .tup (renL_ok hq (by assumption) h1)
theorem SV.ren_ok {e e2:Env} {ρ:Nat→Option Nat} (hρ:∀ b c,ρ b=some c→e2 c=e b):∀ (n:Nat) {v v2:SV} {u:Value},SV.ren ρ n v=some v2→VR e v u→VR e2 v2 u
 | 0,_,_,_,h,_=>by cases h
 | n + 1,v,v2,u,h,hv=>ren1_ok hρ (fun v v2 u h hv=>SV.ren_ok hρ n h hv) h hv
theorem renL_len {q:SV→Option SV}:∀ {l l2:List SV},renL q l=some l2→l2.length=l.length
 | [],l2,h=>by cases h;rfl
 | v :: t,l2,h=>by
  unfold renL at h
  split at h
  ·split at h
   ·cases h;simp [renL_len (by assumption)]
   ·cases h
  ·cases h
theorem renL_at {q:SV→Option SV}:∀ {l l2:List SV},renL q l=some l2→∀ (j:Nat) v2,l2[j]?=some v2→∃ v,l[j]?=some v∧q v=some v2
 | [],l2,h,j,v2,hj=>by cases h;simp at hj
 | v :: t,l2,h,j,v2,hj=>by
  unfold renL at h
  split at h
  ·split at h
   ·cases h
    cases j with
    | zero=>simp at hj;subst hj;exact ⟨v,rfl,by assumption⟩
    | succ j=>simpa using renL_at (by assumption) j v2 (by simpa using hj)
   ·cases h
  ·cases h
theorem ren1_one {ρ:Nat→Option Nat} {q:SV→Option SV} {v v2:SV} (h:ren1 ρ q v=some v2) (h1:v.one=true):v2.one=true:=by
  unfold ren1 at h
  cases v<;>simp only [SV.one,Bool.false_eq_true] at h1 h<;>first
    | (cases h;rfl)
    | (cases h;done)
    | (split at h<;>cases h;rfl)
    | (split at h
       · split at h<;>cases h;rfl
       · cases h)
theorem SV.ren_one {ρ:Nat→Option Nat}:∀ (n:Nat) {v v2:SV},SV.ren ρ n v=some v2→v.one=true→v2.one=true
 | 0,_,_,h,_=>by cases h
 | n + 1,v,v2,h,h1=>ren1_one h h1
abbrev Live:=List (Nat × Nat)
def toNew:Live→Nat→Option Nat
 | [],_=>none
 | p :: t,b=>cond (Nat.beq p.1 b) (some p.2) (toNew t b)
def toOld:Live→Nat→Option Nat
 | [],_=>none
 | p :: t,c=>cond (Nat.beq p.2 c) (some p.1) (toOld t c)
def liveOk (nx:Nat):Live→Bool
 | []=>true
 | p :: t=>Nat.blt p.2 nx && Nat.blt p.2 TMax && t.all (fun q=>!Nat.beq q.1 p.1 && !Nat.beq q.2 p.2) && liveOk nx t
theorem toNew_mem:∀ {l:Live} {b c:Nat},toNew l b=some c→(b,c)∈l
 | p :: t,b,c,h=>by
  unfold toNew at h
  cases hb:Nat.beq p.1 b with
  | true=>rw [hb,cond_true] at h;cases h;rw [← Nat.eq_of_beq_eq_true hb];exact List.mem_cons_self ..
  | false=>rw [hb,cond_false] at h;exact List.mem_cons_of_mem _ (toNew_mem h)
theorem toOld_mem:∀ {l:Live} {b c:Nat},toOld l c=some b→(b,c)∈l
 | p :: t,b,c,h=>by
  unfold toOld at h
  cases hb:Nat.beq p.2 c with
  | true=>rw [hb,cond_true] at h;cases h;rw [← Nat.eq_of_beq_eq_true hb];exact List.mem_cons_self ..
  | false=>rw [hb,cond_false] at h;exact List.mem_cons_of_mem _ (toOld_mem h)
theorem liveOk_cons {nx:Nat} {p:Nat × Nat} {t:Live} (h:liveOk nx (p :: t)=true):(p.2 < nx∧p.2 < TMax)∧(∀ q∈t,q.1≠p.1∧q.2≠p.2)∧liveOk nx t=true:=by
 simp only [liveOk,Bool.and_eq_true,List.all_eq_true,Bool.not_eq_true'] at h
 obtain ⟨⟨⟨h1,h2⟩,h3⟩,h4⟩:=h
 refine ⟨⟨by simpa [Nat.blt_eq] using h1,by simpa [Nat.blt_eq] using h2⟩,fun q hq=>?_,h4⟩
 have k:=h3 q hq
 have k1:Nat.beq q.1 p.1=false:=k.1
 have k2:Nat.beq q.2 p.2=false:=k.2
 exact ⟨fun hh=>(by rw [hh,Nat.beq_refl] at k1;cases k1),fun hh=>(by rw [hh,Nat.beq_refl] at k2;cases k2)⟩
theorem mem_toOld {nx:Nat}:∀ {l:Live},liveOk nx l=true→∀ {b c:Nat},(b,c)∈l→toOld l c=some b
 | p :: t,h,b,c,hm=>by
  obtain ⟨h1,h2,h3⟩:=liveOk_cons h
  unfold toOld
  rcases List.mem_cons.1 hm with rfl | hm
  ·simp
  ·have:=(h2 _ hm).2
   have hb:Nat.beq p.2 c=false:=by cases hq:Nat.beq p.2 c with | false=>rfl | true=>exact absurd (Nat.eq_of_beq_eq_true hq).symm this
   rw [hb,cond_false];exact mem_toOld h3 hm
theorem mem_toNew {nx:Nat}:∀ {l:Live},liveOk nx l=true→∀ {b c:Nat},(b,c)∈l→toNew l b=some c
 | p :: t,h,b,c,hm=>by
  obtain ⟨h1,h2,h3⟩:=liveOk_cons h
  unfold toNew
  rcases List.mem_cons.1 hm with rfl | hm
  ·simp
  ·have:=(h2 _ hm).1
   have hb:Nat.beq p.1 b=false:=by cases hq:Nat.beq p.1 b with | false=>rfl | true=>exact absurd (Nat.eq_of_beq_eq_true hq).symm this
   rw [hb,cond_false];exact mem_toNew h3 hm
theorem live_lt {nx:Nat}:∀ {l:Live},liveOk nx l=true→∀ {b c:Nat},(b,c)∈l→c < nx∧c < TMax
 | p :: t,h,b,c,hm=>by
  obtain ⟨h1,h2,h3⟩:=liveOk_cons h
  rcases List.mem_cons.1 hm with rfl | hm
  ·exact h1
  ·exact live_lt h3 hm
def renF:Nat:=30
def renP (ρ:Nat→Option Nat):List (SV × SV)→Option (List (SV × SV))
 | []=>some []
 | p :: t=>match SV.ren ρ renF p.1 with
  | some k=>(match SV.ren ρ renF p.2 with
   | some v=>(match renP ρ t with
    | some l=>some ((k,v) :: l)
    | none=>none)
   | none=>none)
  | none=>none
def SB.ren (ρ:Nat→Option Nat) (k:SB):Option SB:=match k with
 | .cells c ro sib ty=>(match renL (SV.ren ρ renF) c with | some c2=>some (.cells c2 ro (sib.filterMap ρ) ty) | none=>none)
 | .map es=>(match renP ρ es with | some l=>some (.map l) | none=>none)
 | .siter s p=>some (.siter s p)
 | .emp=>some .emp
 | .loop ..=>none
theorem renP_ok {e e2:Env} {ρ:Nat→Option Nat} (hρ:∀ b c,ρ b=some c→e2 c=e b):∀ {l l2:List (SV × SV)} {us vs:List Value},renP ρ l=some l2→VRs e (l.map (·.1)) us→VRs e (l.map (·.2)) vs→VRs e2 (l2.map (·.1)) us∧VRs e2 (l2.map (·.2)) vs
 | [],l2,us,vs,h,h1,h2=>by cases h;cases h1;cases h2;exact ⟨.nil,.nil⟩
 | p :: t,l2,us,vs,h,h1,h2=>by
  unfold renP at h
  split at h
  ·split at h
   ·split at h
    ·cases h
     cases h1 with
     | cons a1 b1=>cases h2 with
      | cons a2 b2 =>
       obtain ⟨k1,k2⟩:=renP_ok hρ (by assumption) b1 b2
       exact ⟨.cons (SV.ren_ok hρ _ (by assumption) a1) k1,.cons (SV.ren_ok hρ _ (by assumption) a2) k2⟩
    ·cases h
   ·cases h
  ·cases h
theorem SB.ren_ok {e e2:Env} {ρ:Nat→Option Nat} (hρ:∀ b c,ρ b=some c→e2 c=e b) {k k2:SB} (h:SB.ren ρ k=some k2) {w:World} {c o z:Nat} (hb:BlkR e w c o z k):BlkR e2 w c o z k2:=by
 unfold SB.ren at h
 cases k with
 | cells cs ro sib ty =>
  simp only at h
  split at h
  ·rename_i c2 hc
   cases h
   obtain ⟨arr,t,fr,h1,h2,h3,h4,h5⟩:=hb
   refine ⟨arr,t,fr,h1,h2,h3,by rw [renL_len hc];exact h4,fun j v hj=>?_⟩
   obtain ⟨v0,k1,k2⟩:=renL_at hc j v hj
   obtain ⟨k3,u,k4,k5⟩:=h5 j v0 k1
   exact ⟨SV.ren_one _ k2 k3,u,k4,SV.ren_ok hρ _ k2 k5⟩
  ·cases h
 | map es =>
  simp only at h
  split at h
  ·rename_i l hl
   cases h
   obtain ⟨es',k,h1,h2,h3⟩:=hb
   obtain ⟨k1,k2⟩:=renP_ok hρ hl h2 h3
   exact ⟨es',k,h1,k1,k2⟩
  ·cases h
 | siter s p=>cases h;exact hb
 | emp=>cases h;exact hb
 | loop=>cases h
theorem SB.ren_wr {ρ:Nat→Option Nat} {k k2:SB} (h:SB.ren ρ k=some k2):k2.wr=k.wr∧k2.len=k.len∧∀ b c,ρ b=some c→b∈k.sib→c∈k2.sib:=by
 unfold SB.ren at h
 cases k with
 | cells cs ro sib ty =>
  simp only at h
  split at h
  ·cases h
   exact ⟨rfl,renL_len (by assumption),fun b c hb hm=>List.mem_filterMap.2 ⟨b,hm,hb⟩⟩
  ·cases h
 | map es=>simp only at h;split at h<;>cases h;exact ⟨rfl,rfl,fun _ _ _ hm=>by cases hm⟩
 | siter s p=>cases h;exact ⟨rfl,rfl,fun _ _ _ hm=>by cases hm⟩
 | emp=>cases h;exact ⟨rfl,rfl,fun _ _ _ hm=>by cases hm⟩
 | loop=>cases h
theorem SB.ren_sib {ρ:Nat→Option Nat} {k k2:SB} (h:SB.ren ρ k=some k2):∀ c∈k2.sib,∃ b∈k.sib,ρ b=some c:=by
 unfold SB.ren at h
 cases k with
 | cells cs ro sib ty =>
  simp only at h
  split at h
  ·cases h
   exact fun c hc=>List.mem_filterMap.1 hc
  ·cases h
 | map es=>simp only at h;split at h<;>cases h;exact nofun
 | siter s p=>cases h;exact nofun
 | emp=>cases h;exact nofun
 | loop=>cases h
def gcM (ρ:Nat→Option Nat) (m:T SB):Live→Option (T SB)
 | []=>some .e
 | p :: t=>match m.get p.1 with
  | some k=>(match SB.ren ρ k with
   | some k2=>(match gcM ρ m t with
    | some m2=>some (m2.upd p.2 (some k2))
    | none=>none)
   | none=>none)
  | none=>gcM ρ m t
def gcT (ρ:Nat→Option Nat) (tm:T SV):List Nat→Option (T SV)
 | []=>some .e
 | k :: t=>match tm.get k with
  | some v=>(match SV.ren ρ renF v with
   | some v2=>(match gcT ρ tm t with
    | some t2=>cond (Nat.blt k TMax) (some (t2.upd k (some v2))) none
    | none=>none)
   | none=>none)
  | none=>none
def gcX (ρ:Nat→Option Nat) (x:HX):Option HX:=match x.h with
 | none=>some ⟨none,0,[],[],[]⟩
 | some p=>(match ρ p.1 with
  | some c=>some ⟨some (c,p.2),0,[],[],[]⟩
  | none=>none)
def gc (live:Live) (keep:List Nat) (nx:Nat) (tm:T SV) (st:St HX):Option (T SV × St HX) :=
 cond (liveOk nx live) (match gcM (toNew live) st.m live with
  | some m=>(match gcT (toNew live) tm keep with
   | some t=>(match gcX (toNew live) st.x with
    | some x=>some (t,⟨m,nx,x⟩)
    | none=>none)
   | none=>none)
  | none=>none) none
theorem gcM_ok {ρ:Nat→Option Nat} {m:T SB} {nx:Nat}:∀ {l:Live} {m2:T SB},gcM ρ m l=some m2→liveOk nx l=true→∀ c k2,m2.get c=some k2→∃ b k,(b,c)∈l∧m.get b=some k∧SB.ren ρ k=some k2
 | [],m2,h,_,c,k2,hc=>by cases h;simp at hc
 | p :: t,m2,h,hl,c,k2,hc=>by
  unfold gcM at h
  obtain ⟨h1,h2,h3⟩:=liveOk_cons hl
  split at h
  ·rename_i k hk
   split at h
   ·rename_i k' hk'
    split at h
    ·rename_i m' hm'
     cases h
     rw [T.get_upd _ _ h1.2] at hc
     by_cases hq:c=p.2
     ·subst hq;rw [if_pos rfl] at hc;cases hc
      exact ⟨p.1,k,List.mem_cons_self ..,hk,hk'⟩
     ·rw [if_neg hq] at hc
      obtain ⟨b,k,g1,g2,g3⟩:=gcM_ok hm' h3 c k2 hc
      exact ⟨b,k,List.mem_cons_of_mem _ g1,g2,g3⟩
    ·cases h
   ·cases h
  ·obtain ⟨b,k,g1,g2,g3⟩:=gcM_ok h h3 c k2 hc
   exact ⟨b,k,List.mem_cons_of_mem _ g1,g2,g3⟩
theorem gcT_ok {ρ:Nat→Option Nat} {tm:T SV}:∀ {l:List Nat} {t2:T SV},gcT ρ tm l=some t2→∀ t v2,t2.get t=some v2→∃ v,tm.get t=some v∧SV.ren ρ renF v=some v2
 | [],t2,h,t,v2,ht=>by cases h;simp at ht
 | k :: l,t2,h,t,v2,ht=>by
  unfold gcT at h
  split at h
  ·rename_i v hv
   split at h
   ·rename_i v' hv'
    split at h
    ·rename_i t' ht'
     cases hb:Nat.blt k TMax with
     | false=>rw [hb] at h;cases h
     | true =>
      rw [hb,cond_true] at h;cases h
      rw [T.get_upd _ _ (by simpa [Nat.blt_eq] using hb)] at ht
      by_cases hq:t=k
      ·subst hq;rw [if_pos rfl] at ht;cases ht;exact ⟨v,hv,hv'⟩
      ·rw [if_neg hq] at ht;exact gcT_ok ht' t v2 ht
    ·cases h
   ·cases h
  ·cases h
structure BlI (w0:B0) (w:World):Prop where
 os:w.os=w0.w.os
 tape:w.tape=w0.w.tape
 output:w.output=w0.w.output
 sz:w0.w.heap.size≤w.heap.size
 at_:∀ b,b < w0.w.heap.size→¬ w0.I b→w.heap[b]?=w0.w.heap[b]?
theorem BlI.refl {w0:B0}:BlI w0 w0.w:=⟨rfl,rfl,rfl,Nat.le_refl _,fun _ _ _=>rfl⟩
theorem BlI.all {w0:B0} {w:World} (h:BlI w0 w) (hI:∀ b,¬ w0.I b):Bl w0.w w:=⟨h.os,h.tape,h.output,h.sz,fun b hb=>h.at_ b hb (hI b)⟩
structure Own (w0:B0) (e:Env) (st:St HX) (w:World) (F:FootE):Prop where
 bl:BlI w0 w
 id:∀ b x,w0.id b=some x→e b=some x
 im:∀ c,c < w0.w.heap.size→Im e st F c→w0.I c∨Fix w0 c
structure AtS (w0:B0) (N:Nat) (tm:T SV) (st:St HX) (a:Go.Act) (w:World):Prop where
 ex:∃ e F,Rl (HL w0) e st w F∧AR e tm a.tmps∧Own w0 e st w F
 size:N≤a.tmps.size
 ds:a.defers=[]
theorem Own.next {w0:B0} {e e':Env} {st st':St HX} {w w':World} {F F':FootE} (h:Own w0 e st w F) (hR:Rl (HL w0) e' st' w' F') (hn:Nxt st.nx e st w F e' st' w' F'):Own w0 e' st' w' F':=by
 have hs:=h.bl.sz
 refine ⟨⟨hn.os.trans h.bl.os,hn.tape.trans h.bl.tape,hn.output.trans h.bl.output,Nat.le_trans hs hn.size,fun b hb hi=>?_⟩,fun b x hb=>hn.le b x (h.id b x hb),fun c hc hi=>h.im c hc (hn.img c (by omega) hi)⟩
 have he:=hR.ext.1
 by_cases h0:Fix w0 b
 ·exact he.2.1 b h0
 ·rw [hn.frame b (by omega) fun hj=>(h.im b hb hj).elim hi h0]
  exact h.bl.at_ b hb hi
structure Fd (w0:B0) (fn:Nat):Prop where
 bd:∀ b cs,w0.fo b=some cs→b < fn
 pl:∀ b cs,w0.fo b=some cs→renL (SV.ren (fun b=>if b < fn then some b else none) renF) cs=some cs
 idb:∀ b x,w0.id b=some x→b < fn
theorem Fd.of (w:World) (fn:Nat):Fd (B0.of w) fn:=⟨nofun,nofun,nofun⟩
theorem SB.ren_cells {ρ:Nat→Option Nat} {cs cs2:List SV} (h:renL (SV.ren ρ renF) cs=some cs2):SB.ren ρ (.cells cs true [] none)=some (.cells cs2 true [] none):=by
 unfold SB.ren;simp only [h,List.filterMap_nil]
theorem gc_ex {w0:B0} {fn:Nat} (hfd:Fd w0 fn) {tm tm2:T SV} {st st2:St HX} {ts:Array Value} {w:World} {live:Live} {keep:List Nat} {nx:Nat} {e:Env} {F:FootE} (hR:Rl (HL w0) e st w F) (ha:AR e tm ts) (ho:Own w0 e st w F) (hid:∀ b,b < fn→(b,b)∈live) (hg:gc live keep nx tm st=some (tm2,st2)) :
  ∃ e2:Env,liveOk nx live=true∧st2.nx=nx∧(∀ b c,(b,c)∈live→e2 c=e b)∧(∀ c y,e2 c=some y→∃ b,(b,c)∈live∧e b=some y)∧(∀ c k2,st2.m.get c=some k2→∃ b k,(b,c)∈live∧st.m.get b=some k)∧Rl (HL w0) e2 st2 w F∧AR e2 tm2 ts∧Own w0 e2 st2 w F:=by
 unfold E.gc at hg
 cases hl:liveOk nx live with
 | false=>rw [hl] at hg;cases hg
 | true =>
  rw [hl,cond_true] at hg
  split at hg
  ·rename_i m hm
   split at hg
   ·rename_i t ht
    split at hg
    ·rename_i x hx
     cases hg
     obtain ⟨e2,he2⟩:∃ e2:Env,e2=fun c=>match toOld live c with | some b=>e b | none=>none:=⟨_,rfl⟩
     have hmem:∀ b c,(b,c)∈live→e2 c=e b:=fun b c hbc=>by rw [he2];simp only [mem_toOld hl hbc]
     have hρ:∀ b c,toNew live b=some c→e2 c=e b:=fun b c hb=>hmem b c (toNew_mem hb)
     have hdom:∀ c y,e2 c=some y→∃ b,(b,c)∈live∧e b=some y:=fun c y hc=>by
      rw [he2] at hc
      simp only at hc
      split at hc
      ·rename_i b hb;exact ⟨b,toOld_mem hb,hc⟩
      ·cases hc
     have hget:∀ c k2,m.get c=some k2→∃ b k,(b,c)∈live∧st.m.get b=some k∧SB.ren (toNew live) k=some k2:=gcM_ok hm hl
     have hinj:∀ b b' c c',(b,c)∈live→(b',c')∈live→b=b'→c=c':=fun b b' c c' h1 h2 hq=>by
      have:=mem_toNew hl h1;rw [hq,mem_toNew hl h2] at this;exact (Option.some.inj this).symm
     refine ⟨e2,rfl,rfl,hmem,hdom,fun c k2 h1=>(hget c k2 h1).elim fun b ⟨k,g1,g2,_⟩=>⟨b,k,g1,g2⟩,⟨fun c k2 cc o z h1 h2=>?_,fun x y bx by_ c o z c' o' z' h1 h2 h3 h4 h5 h6=>?_,fun c k2 h1=>?_,fun c y h1=>?_,fun c k2 h1 h2 y hy=>?_,?_⟩,fun t v ht2=>?_,ho.bl,fun b x hb=>(hmem b b (hid b (hfd.idb b x hb))).trans (ho.id b x hb),fun c hc hi=>?_⟩
     ·obtain ⟨b,k,g1,g2,g3⟩:=hget c k2 h1
      rw [hmem b c g1] at h2
      obtain ⟨k1,k3⟩:=hR.blk b k cc o z g2 h2
      exact ⟨k1,SB.ren_ok hρ g3 k3⟩
     ·obtain ⟨b,k,g1,g2,g3⟩:=hget x bx h1
      obtain ⟨b',k',g1',g2',g3'⟩:=hget y by_ h2
      rw [hmem b x g1] at h5
      rw [hmem b' y g1'] at h6
      obtain ⟨q1,q2,q3⟩:=SB.ren_wr g3
      obtain ⟨q1',q2',q3'⟩:=SB.ren_wr g3'
      rcases hR.dis b b' k k' c o z c' o' z' g2 g2' (fun hq=>h3 (hinj _ _ _ _ g1 g1' hq)) (by rw [← q1];exact h4) h5 h6 with r | ⟨r1,r2,r3⟩
      ·exact .inl r
      ·exact .inr ⟨q3 _ _ (mem_toNew hl g1') r1,by rw [q1'];exact r2,by rw [q2,q2'];exact r3⟩
     ·obtain ⟨b,k,g1,-,-⟩:=hget c k2 h1
      exact (live_lt hl g1).1
     ·obtain ⟨b,g1,-⟩:=hdom c y h1
      exact (live_lt hl g1).1
     ·obtain ⟨b,k,g1,g2,g3⟩:=hget c k2 h1
      rw [hmem b c g1] at h2
      obtain ⟨b',r1,r2⟩:=SB.ren_sib g3 y hy
      rw [hρ _ _ r2]
      exact hR.sib b k g2 h2 b' r1
     ·obtain ⟨h1,h2⟩:=hR.ext
      refine ⟨⟨h1.1,h1.2.1,h1.2.2.1,fun b cs hb=>?_⟩,?_⟩
      ·obtain ⟨c,o,z,g1,g2,g3⟩:=h1.2.2.2 b cs hb
       exact ⟨c,o,z,g1,(hmem b b (hid b (hfd.bd b cs hb))).trans g2,SB.ren_ok (ρ:=fun b=>if b < fn then some b else none) (fun b c hbc=>by
        split at hbc
        ·cases hbc;exact hmem _ _ (hid _ (by assumption))
        ·cases hbc) (SB.ren_cells (hfd.pl b cs hb)) g3⟩
      unfold gcX at hx
      split at hx
      ·rename_i hq
       cases hx
       simp only [hq] at h2
       exact h2
      ·rename_i p hq
       split at hx
       ·rename_i c hc
        cases hx
        exact p.2.elim
       ·cases hx
     ·obtain ⟨v0,k1,k2⟩:=gcT_ok ht t v ht2
      obtain ⟨u,k3,k4⟩:=ha t v0 k1
      exact ⟨u,k3,SV.ren_ok hρ _ k2 k4⟩
     ·refine ho.im c hc ?_
      rcases hi with hi | ⟨y,k2,o,z,h1,h2⟩
      ·exact .inl hi
      ·obtain ⟨b,k,g1,g2,-⟩:=hget y k2 h1
       rw [hmem b y g1] at h2
       exact .inr ⟨b,k,o,z,g2,h2⟩
    ·cases hg
   ·cases hg
  ·cases hg
theorem AtS.gc {w0:B0} {fn:Nat} (hfd:Fd w0 fn) {N:Nat} {tm tm2:T SV} {st st2:St HX} {a:Go.Act} {w:World} {live:Live} {keep:List Nat} {nx:Nat} (h:AtS w0 N tm st a w) (hid:∀ b,b < fn→(b,b)∈live) (hg:gc live keep nx tm st=some (tm2,st2)):AtS w0 N tm2 st2 a w:=by
 obtain ⟨e,F,hR,ha,ho⟩:=h.ex
 obtain ⟨e2,-,-,-,-,-,k1,k2,k3⟩:=gc_ex hfd hR ha ho hid hg
 exact ⟨⟨e2,F,k1,k2,k3⟩,h.size,h.ds⟩
theorem AtS.sc {w0:B0} {N:Nat} {tm:T SV} {m:T SB} {nx:Nat} {x x':HX} {a:Go.Act} {w:World} (hx:x'.h=x.h) (h:AtS w0 N tm ⟨m,nx,x⟩ a w):AtS w0 N tm ⟨m,nx,x'⟩ a w:=by
 obtain ⟨e,F,hR,ha,ho⟩:=h.ex
 refine ⟨⟨e,F,⟨hR.blk,hR.dis,hR.old,hR.dom,hR.sib,?_⟩,ha,ho.bl,ho.id,ho.im⟩,h.size,h.ds⟩
 have:=hR.ext
 refine ⟨this.1,?_⟩
 have h2:=this.2
 rw [hx]
 exact h2
end
section
set_option maxRecDepth 100000
open Go.RowKit
abbrev PostE:=Ex→T SV→St HX→Prop
def CodeQ (w0:B0) (N:Nat) (c:Code) (tm:T SV) (st:St HX) (Post:PostE):Prop :=
 ∀ (a:Go.Act) (w:World) (Q:Go.Exit→Go.Act→World→Prop),AtS w0 N tm st a w→(∀ x tm' st' a' w',Post x tm' st'→AtS w0 N tm' st' a' w'→Q x.to a' w')→c.wp Tryz.prog Q a w
noncomputable def runC (ext:ExtT) (fo:Nat→Option (List SV)) (K n f N:Nat) (c:Code) (tm:T SV) (st:St HX):ExR HX:=codeF Tryz.prog (hvalW Tryz.prog fo) hbit (recY (C Tryz.prog ext ⟨default,fo,fun _=>none,nofun,fun _=>False,fun _=>none⟩) plan K n false) (plan f) N K c tm st
structure Hd (w0:B0) (fo:Nat→Option (List SV)) (fn:Nat):Prop where
 fo:w0.fo=fo
 fd:Fd w0 fn
 fa:∀ b x,w0.fa b=some x→b < fn
theorem Hd.of (w:World):Hd (B0.of w) (fun _=>none) 0:=⟨rfl,Fd.of w 0,nofun⟩
theorem Hd.call {w0:B0} {fo:Nat→Option (List SV)} {fn:Nat} (h:Hd w0 fo fn) (ext:ExtT) (K n:Nat):recY (C Tryz.prog ext ⟨default,fo,fun _=>none,nofun,fun _=>False,fun _=>none⟩) plan K n=recY (C Tryz.prog ext w0) plan K n:=by
 rw [← h.fo];rfl
section
variable {w0:B0} {fo:Nat→Option (List SV)} {fn:Nat} (hH:Hd w0 fo fn) {N:Nat}
include hH in
theorem CodeQ.run {ext:ExtT} (hx:∀ f h,ext f=some h→extP f h) {K n f:Nat} {c:Code} {tm:T SV} {st:St HX} {x:Ex} {r:T SV × St HX} (hp:planOkC (plan f) c=true) (h:runC ext fo K n f N c tm st=some (x,r)) (hg:r.2.x.good) :
  CodeQ w0 N c tm st (fun x' tm' st'=>x'=x∧tm'=r.1∧st'=r.2):=by
 intro a w Q hA hQ
 have hC:=C_ok hx w0
 unfold runC at h
 rw [hH.call,← hH.fo] at h
 have:=codeF_ok (N:=N) hC.val hC.mixed (recY_ok hC K n).1 hC.bit K c tm st x r hp h hg
 obtain ⟨e,F,hR,ha,ho⟩:=hA.ex
 exact (this.2 e w F a Q hR ha hA.size fun a' w' e' F' h1 h2 h3 h4 h5=>hQ x r.1 r.2 a' w' ⟨rfl,rfl,rfl⟩ ⟨⟨e',F',h4,h1,ho.next h4 h5⟩,h2,h3.trans hA.ds⟩).wp
def outC (live:Live) (keep:List Nat) (nx:Nat) (r:ExR HX):Option (Ex × Option (T SV × St HX) × List Prop × List SV):=match r with
 | some p=>some (p.1,gc live keep nx p.2.1 p.2.2,p.2.2.x.pc,p.2.2.x.rc.map Prod.fst)
 | none=>none
def outD (x:Ex) (tm:T SV) (st:St HX) (ps:List Prop) (r:ExR HX):Option (Ex × Option (T SV × St HX) × List Prop × List SV):=match r with
 | some p=>some (x,some (tm,st),ps,p.2.2.x.rc.map Prod.snd)
 | none=>some (.normal,none,[],[])
theorem CodeQ.mono {c:Code} {tm:T SV} {st:St HX} {P1 P2:PostE} (h:CodeQ w0 N c tm st P1) (hm:∀ x tm' st',P1 x tm' st'→P2 x tm' st'):CodeQ w0 N c tm st P2 :=
 fun a w Q hA hQ=>h a w Q hA fun x tm' st' a' w' hp hA'=>hQ x tm' st' a' w' (hm _ _ _ hp) hA'
def Ex.out (id:Nat):Ex→Ex
 | .exit j=>cond (Nat.beq j id) .normal (.exit j)
 | x=>x
theorem CodeQ.block {id:Nat} {c:Code} {tm:T SV} {st:St HX} {Post:PostE} (h:CodeQ w0 N c tm st fun x tm' st'=>Post (x.out id) tm' st'):CodeQ w0 N (.block id c) tm st Post:=fun a w Q hA hQ=>by
 refine wp_block (h a w _ hA fun x tm' st' a' w' hp hA'=>?_)
 have:=hQ _ _ _ _ _ hp hA'
 cases x with
 | normal=>exact this
 | ret=>exact this
 | exit j =>
  cases hj:Nat.beq j id with
  | true =>
   have hq:=Nat.eq_of_beq_eq_true hj
   subst hq
   simpa [Ex.to,Ex.out,Exit.inBlock] using this
  | false =>
   have hne:j≠id:=fun hh=>by rw [hh,Nat.beq_refl] at hj;cases hj
   simpa [Ex.to,Ex.out,hj,Exit.inBlock,hne] using this
theorem CodeQ.cond {cx:Operand} {c1 c2:Code} {tm:T SV} {st:St HX} {b:Bool} {Post:PostE} (hb:evx tm cx=some (.bool b)) (h:CodeQ w0 N (if b then c1 else c2) tm st Post):CodeQ w0 N (.cond cx c1 c2) tm st Post:=fun a w Q hA hQ=>by
 obtain ⟨e,F,hR,ha,ho⟩:=hA.ex
 have hv:=evx_ok ha hb
 generalize hq:a.eval cx=u at hv
 cases hv
 exact wp_cond hq (h a w Q hA hQ)
theorem CodeQ.sc {c:Code} {tm:T SV} {m:T SB} {nx:Nat} {x x':HX} {Post:PostE} (hx:x'.h=x.h) (h:CodeQ w0 N c tm ⟨m,nx,x'⟩ Post):CodeQ w0 N c tm ⟨m,nx,x⟩ Post :=
 fun a w Q hA hQ=>h a w Q (hA.sc hx) hQ
end
def flatC:Code→List Code
 | .seq a b=>flatC a++flatC b
 | c=>[c]
def wpL:List Code→(Go.Exit→Go.Act→World→Prop)→Go.Act→World→Prop
 | [],Q=>Q .normal
 | c :: t,Q=>c.wp Tryz.prog (Exit.then (wpL t Q) Q)
theorem then_of {K K':Go.Act→World→Prop} {Q Q':Go.Exit→Go.Act→World→Prop} (hk:∀ a w,K a w→K' a w) (hq:∀ e a w,e≠.normal→Q e a w→Q' e a w):∀ e a w,Exit.then K Q e a w→Exit.then K' Q' e a w:=by
 intro e a w h
 cases e<;>first | exact hk _ _ h | exact hq _ _ _ (by intro h;cases h) h
theorem wpL_app (l2:List Code) {Q:Go.Exit→Go.Act→World→Prop}:∀ (l1:List Code) (a:Go.Act) (w:World),wpL l1 (Exit.then (wpL l2 Q) Q) a w→wpL (l1++l2) Q a w
 | [],a,w,h=>h
 | c :: t,a,w,h=>wp_mono h (then_of (fun a w h=>wpL_app l2 t a w h) (fun e a w he h=>by cases e<;>first | exact absurd rfl he | exact h))
theorem wpL_flat {Q:Go.Exit→Go.Act→World→Prop}:∀ (c:Code) (rest:List Code) (a:Go.Act) (w:World),wpL (flatC c++rest) Q a w→c.wp Tryz.prog (Exit.then (wpL rest Q) Q) a w:=by
 intro c
 induction c with
 | seq x y hx hy =>
  intro rest a w h
  have h1:=hx (flatC y++rest) a w (by rw [← List.append_assoc];exact h)
  refine wp_seq (wp_mono h1 (then_of (fun a w h=>hy rest a w h) (fun e a w he h=>by cases e<;>first | exact absurd rfl he | exact h)))
 | _=>intro rest a w h;exact h
section
variable {w0:B0} {fo:Nat→Option (List SV)} {fn:Nat} (hH:Hd w0 fo fn) {N:Nat}
def CodeL (w0:B0) (N:Nat) (l:List Code) (tm:T SV) (st:St HX) (Post:PostE):Prop :=
 ∀ (a:Go.Act) (w:World) (Q:Go.Exit→Go.Act→World→Prop),AtS w0 N tm st a w→(∀ x tm' st' a' w',Post x tm' st'→AtS w0 N tm' st' a' w'→Q x.to a' w')→wpL l Q a w
theorem CodeL.code {c:Code} {tm:T SV} {st:St HX} {Post:PostE} (h:CodeL w0 N (flatC c) tm st Post):CodeQ w0 N c tm st Post:=fun a w Q hA hQ=>by
 have h1:wpL (flatC c++[]) Q a w:=by rw [List.append_nil];exact h a w Q hA hQ
 exact wp_mono (wpL_flat c [] a w h1) fun e a w h=>by cases e<;>exact h
theorem CodeQ.row {c:Code} {tm:T SV} {st:St HX} {Post:PostE} (h:CodeQ w0 N c tm st Post):CodeL w0 N [c] tm st Post:=fun a w Q hA hQ =>
 wp_mono (h a w Q hA hQ) fun e a w h=>by cases e<;>exact h
theorem CodeL.app {l1 l2:List Code} {tm:T SV} {st:St HX} {P1 Post:PostE} (h1:CodeL w0 N l1 tm st P1) (h2:∀ tm' st',P1 .normal tm' st'→CodeL w0 N l2 tm' st' Post) (h3:∀ x tm' st',x≠.normal→P1 x tm' st'→Post x tm' st') :
  CodeL w0 N (l1++l2) tm st Post:=fun a w Q hA hQ=>by
 refine wpL_app l2 l1 a w (h1 a w _ hA fun x tm' st' a' w' hp hA'=>?_)
 cases x with
 | normal=>exact h2 tm' st' hp a' w' Q hA' hQ
 | exit id=>exact hQ _ _ _ _ _ (h3 _ _ _ (by intro h;cases h) hp) hA'
 | ret=>exact hQ _ _ _ _ _ (h3 _ _ _ (by intro h;cases h) hp) hA'
theorem CodeL.sc {l:List Code} {tm:T SV} {m:T SB} {nx:Nat} {x x':HX} {Post:PostE} (hx:x'.h=x.h) (h:CodeL w0 N l tm ⟨m,nx,x'⟩ Post):CodeL w0 N l tm ⟨m,nx,x⟩ Post :=
 fun a w Q hA hQ=>h a w Q (hA.sc hx) hQ
theorem CodeL.mono {l:List Code} {tm:T SV} {st:St HX} {P1 P2:PostE} (h:CodeL w0 N l tm st P1) (hm:∀ x tm' st',P1 x tm' st'→P2 x tm' st'):CodeL w0 N l tm st P2 :=
 fun a w Q hA hQ=>h a w Q hA fun x tm' st' a' w' hp hA'=>hQ x tm' st' a' w' (hm _ _ _ hp) hA'
noncomputable def runL (ext:ExtT) (fo:Nat→Option (List SV)) (K n f N:Nat):List Code→T SV→St HX→ExR HX
 | [],tm,st=>some (.normal,tm,st)
 | c :: t,tm,st=>match runC ext fo K n f N c tm st with
  | some (.normal,p)=>runL ext fo K n f N t p.1 p.2
  | r=>r
include hH in
theorem CodeL.run {ext:ExtT} (hx:∀ f h,ext f=some h→extP f h) {K n f:Nat} {x:Ex} {r:T SV × St HX} (hg:r.2.x.good):∀ {l:List Code} {tm:T SV} {st:St HX},(l.all fun c=>planOkC (plan f) c)=true→runL ext fo K n f N l tm st=some (x,r) →
  st.x.good∧CodeL w0 N l tm st (fun x' tm' st'=>x'=x∧tm'=r.1∧st'=r.2)
 | [],tm,st,_,h=>by
  cases h
  exact ⟨hg,fun a w Q hA hQ=>hQ .normal tm st a w ⟨rfl,rfl,rfl⟩ hA⟩
 | c :: t,tm,st,hp,h=>by
  simp only [List.all_cons,Bool.and_eq_true] at hp
  have hC:=C_ok hx w0
  unfold runL at h
  split at h
  ·rename_i p h1
   obtain ⟨g1,k1⟩:=CodeL.run hx hg hp.2 h
   have g2:=(codeF_ok (N:=N) hC.val hC.mixed (recY_ok hC K n).1 hC.bit K c tm st .normal p hp.1 (by unfold runC at h1;rw [hH.call,← hH.fo] at h1;exact h1) g1).1
   refine ⟨g2,fun a w Q hA hQ=>?_⟩
   refine CodeQ.run hH hx hp.1 (x:=.normal) (r:=p) h1 g1 a w _ hA ?_
   rintro x' tm' st' a' w' ⟨rfl,rfl,rfl⟩ hA'
   exact k1 a' w' Q hA' hQ
  ·rename_i r0 hne
   have g2:=(codeF_ok (N:=N) hC.val hC.mixed (recY_ok hC K n).1 hC.bit K c tm st x r hp.1 (by unfold runC at h;rw [hH.call,← hH.fo] at h;exact h) hg).1
   refine ⟨g2,fun a w Q hA hQ=>?_⟩
   refine CodeQ.run hH hx hp.1 h hg a w _ hA ?_
   rintro x' tm' st' a' w' ⟨rfl,rfl,rfl⟩ hA'
   have:=hQ x' r.1 r.2 a' w' ⟨rfl,rfl,rfl⟩ hA'
   cases x' with
   | normal=>exact absurd h (hne _)
   | exit j=>exact this
   | ret=>exact this
include hH in
theorem CodeL.runG {ext:ExtT} (hx:∀ f h,ext f=some h→extP f h) {K n f:Nat} {l:List Code} {tm:T SV} {st:St HX} {x:Ex} {live:Live} {keep:List Nat} {nx:Nat} {tm2:T SV} {st2:St HX} {ps:List Prop}
  (hp:(l.all fun c=>planOkC (plan f) c)=true) (h:outC live keep nx (runL ext fo K n f N l tm st)=outD x tm2 st2 ps (runL ext fo K n f N l tm st)) (hps:AllP ps) (hid:∀ b,b < fn→(b,b)∈live) :
  CodeL w0 N l tm st (fun x' tm' st'=>x'=x∧tm'=tm2∧st'=st2):=by
 unfold outC outD at h
 split at h
 ·rename_i p hr
  injection h with h
  injection h with h1 h
  injection h with h2 h
  injection h with h3 h4
  have hg:p.2.2.x.good:=⟨by rw [h3];exact AllP.mem hps,map_same h4⟩
  intro a w Q hA hQ
  refine (CodeL.run hH hx (r:=p.2) (x:=p.1) hg hp hr).2 a w Q hA ?_
  rintro x' tm' st' a' w' ⟨rfl,rfl,rfl⟩ hA'
  exact hQ p.1 tm2 st2 a' w' ⟨h1,rfl,rfl⟩ (hA'.gc hH.fd hid h2)
 ·cases h
end
end
section
set_option maxRecDepth 100000
open Go.RowKit
def unLoop:Code→Code
 | .block _ (.loop c)=>c
 | c=>c
def atC (l:List Code) (k:Nat):Code:=match l[k]? with
 | some c=>c
 | none=>.skip
def mkT {α:Type}:List (Nat × α)→T α
 | []=>.e
 | p :: t=>(mkT t).upd p.1 (some p.2)
abbrev SS:=T SV × St HX
def SS.tell (s:SS) (sc:List (Nat × Sc)):SS:=(s.1,⟨s.2.m,s.2.nx,⟨s.2.x.h,0,sc,[],[]⟩⟩)
abbrev fo0:Nat→Option (List SV):=fun _=>none
theorem o_b {b c:Bool} (h:b=c):some (SV.bool b)=some (SV.bool c):=by rw [h]
theorem o_nge {x y:Int} (h:x < y):some (SV.bool (not (ltI x y)))=some (SV.bool false):=o_b (by rw [ltI_eq,decide_eq_true h];rfl)
theorem wrapI_eq (n:Int):IntKind.i64.wrap n=(n + 9223372036854775808) % 18446744073709551616 - 9223372036854775808:=by
 have e:IntKind.i64.wrap n=if n % 18446744073709551616 ≥ 9223372036854775808 then n % 18446744073709551616 - 18446744073709551616 else n % 18446744073709551616:=by
  simp [IntKind.wrap,IntKind.bits,IntKind.signed]
 rw [e]
 split<;>omega
theorem o_i {x y:Int} (h:(x + 9223372036854775808) % 18446744073709551616 - 9223372036854775808=y):some (SV.int .i64 (wrapF .i64 x))=some (SV.int .i64 y):=by rw [wrapF_eq,wrapI_eq,h]
theorem o_sub {x y z:Int} (h:(x - y + 9223372036854775808) % 18446744073709551616 - 9223372036854775808=z):some (SV.int .i64 (wrapF .i64 (Int.sub x y)))=some (SV.int .i64 z):=o_i h
abbrev TL:=List (Nat × Sc × Prop)
def TL.sc:TL→List (Nat × Sc)
 | []=>[]
 | q :: t=>(q.1,q.2.1) :: TL.sc t
def TL.ps:TL→List Prop→List Prop
 | [],a=>a
 | q :: t,a=>TL.ps t (q.2.2 :: a)
def TL.ok:TL→Prop
 | []=>True
 | q :: t=>q.2.2∧TL.ok t
theorem TL.ps_all:∀ (t:TL) (a:List Prop),t.ok→AllP a→AllP (t.ps a)
 | [],a,_,h=>h
 | q :: t,a,h,ha=>TL.ps_all t (q.2.2 :: a) h.2 ⟨h.1,ha⟩
noncomputable abbrev goX (ext:ExtT) (fo:Nat→Option (List SV)) (f N:Nat) (l:List Code) (s:SS):ExR HX:=runL ext fo 100000 100 f N l s.1 s.2
abbrev QTX (ext:ExtT) (fo:Nat→Option (List SV)) (f N:Nat) (live:Live) (keep:List Nat) (nx:Nat) (l:List Code) (s s2:SS) (x:Ex) (tl:TL):Prop :=
 outC live keep nx (goX ext fo f N l (s.tell tl.sc))=outD x s2.1 s2.2 (tl.ps []) (goX ext fo f N l (s.tell tl.sc))
theorem QTX.code {w0:B0} {fo:Nat→Option (List SV)} {fn:Nat} (hH:Hd w0 fo fn) {ext:ExtT} (hx:∀ f h,ext f=some h→extP f h) {f N:Nat} {live:Live} {keep:List Nat} {nx:Nat} {l:List Code} {s s2:SS} {x:Ex} {tl:TL}
  (h:QTX ext fo f N live keep nx l s s2 x tl) (hp:(l.all fun c=>planOkC (plan f) c)=true) (ht:tl.ok) (hid:∀ b,b < fn→(b,b)∈live) :
  CodeL w0 N l s.1 s.2 (fun x' tm' st'=>x'=x∧tm'=s2.1∧st'=s2.2):=by
 obtain ⟨tm,m,nx0,hx0⟩:=s
 exact CodeL.sc (x':=⟨hx0.h,0,tl.sc,[],[]⟩) rfl (CodeL.runG hH hx hp h (TL.ps_all tl [] ht trivial) hid)
abbrev QAX (ext:ExtT) (fo:Nat→Option (List SV)) (f N:Nat) (live:Live) (keep:List Nat) (nx:Nat) (l:List Code) (is:List Nat) (s s2:Nat→SS) (x:Ex) (tl:Nat→TL):Prop :=
 (is.map fun i=>outC live keep nx (goX ext fo f N l ((s i).tell (tl i).sc)))=is.map fun i=>outD x (s2 i).1 (s2 i).2 ((tl i).ps []) (goX ext fo f N l ((s i).tell (tl i).sc))
theorem QAX.at {ext:ExtT} {fo:Nat→Option (List SV)} {f N:Nat} {live:Live} {keep:List Nat} {nx:Nat} {l:List Code} {is:List Nat} {s s2:Nat→SS} {x:Ex} {tl:Nat→TL} (h:QAX ext fo f N live keep nx l is s s2 x tl) {i:Nat} (hi:i∈is):QTX ext fo f N live keep nx l (s i) (s2 i) x (tl i):=List.map_inj_left.1 h i hi
def extE:ExtT:=fun _=>none
theorem extE_ok:∀ f h,extE f=some h→extP f h:=fun f h hf=>by cases hf
end
end Go.Proofs.YtmelcflkbfhohaaGreatDoor.W.E
