/- EvH Put2 -/
import Derived.Test.YtbbokgpklihkoaaGreatDoorPart6
import Derived.Test.YtbbokgpklihkoaaGreatDoorPart12
import Derived.Test.YtbbokgpklihkoaaGreatDoorPart14
import Derived.Test.YtbbokgpklihkoaaGreatDoorPart11
set_option linter.unusedVariables false
set_option linter.unusedSimpArgs false
section
namespace Go.Proofs.YtbbokgpklihkoaaGreatDoor.W.E
open Go.RowKit
inductive Sc where
 | bit (b:Bool)
 | val (v:SV)
 | res (v:SV) (h:Hp)
 | row (l:List V)
structure HX where
 h:Option (Nat × Hp)
 cnt:Nat
 sc:List (Nat × Sc)
 pc:List Prop
 rc:List (SV × SV)
def HX.good (x:HX):Prop:=(∀ p∈x.pc,p)∧∀ q∈x.rc,q.1=q.2
def RefsOk (h:Hp):Prop:=∀ n,h.refs n=occ n h.vals
structure B0 where
 w:World
 fo:Nat→Option (List SV)
 fa:Nat→Option (Nat × Nat × Nat)
 lt:∀ b c o z,fa b=some (c,o,z)→c < w.heap.size
 I:Nat→Prop
 id:Nat→Option (Nat × Nat × Nat)
def B0.of (w:World):B0:=⟨w,fun _=>none,fun _=>none,nofun,fun _=>False,fun _=>none⟩
instance:Inhabited B0:=⟨B0.of default⟩
def Fix (w0:B0) (d:Nat):Prop:=d=0∨d=2∨∃ b o z,w0.fa b=some (d,o,z)
def FoE (w0:B0) (e:Env):Prop:=∀ b cs,w0.fo b=some cs→∃ c o z,w0.fa b=some (c,o,z)∧e b=some (c,o,z)∧BlkR e w0.w c o z (.cells cs true [] none)
structure HXAt (w0:B0) (e:Env) (b:Nat) (h:Hp) (w:World) (F:FootE) (c:Nat) (F0:FootE):Prop where
 at_:∃ z,e b=some (c,0,z)
 hr:HR w c h F0
 ok:RefsOk h
 iff:∀ d,F d↔F0 d∨Fix w0 d
 nf:∀ d,Fix w0 d→¬ F0 d
theorem HXAt.n0 {w0:B0} {e:Env} {b:Nat} {h:Hp} {w:World} {F:FootE} {c:Nat} {F0:FootE} (k:HXAt w0 e b h w F c F0):¬ F0 0:=k.nf 0 (.inl rfl)
theorem HXAt.n2 {w0:B0} {e:Env} {b:Nat} {h:Hp} {w:World} {F:FootE} {c:Nat} {F0:FootE} (k:HXAt w0 e b h w F c F0):¬ F0 2:=k.nf 2 (.inr (.inl rfl))
def HXR (w0:B0) (e:Env) (x:HX) (w:World) (F:FootE):Prop :=
 (Gl w0.w∧(∀ d,Fix w0 d→w.heap[d]?=w0.w.heap[d]?)∧w0.w.heap.size≤w.heap.size∧FoE w0 e)∧match x.h with
 | none=>∀ b,F b↔Fix w0 b
 | some p=>∃ c F0,HXAt w0 e p.1 p.2 w F c F0
theorem HXR.gl {w0:B0} {e:Env} {x:HX} {w:World} {F:FootE} (h:HXR w0 e x w F):Gl w:=h.1.1.keep h.1.2.2.1 (h.1.2.1 0 (.inl rfl)) (h.1.2.1 2 (.inr (.inl rfl)))
theorem HXR.tab {w0:B0} {e:Env} {x:HX} {w:World} {F:FootE} (h:HXR w0 e x w F):∀ d,Fix w0 d→F d:=by
 obtain ⟨-,h⟩:=h
 split at h
 ·exact fun d hd=>(h d).2 hd
 ·obtain ⟨c,F0,h⟩:=h
  exact fun d hd=>(h.iff d).2 (.inr hd)
theorem Fix.lt {w0:B0} {d:Nat} (h:Fix w0 d) (hg:Gl w0.w):d < w0.w.heap.size:=by
 have hsz:=hg.2.2
 rcases h with rfl | rfl | ⟨b,o,z,h⟩
 ·omega
 ·omega
 ·exact w0.lt b d o z h
theorem FoE.mono {w0:B0} {e e':Env} (h:FoE w0 e) (hl:e.le e'):FoE w0 e':=fun b cs hb=>by
 obtain ⟨c,o,z,h1,h2,h3⟩:=h b cs hb
 exact ⟨c,o,z,h1,hl _ _ h2,h3.keep hl rfl⟩
def HL (w0:B0):EL HX where
 R:=HXR w0
 keep:=fun e x w w' F h hs hk=>by
  have ht:=h.tab
  refine ⟨⟨h.1.1,fun d hd=>(hk d (ht d hd)).trans (h.1.2.1 d hd),Nat.le_trans h.1.2.2.1 hs,h.1.2.2.2⟩,?_⟩
  obtain ⟨-,h⟩:=h
  split at h
  ·exact h
  ·obtain ⟨c,F0,h⟩:=h;exact ⟨c,F0,h.at_,h.hr.keep hs fun b hb=>hk b ((h.iff b).2 (.inl hb)),h.ok,h.iff,h.nf⟩
 lt:=fun e x w F h b hb=>by
  obtain ⟨hg,h⟩:=h
  have hf:∀ d,Fix w0 d→d < w.heap.size:=fun d hd=>Nat.lt_of_lt_of_le (hd.lt hg.1) hg.2.2.1
  split at h
  ·exact hf b ((h b).1 hb)
  ·obtain ⟨c,F0,h⟩:=h
   rcases (h.iff b).1 hb with h1 | h1
   ·exact h.hr.lt b h1
   ·exact hf b h1
 mono:=fun e e' x w F h hl=>by
  refine ⟨⟨h.1.1,h.1.2.1,h.1.2.2.1,h.1.2.2.2.mono hl⟩,?_⟩
  obtain ⟨-,h⟩:=h
  split at h
  ·exact h
  ·obtain ⟨c,F0,h⟩:=h;obtain ⟨z,hz⟩:=h.at_;exact ⟨c,F0,⟨z,hl _ _ hz⟩,h.hr,h.ok,h.iff,h.nf⟩
def nxtC {α:Type} (c:Nat) (k:Nat→Option α):Option α:=match Nat.add c 1 with
 | 0=>none
 | d + 1=>k (d + 1)
theorem nxtC_ok {α:Type} (c:Nat) (k:Nat→Option α):nxtC c k=k (c + 1):=rfl
def hbit (b:Bool) (x:HX):Option (Bool × HX) :=
 match x with
 | ⟨h,cnt,sc,pc,rc⟩=>match sc with
  | []=>some (b,⟨h,cnt,[],pc,rc⟩)
  | (k,s) :: t=>bif Nat.beq k cnt then match s with
    | .bit c=>nxtC cnt fun n=>some (c,⟨h,n,t,(b=c) :: pc,rc⟩)
    | _=>none
   else nxtC cnt fun n=>some (b,⟨h,n,(k,s) :: t,pc,rc⟩)
theorem hbit_ok {w0:B0} (b:Bool) (x:HX) (b':Bool) (x':HX) (h:hbit b x=some (b',x')) (hg:x'.good):x.good∧b=b'∧∀ e w F,(HL w0).R e x w F→(HL w0).R e x' w F:=by
 obtain ⟨h0,cnt,sc,pc,rc⟩:=x
 unfold hbit at h
 cases sc with
 | nil=>cases h;exact ⟨hg,rfl,fun _ _ _ h=>h⟩
 | cons p t =>
  obtain ⟨k,s⟩:=p
  simp only [nxtC_ok] at h
  cases hb:Nat.beq k cnt with
  | true =>
   rw [hb,cond_true] at h
   cases s with
   | bit c =>
    cases h
    exact ⟨⟨fun p hp=>hg.1 p (List.mem_cons_of_mem _ hp),hg.2⟩,hg.1 _ (List.mem_cons_self ..),fun _ _ _ h=>h⟩
   | _=>cases h
  | false=>rw [hb,cond_false] at h;cases h;exact ⟨hg,rfl,fun _ _ _ h=>h⟩
def hvalF (o:Op) (v:Option SV) (x:HX):Option (SV × HX) :=
 match x with
 | ⟨h,cnt,sc,pc,rc⟩=>match sc with
  | []=>match v with
   | some v=>some (v,⟨h,cnt,[],pc,rc⟩)
   | none=>none
  | (k,s) :: t=>bif Nat.beq k cnt then match s with
    | .val c=>nxtC cnt fun n=>some (c,⟨h,n,t,(v=some c) :: pc,rc⟩)
    | _=>none
   else match v with
    | some v=>nxtC cnt fun n=>some (v,⟨h,n,(k,s) :: t,pc,rc⟩)
    | none=>none
def hsame (a b:SV) (x:HX):Option HX:=match x with
 | ⟨h,cnt,sc,pc,rc⟩=>some ⟨h,cnt,sc,pc,(a,b) :: rc⟩
def lookF (P:Program) (fo:Nat→Option (List SV)) (tm:T SV) (o:Op):Option SV:=match o with
 | .load t x=>match evx tm x with
  | some (.ptr b off)=>match fo b with
   | some cs=>match aggT P t with
    | some false=>cs[off]?
    | _=>none
   | none=>none
  | _=>none
 | _=>none
def hvalW (P:Program) (fo:Nat→Option (List SV)):VF HX:=⟨hvalF,hsame,lookF P fo⟩
theorem lookF_ok {w0:B0} {tm:T SV} {o:Oper} {v:SV} (h:lookF Tryz.prog w0.fo tm o.op=some v) {e:Env} {x:HX} {w:World} {F:FootE} {a:Go.Act} (hR:(HL w0).R e x w F) (hs:AS e tm a o.op.operands.toList):YieldsV Tryz.prog o a w e v:=by
 unfold lookF at h
 split at h
 ·rename_i t x0 hop
  split at h
  ·rename_i b off hx0
   split at h
   ·rename_i cs hcs
    split at h
    ·rename_i hag
     obtain ⟨c,of,z,h1,h2,h3⟩:=hR.1.2.2.2 b cs hcs
     have hB:BlkR e w c of z (.cells cs true [] none):=h3.keep (.refl e) (hR.1.2.1 c (.inr (.inr ⟨b,of,z,h1⟩)))
     have hp:=hs x0 (by rw [hop];simp [Op.operands]) _ hx0
     refine yv (s:=Instr.loadAt t (a.eval x0)) (by simp only [execOp,hop]) ?_
     generalize a.eval x0=u0 at hp
     cases hp with
     | ptr hb =>
      rw [h2] at hb;cases hb
      obtain ⟨r,k1,k2,k3⟩:=cells_at hB h
      refine ⟨r,?_,k2⟩
      simp [Instr.loadAt,Instr.sureAddr,loadVar,Sem.run_bind,run_aggT hag,load,Sem.run,k1]
    ·cases h
   ·cases h
  ·cases h
 ·cases h
theorem hval_ok {w0:B0}:ValOk Tryz.prog (HL w0) HX.good (hvalW Tryz.prog w0.fo):=by
 refine ⟨fun o v x v' x' h hg=>?_,fun a b x x' h hg=>by cases h;exact ⟨⟨hg.1,fun q hq=>hg.2 q (List.mem_cons_of_mem _ hq)⟩,hg.2 _ (List.mem_cons_self ..),fun _ _ _ h=>h⟩,fun tm o v h e x w F a hR hs=>lookF_ok h hR hs⟩
 replace h:hvalF o v x=some (v',x'):=h
 obtain ⟨h0,cnt,sc,pc,rc⟩:=x
 unfold hvalF at h
 cases sc with
 | nil=>cases v<;>cases h;exact ⟨hg,rfl,fun _ _ _ h=>h⟩
 | cons p t =>
  obtain ⟨k,s⟩:=p
  simp only [nxtC_ok] at h
  cases hb:Nat.beq k cnt with
  | true =>
   rw [hb,cond_true] at h
   cases s with
   | val c =>
    cases h
    exact ⟨⟨fun p hp=>hg.1 p (List.mem_cons_of_mem _ hp),hg.2⟩,hg.1 _ (List.mem_cons_self ..),fun _ _ _ h=>h⟩
   | _=>cases h
  | false=>rw [hb,cond_false] at h;cases v<;>cases h;exact ⟨hg,rfl,fun _ _ _ h=>h⟩
end Go.Proofs.YtbbokgpklihkoaaGreatDoor.W.E
namespace Go.Proofs.YtbbokgpklihkoaaGreatDoor.W
open E Go.RowKit
def V.sv (v:V):E.SV:=.agg [.int .i64 v.k,.int .i64 v.n,.str v.s]
def V.svc (v:V):List E.SV:=[.int .i64 v.k,.int .i64 v.n,.str v.s]
theorem V.sv_ok (e:Env) (v:V):VR e v.sv v.agg:=.agg (.cons (.int _ _) (.cons (.int _ _) (.cons (.str _) .nil)))
theorem V.svc_ok (e:Env) (v:V):VRs e v.svc v.cs:=.cons (.int _ _) (.cons (.int _ _) (.cons (.str _) .nil))
end Go.Proofs.YtbbokgpklihkoaaGreatDoor.W
namespace Go.Proofs.YtbbokgpklihkoaaGreatDoor.W.E
open Go.RowKit
def toV3 (l:List SV):Option V :=
 match l with
 | [.int .i64 k,.int .i64 n,.str s]=>some ⟨k,n,s⟩
 | _=>none
theorem toV3_ok {l:List SV} {v:V} (h:toV3 l=some v):l=v.svc:=by
 unfold toV3 at h
 split at h
 ·cases h;rfl
 ·cases h
def toV (x:SV):Option V :=
 match x with
 | .agg l=>toV3 l
 | _=>none
theorem svc_eq {e:Env} {v:V} {us:List Value} (h:VRs e v.svc us):us=v.cs:=by
 cases h with
 | cons h1 h=>cases h with
  | cons h2 h=>cases h with
   | cons h3 h=>cases h;cases h1;cases h2;cases h3;rfl
theorem toV_ok {x:SV} {v:V} (h:toV x=some v) {e:Env} {u:Value} (hx:VR e x u):u=v.agg:=by
 unfold toV at h
 split at h
 ·have:=toV3_ok h
  subst this
  cases hx with
  | agg hx=>rw [svc_eq hx]
 ·cases h
def toVs:List SV→Option (List V)
 | []=>some []
 | a :: b :: c :: t=>match toV3 [a,b,c] with
  | some v=>match toVs t with
   | some l=>some (v :: l)
   | none=>none
  | none=>none
 | _=>none
theorem toVs_ok:∀ {l:List SV} {vs:List V},toVs l=some vs→l=vs.flatMap V.svc
 | [],vs,h=>by cases h;rfl
 | [_],vs,h=>by cases h
 | [_,_],vs,h=>by cases h
 | a :: b :: c :: t,vs,h=>by
  unfold toVs at h
  split at h
  ·rename_i v hv
   split at h
   ·rename_i l hl
    cases h
    rw [List.flatMap_cons,← toVs_ok hl,← toV3_ok hv];rfl
   ·cases h
  ·cases h
theorem flat_eq {e:Env}:∀ {l:List V} {us:List Value},VRs e (l.flatMap V.svc) us→us=l.flatMap V.cs
 | [],us,h=>by cases h;rfl
 | v :: t,us,h=>by
  rw [List.flatMap_cons] at h ⊢
  have h1:VRs e v.svc (us.take 3):=by have:=h.take 3;simpa [V.svc] using this
  have h2:VRs e (t.flatMap V.svc) (us.drop 3):=by have:=h.drop 3;simpa [V.svc] using this
  rw [← svc_eq h1,← flat_eq h2,List.take_append_drop]
theorem flat_ok (e:Env):∀ l:List V,VRs e (l.flatMap V.svc) (l.flatMap V.cs)
 | []=>.nil
 | v :: t=>by rw [List.flatMap_cons,List.flatMap_cons];exact (V.svc_ok e v).append (flat_ok e t)
theorem flat_one:∀ l:List V,(l.flatMap V.svc).all SV.one=true
 | []=>rfl
 | v :: t=>by rw [List.flatMap_cons,List.all_append,flat_one t];rfl
theorem flat_svc (l:List V):(l.flatMap V.svc).length=l.length * 3:=by induction l with | nil=>rfl | cons v t ih=>rw [List.flatMap_cons,List.length_append,ih,List.length_cons,Nat.add_mul];simp [V.svc];omega
def rowV (m:T SB) (x:SV):Option (List V) :=
 match x with
 | .nils=>some []
 | .emp k _=>match m.get k with
  | some .emp=>some []
  | _=>none
 | .sl b off n esz _=>match m.get b with
  | some (.cells cs _ _ _)=>bif Nat.beq esz 3 && Nat.ble (off + n * 3) cs.length && Nat.ble n 1048576 then toVs ((cs.drop off).take (n * 3)) else none
  | _=>none
 | _=>none
section
variable {w0:B0} {e:Env} {st st':St HX} {w w':World} {F:FootE}
theorem rowV_ok {x:SV} {l:List V} (h:rowV st.m x=some l) (hR:Rl (HL w0) e st w F) {u:Value} (hx:VR e x u):Vx F w u l∧l.length≤big:=by
 unfold rowV at h
 split at h
 ·cases h;cases hx;exact ⟨Vx.nil F w,by simp⟩
 ·split at h
  ·rename_i hm
   cases h
   cases hx with
   | empn k z=>exact ⟨Vx.nil F w,by simp⟩
   | emps hb hz hmx =>
    obtain ⟨hnF,hB⟩:=hR.blk _ _ _ _ _ hm hb
    exact ⟨⟨.inr ⟨_,_,_,rfl,hB.lt,Nat.zero_le _,hmx,fun j u hj=>by simp at hj⟩,fun b' o' n' c' he=>by cases he;exact hnF⟩,by simp⟩
  ·cases h
 ·rename_i b off n esz ck
  split at h
  ·rename_i cs ro sib ty hm
   cases hc:Nat.beq esz 3 && Nat.ble (off + n * 3) cs.length && Nat.ble n 1048576 with
   | false=>rw [hc] at h;cases h
   | true =>
    rw [hc,cond_true] at h
    simp only [Bool.and_eq_true] at hc
    obtain ⟨⟨h1,h2⟩,h3⟩:=hc
    have h1:=Nat.eq_of_beq_eq_true h1
    have h2:=zB h2
    have h3:=zB h3
    have hl:=toVs_ok h
    have hlen:l.length=n:=by
     have:=congrArg List.length hl
     rw [flat_svc] at this
     simp at this;omega
    refine ⟨?_,by rw [hlen];exact h3⟩
    cases hx with
    | sl hb hle hz hmx hck =>
     rename_i c o z cap
     obtain ⟨hnF,hB⟩:=hR.blk b _ c o z hm hb
     obtain ⟨us,k1,k2,k3⟩:=part_row hB off (n * 3)
     rw [hl] at k1
     have:=flat_eq k1
     subst this
     refine ⟨.inr ⟨c,o + off,cap,by rw [hlen],hB.lt,by omega,hmx,fun j u hj=>by rw [Nat.add_assoc];exact k2 j u hj⟩,fun b' o' n' c' he=>?_⟩
     cases he;exact hnF
    | sle off' es o' hb =>
     have:l=[]:=List.eq_nil_of_length_eq_zero hlen
     subst this
     obtain ⟨hnF,hB⟩:=hR.blk b _ _ _ _ hm hb
     refine ⟨.inr ⟨_,o',0,rfl,hB.lt,Nat.le_refl _,by simp [maxLen],fun j u hj=>by simp at hj⟩,fun b' o'' n' c' he=>?_⟩
     cases he;exact hnF
  ·cases h
 ·cases h
theorem Rl.bl (h:Rl (HL w0) e st w F) (hb:Bl w w') (B:Nat):Rl (HL w0) e st w' F∧Nxt B e st w F e st w' F:=by
 have hk:∀ b k c o z,st.m.get b=some k→e b=some (c,o,z)→w'.heap[c]?=w.heap[c]?:=fun b k c o z h1 h2=>hb.at (h.blk b k c o z h1 h2).2.lt
 refine ⟨⟨fun b k c o z h1 h2=>⟨(h.blk b k c o z h1 h2).1,(h.blk b k c o z h1 h2).2.keep (.refl e) (hk b k c o z h1 h2)⟩,h.dis,h.old,h.dom,h.sib,(HL w0).keep _ _ _ _ _ h.ext hb.sz fun b hF=>hb.at ((HL w0).lt _ _ _ _ h.ext b hF)⟩,
  ⟨.refl e,hb.os,hb.tape,hb.output,hb.sz,fun c hc _=>hb.at hc,fun _ _ h=>h,fun _ _ h=>⟨h,fun _=>rfl⟩,Nat.le_refl _⟩⟩
def St.wh (st:St HX) (b:Nat) (h:Hp):St HX:=⟨st.m,st.nx,⟨some (b,h),st.x.cnt,st.x.sc,st.x.pc,st.x.rc⟩⟩
theorem hx_at (h:Rl (HL w0) e st w F) {b:Nat} {h0:Hp} (hx:st.x.h=some (b,h0)):∃ c F0,HXAt w0 e b h0 w F c F0:=by
 have:=h.ext
 simp only [HL,HXR,hx] at this
 exact this.2
theorem Rl.gl (h:Rl (HL w0) e st w F):Gl w:=HXR.gl h.ext
theorem Rl.hstep (h:Rl (HL w0) e st w F) {b c:Nat} {h0 h':Hp} {F0:FootE} (hx:st.x.h=some (b,h0)) (ha:HXAt w0 e b h0 w F c F0) (hs:HStep w c F0 h' w') (hr:RefsOk h') (B:Nat):∃ F',Rl (HL w0) e (st.wh b h') w' F'∧Nxt B e st w F e (st.wh b h') w' F':=by
 obtain ⟨F1,r,s⟩:=hs
 have hg:=h.gl
 have hsz:=hg.2.2
 have hout:∀ d,d < w.heap.size→¬ F d→w'.heap[d]?=w.heap[d]?:=fun d hd hn=>s.block d hd fun hf=>hn ((ha.iff d).2 (.inl hf))
 have hin:∀ d,(F1 d∨Fix w0 d)→F d∨w.heap.size≤d:=fun d hd=>by
  rcases hd with hd | hd
  ·exact (s.foot d hd).imp (fun hf=>(ha.iff d).2 (.inl hf)) id
  ·exact .inl ((ha.iff d).2 (.inr hd))
 refine ⟨fun d=>F1 d∨Fix w0 d,⟨fun x k c1 o1 z1 h1 h2=>?_,h.dis,h.old,h.dom,h.sib,?_⟩,⟨.refl e,s.os,s.tape,s.output,s.size,fun d hd hni=>hout d hd fun hf=>hni (.inl hf),fun d hd hi=>?_,fun _ _ h=>⟨h,fun _=>rfl⟩,Nat.le_refl _⟩⟩
 ·obtain ⟨a1,a2⟩:=h.blk x k c1 o1 z1 h1 h2
  have hlt:=a2.lt
  exact ⟨fun hf=>(hin c1 hf).elim a1 (fun hh=>by omega),a2.keep (.refl e) (hout c1 hlt a1)⟩
 ·have he:=h.ext.1
  have hfs:∀ d,Fix w0 d→d < w.heap.size:=fun d hd=>Nat.lt_of_lt_of_le (hd.lt he.1) he.2.2.1
  refine ⟨⟨he.1,fun d hd=>(s.block d (hfs d hd) (ha.nf d hd)).trans (he.2.1 d hd),Nat.le_trans he.2.2.1 s.size,he.2.2.2⟩,?_⟩
  exact ⟨c,F1,ha.at_,r,hr,fun d=>Iff.rfl,fun d hd hf=>(s.foot d hf).elim (ha.nf d hd) (fun hh=>by have:=hfs d hd;omega)⟩
 ·rcases hi with hi | hi
  ·exact (hin d hi).elim .inl (fun hh=>by omega)
  ·exact .inr hi
theorem ptr_at {b c z:Nat} (he:e b=some (c,0,z)) {u:Value} (hu:VR e (.ptr b 0) u):u=.pointer (some ⟨c,0,none⟩):=by
 cases hu with
 | ptr h=>rw [he] at h;cases h;rfl
def heapAt (x:HX) (p:SV):Option Hp :=
 match x.h with
 | some q=>match p with
  | .ptr b o=>bif Nat.beq b q.1 && Nat.beq o 0 then some q.2 else none
  | _=>none
 | none=>none
theorem heapAt_ok {p:SV} {h0:Hp} (h:heapAt st.x p=some h0) (hR:Rl (HL w0) e st w F) {u:Value} (hu:VR e p u):∃ b c F0,st.x.h=some (b,h0)∧HXAt w0 e b h0 w F c F0∧u=.pointer (some ⟨c,0,none⟩):=by
 unfold heapAt at h
 split at h
 ·rename_i q hq
  split at h
  ·rename_i b o
   cases hb:Nat.beq b q.1 && Nat.beq o 0 with
   | false=>rw [hb] at h;cases h
   | true =>
    rw [hb] at h;cases h
    simp only [Bool.and_eq_true] at hb
    have h1:=Nat.eq_of_beq_eq_true hb.1
    have h2:=Nat.eq_of_beq_eq_true hb.2
    subst h1 h2
    obtain ⟨c,F0,k⟩:=hx_at hR hq
    obtain ⟨z,k1⟩:=k.at_
    exact ⟨_,c,F0,hq,k,ptr_at k1 hu⟩
  ·cases h
 ·cases h
def hnum (x:HX):Nat:=match x.h with | some p=>p.1 | none=>0
abbrev ExtF:=List SV→St HX→Option (SV × St HX)
def ExtOk (f:Nat) (h:ExtF):Prop:=∀ (w0:B0) vs st v st',h vs st=some (v,st')→CallsR Tryz.prog (HL w0) HX.good f vs st v st'
theorem ext_reader {f:Nat} {vs:List SV} {st:St HX} {v:SV}
  (h:∀ e w F us,Rl (HL w0) e st w F→VRs e vs us→∃ u,VR e v u∧Calls Tryz.prog f ⟨us⟩ w fun en w'=>en=.returned u∧Bl w w'):CallsR Tryz.prog (HL w0) HX.good f vs st v st :=
 fun hg=>⟨hg,fun e w F us hR hvs=>by
  obtain ⟨u,h1,h2⟩:=h e w F us hR hvs
  exact h2.mono fun en w' ⟨q1,q2⟩=>⟨u,e,F,q1,h1,hR.bl q2 _⟩⟩
theorem ext_writer {f:Nat} {vs:List SV} {st:St HX} {v:SV} {b:Nat} {h0 h':Hp} (hx:st.x.h=some (b,h0))
  (h:∀ e w F us c F0,Rl (HL w0) e st w F→VRs e vs us→HXAt w0 e b h0 w F c F0→RefsOk h'∧∃ u,VR e v u∧Calls Tryz.prog f ⟨us⟩ w fun en w'=>en=.returned u∧HStep w c F0 h' w'):CallsR Tryz.prog (HL w0) HX.good f vs st v (st.wh b h') :=
 fun hg=>⟨hg,fun e w F us hR hvs=>by
  obtain ⟨c,F0,k⟩:=hx_at hR hx
  obtain ⟨hr,u,h1,h2⟩:=h e w F us c F0 hR hvs k
  exact h2.mono fun en w' ⟨q1,q2⟩=>by
   obtain ⟨F',r1,r2⟩:=hR.hstep hx k q2 hr st.nx
   exact ⟨u,e,F',q1,h1,r1,r2⟩⟩
theorem Vx.less {F F0:Foot} {w:World} {x:Value} {l:List V} (h:Vx F w x l) (hs:∀ d,F0 d→F d):Vx F0 w x l:=⟨h.vs,fun b o n c he hf=>h.out b o n c he (hs b hf)⟩
theorem HXAt.sub {w0:B0} {e:Env} {b:Nat} {h:Hp} {w:World} {F:FootE} {c:Nat} {F0:FootE} (k:HXAt w0 e b h w F c F0):∀ d,F0 d→F d:=fun d hd=>(k.iff d).2 (.inl hd)
theorem heapAt_x {x:HX} {p:SV} {h0:Hp} (h:heapAt x p=some h0):x.h=some (hnum x,h0):=by
 unfold heapAt at h
 unfold hnum
 split at h
 ·rename_i q hq
  rw [hq]
  split at h
  ·cases hb:Nat.beq _ q.1 && Nat.beq _ 0 with
   | false=>rw [hb] at h;cases h
   | true=>rw [hb] at h;cases h;rfl
  ·cases h
 ·cases h
def St.row (st:St HX) (l:List V):SV × St HX :=
 match l with
 | []=>(.emp st.nx 3,st.add .emp)
 | v :: t=>(.sl st.nx 0 (t.length + 1) 3 none,st.add (.cells ((v :: t).flatMap V.svc) false [] (some 23)))
theorem ext_row {f:Nat} {vs:List SV} {st:St HX} {l:List V} (hn:st.nx < TMax)
  (h:∀ e w F us,Rl (HL w0) e st w F→VRs e vs us→Calls Tryz.prog f ⟨us⟩ w (NewVs w l)):CallsR Tryz.prog (HL w0) HX.good f vs st (st.row l).1 (st.row l).2 :=
 fun hg=>⟨by cases l<;>exact hg,fun e w F us hR hvs=>(h e w F us hR hvs).mono fun en w' ⟨x,q1,q2,hb⟩=>by
  have hnew:∀ {k:SB} {g o z:Nat},k.sib=[]→w.heap.size≤g→BlkR (e.put st.nx (g,o,z)) w' g o z k→Rl (HL w0) (e.put st.nx (g,o,z)) (st.add k) w' F∧Nxt st.nx e st w F (e.put st.nx (g,o,z)) (st.add k) w' F:=fun {k g o z} hk hg2 hB =>
   ⟨hR.own hn hk (fun y k0 o1 z1 h1 h2=>by have:=(hR.blk y k0 g o1 z1 h1 h2).2.lt;omega) (fun hf=>by have:=(HL w0).lt _ _ _ _ hR.ext g hf;omega) hb.sz (fun d hd _=>hb.at hd) hB,
    Nxt.own hR (Nat.le_refl _) hb.sz (fun d hd _=>hb.at hd) ⟨hb.os,hb.tape,hb.output⟩ fun hc=>by omega⟩
  subst q1
  obtain ⟨hlen,hx⟩:=q2
  cases l with
  | nil =>
   rcases hx with ⟨rfl,-⟩ | ⟨g,cap,cur,rfl,hg2,hgb,hle,hmx,hsz,htk⟩
   ·obtain ⟨r1,r2⟩:=(hR.add hn .emp).bl hb st.nx
    exact ⟨_,e,F,rfl,.empn _ _,r1,(Nxt.add hR .emp).trans r2⟩
   ·obtain ⟨r1,r2⟩:=hnew (k:=.emp) (o:=0) (z:=cap * 3) rfl hg2 ⟨cur,_,hgb,by omega⟩
    exact ⟨_,_,F,rfl,.emps (Env.put_same _ _ _) (Nat.le_refl _) hmx,r1,r2⟩
  | cons v t =>
   rcases hx with ⟨-,h0⟩ | ⟨g,cap,cur,rfl,hg2,hgb,hle,hmx,hsz,htk⟩
   ·cases h0
   ·have hfl:=flat_len (v :: t)
    have hcs:((v :: t).flatMap V.svc).length=(t.length + 1) * 3:=flat_svc (v :: t)
    have hle':(t.length + 1) * 3≤cap * 3:=Nat.mul_le_mul_right _ hle
    obtain ⟨r1,r2⟩:=hnew (k:=.cells ((v :: t).flatMap V.svc) false [] (some 23)) (o:=0) (z:=cap * 3) rfl hg2
     ⟨cur,_,(0,0),hgb,by omega,⟨fun _=>rfl,fun T hT=>⟨Option.some.inj hT,rfl⟩⟩,by omega,fun j y hj=>⟨(List.all_eq_true.1 (flat_one (v :: t))) y (List.mem_of_getElem? hj),by
      obtain ⟨u,a1,a2⟩:=(flat_ok (e.put st.nx (g,0,cap * 3)) (v :: t)).at j hj
      refine ⟨u,?_,a2⟩
      rw [Nat.zero_add]
      have hjlt:j < (t.length + 1) * 3:=by have:=(List.getElem?_eq_some_iff.1 hj).1;omega
      have:(cur.toList.take ((v :: t).length * 3))[j]?=some u:=by rw [htk];exact a1
      rw [List.getElem?_take,if_pos (by simpa using hjlt)] at this
      simpa using this⟩⟩
    refine ⟨_,_,F,rfl,?_,r1,r2⟩
    have:=VR.sl (e:=e.put st.nx (g,0,cap * 3)) (b:=st.nx) (off:=0) (len:=t.length + 1) (esz:=3) (cap:=cap) (ck:=none) (Env.put_same _ _ _) hle (by omega) hmx (.inl rfl)
    show VR _ (.sl st.nx 0 (t.length + 1) 3 none) _
    simpa using this⟩
end
end Go.Proofs.YtbbokgpklihkoaaGreatDoor.W.E
end
namespace Go.Proofs.YtbbokgpklihkoaaGreatDoor.W
section
open Go.RowKit
set_option maxRecDepth 100000 in
set_option maxHeartbeats 8000000 in
theorem putH_some (w:World) (hp:Nat) (h:Hp) (F:Foot) (r:HR w hp h F) (v k x:V) (o:Ob) (ho:h.of v=some o) :
  Calls Tryz.prog 99 #[.pointer (some ⟨hp,0,none⟩),v.agg,k.agg,x.agg] w fun e w'=>e=.returned (.bool (h.put v k x).2)∧HStep w hp F (h.put v k x).1 w':=by
 rcases r.case v with ⟨h0,-⟩ | ⟨L,c,r,hc,hn,hk,h1,co⟩
 ·rw [ho] at h0;cases h0
 ·rw [ho] at h1
  cases h1
  have HRR:=zH r
  have HC:=zH hc
  have HN:=zH hn
  have HOV:=zH ho
  have cd:∀ W',Bl w W'→Calls Tryz.prog 222 #[.pointer (some ⟨c.db,0,none⟩),k.agg] W' fun e w'=>e=.returned (.tuple #[((W.get c.o.d k).getD V.nil).agg,.bool (W.get c.o.d k).isSome])∧Bl W' w':=fun W' hb=>dget_any W' _ _ _ _ _ ((r.obs c hc).dict.blm hb) k
  have cp:∀ W',Bl w W'→Calls Tryz.prog 234 #[.pointer (some ⟨c.db,0,none⟩),k.agg,x.agg] W' fun e w'=>e=.returned (.bool (dputB c.o.d k))∧DStep W' c.db c.mb c.sl (dput c.o.d k x) w':=fun W' hb=>dput_any W' _ _ _ _ _ ((r.obs c hc).dict.blm hb) k x
  obtain ⟨y,hy⟩:∃ y,y=(W.get c.o.d k).getD V.nil:=⟨_,rfl⟩
  obtain ⟨g,hg⟩:∃ g,g=(W.get c.o.d k).isSome:=⟨_,rfl⟩
  obtain ⟨p,hpp⟩:∃ p,p=dputB c.o.d k:=⟨_,rfl⟩
  rw [← hy,← hg] at cd
  rw [← hpp] at cp
  have HY:=zH (And.intro hy (And.intro hg hpp))
  obtain ⟨nfo,nfl⟩:=r.nFd hc
  clear r hc hn hk ho hy hg hpp
  go_enter Tryz.func99,Tryz.ntmps99
  go_wp2_with fail
  refine (co _ (by (repeat (first | exact qA _ | assumption | refine qB ?_ _ | refine qC ?_ | refine qD ?_ _ | refine qE ?_ _ (by simp<;>omega) _)))).mono ?_
  rintro e W1 ⟨rfl,hb1⟩
  have hbw:Bl w W1:=Bl.trans (by (repeat (first | exact qA _ | assumption | refine qB ?_ _ | refine qC ?_ | refine qD ?_ _ | refine qE ?_ _ (by simp<;>omega) _))) hb1
  obtain ⟨hc1,hf1⟩:=bcell hb1
  have hz:=hb1.sz
  simp only [zL] at hz
  have k0:W1.cell? ⟨w.heap.size + 1,0,none⟩=some (.int .i64 k.k):=(hc1 (w.heap.size + 1) 0 (by simp)).trans (by go_simp)
  have k1:W1.cell? ⟨w.heap.size + 1,1,none⟩=some (.int .i64 k.n):=(hc1 (w.heap.size + 1) 1 (by simp)).trans (by go_simp)
  have k2:W1.cell? ⟨w.heap.size + 1,2,none⟩=some (.string (bs k.s)):=(hc1 (w.heap.size + 1) 2 (by simp)).trans (by go_simp)
  have x0:W1.cell? ⟨w.heap.size + 1 + 1,0,none⟩=some (.int .i64 x.k):=(hc1 (w.heap.size + 1 + 1) 0 (by simp)).trans (by go_simp)
  have x1:W1.cell? ⟨w.heap.size + 1 + 1,1,none⟩=some (.int .i64 x.n):=(hc1 (w.heap.size + 1 + 1) 1 (by simp)).trans (by go_simp)
  have x2:W1.cell? ⟨w.heap.size + 1 + 1,2,none⟩=some (.string (bs x.s)):=(hc1 (w.heap.size + 1 + 1) 2 (by simp)).trans (by go_simp)
  obtain ⟨⟨c1,c2,c3,c4,c5⟩,c6⟩:=(HRR.out.obs c HC.out).cells hbw
  have hl2:w.heap.size + 1 + 1 < W1.heap.size:=by omega
  have hl1:w.heap.size + 1 < W1.heap.size:=by omega
  have hn2:¬ w.heap.size + 1 + 1=W1.heap.size:=by omega
  have hn1:¬ w.heap.size + 1=W1.heap.size:=by omega
  have hn0:¬ c.ob=W1.heap.size:=by omega
  have HB:=zH hbw
  clear c1 c2 c3 c4 hb1 co hc1 hf1 hz hbw
  go_wp2
  go_region_held3 (fun w'=>w'.cell? ⟨w.heap.size + 1,0,none⟩=some (.int .i64 k.k)∧w'.cell? ⟨w.heap.size + 1,1,none⟩=some (.int .i64 k.n)∧w'.cell? ⟨w.heap.size + 1,2,none⟩=some (.string (bs k.s))∧w'.cell? ⟨c.ob,4,none⟩=some (.pointer (some ⟨c.db,0,none⟩))) (first | exact ⟨k0,k1,k2,c5⟩ | exact keep4 (by assumption) (Bl.dr _) | exact keep4 (by assumption) (Bl.al _ _) | exact keep4 (by assumption) HB2.out | exact keep4 ⟨k0,k1,k2,c5⟩ (by (repeat (first | exact qA _ | assumption | refine qB ?_ _ | refine qC ?_ | refine qD ?_ _ | refine qE ?_ _ (by simp<;>omega) _))) | go_keep) ((go_at_call 222;refine (cd _ (HB.out.trans (by (repeat (first | exact qA _ | assumption | refine qB ?_ _ | refine qC ?_ | refine qD ?_ _ | refine qE ?_ _ (by simp<;>omega) _))))).mono ?_;rintro e W2 ⟨rfl,hb2⟩;have HB2:=zH hb2;have hz2:=hb2.sz;try (simp at hz2);have hbb:Bl W1 W2:=Bl.trans (by (repeat (first | exact qA _ | assumption | refine qB ?_ _ | refine qC ?_ | refine qD ?_ _ | refine qE ?_ _ (by simp<;>omega) _))) hb2;have hzz:W1.heap.size≤W2.heap.size:=hbb.sz;first | (obtain ⟨s0,s1,s2,sf⟩:=hb2.three (MapKept.heap_alloc W1 (.cells #[.int .i64 0,.int .i64 0,.string ⟨#[]⟩] 23)).1;clear hb2) | (clear hb2)))
  ·refine named (p:=fun W=>Exit.then _ _ _ _ W) (fun W3 hW3=>?_)
   have hb3:Bl W1 W3:=by rw [hW3];(repeat (first | exact qA _ | assumption | refine qB ?_ _ | refine qC ?_ | refine qD ?_ _ | refine qE ?_ _ (by simp<;>omega) _))
   have y0:W3.cell? ⟨W2.heap.size,0,none⟩=some (.int .i64 y.k):=by rw [hW3];go_simp
   have y1:W3.cell? ⟨W2.heap.size,1,none⟩=some (.int .i64 y.n):=by rw [hW3];go_simp
   have y2:W3.cell? ⟨W2.heap.size,2,none⟩=some (.string (bs y.s)):=by rw [hW3];go_simp
   have hlb:W2.heap.size < W3.heap.size:=by rw [hW3];simp<;>omega
   have hle:W1.heap.size≤W2.heap.size:=by omega
   generalize W2.heap.size=B at *
   clear hW3
   replace k0:=hb3.sm k0
   replace k1:=hb3.sm k1
   replace k2:=hb3.sm k2
   replace x0:=hb3.sm x0
   replace x1:=hb3.sm x1
   replace x2:=hb3.sm x2
   replace c5:=hb3.sm c5
   have hl3:=hb3.sz
   have HB3:=zH (HB.out.trans hb3)
   have HYY:=zH (And.intro y0 (And.intro y1 y2))
   clear y0 y1 y2 cd hb3
   go_wp2
   go_region_held3 (fun w'=>w'.cell? ⟨w.heap.size + 1,0,none⟩=some (.int .i64 k.k)∧w'.cell? ⟨w.heap.size + 1,1,none⟩=some (.int .i64 k.n)∧w'.cell? ⟨w.heap.size + 1,2,none⟩=some (.string (bs k.s))∧w'.cell? ⟨w.heap.size + 1 + 1,0,none⟩=some (.int .i64 x.k)∧w'.cell? ⟨w.heap.size + 1 + 1,1,none⟩=some (.int .i64 x.n)∧w'.cell? ⟨w.heap.size + 1 + 1,2,none⟩=some (.string (bs x.s))∧w'.cell? ⟨c.ob,4,none⟩=some (.pointer (some ⟨c.db,0,none⟩))) (first | exact ⟨k0,k1,k2,x0,x1,x2,c5⟩ | exact keep7 (by assumption) (Bl.dr _) | exact keep7d (by assumption) hds (nfl _ (by omega)) (nfl _ (by omega)) nfo) ((go_at_call 234;refine (cp _ (HB3.out.trans (by (repeat (first | exact qA _ | assumption | refine qB ?_ _ | refine qC ?_ | refine qD ?_ _ | refine qE ?_ _ (by simp<;>omega) _))))).mono ?_;rintro e W4 ⟨rfl,hds⟩;obtain ⟨F4,r4,st4⟩:=HStep.dict (HRR.out.bl (HB3.out.trans (by (repeat (first | exact qA _ | assumption | refine qB ?_ _ | refine qC ?_ | refine qD ?_ _ | refine qE ?_ _ (by simp<;>omega) _))))) HC.out hds))
   have hbd:=HB3.out.dr'
   have st4':Step w.heap.size F w W4 F4:=(Step.of_bl hbd HRR.out.lt).call hbd.sz st4
   have lx:Loc F4 W4 (w.heap.size + 1 + 1):=Loc.step (w:=W3.drew) ⟨(show w.heap.size + 1 + 1 < W3.heap.size by omega),fun hf=>by have:=HRR.out.lt _ hf;omega⟩ st4
   have lB:Loc F4 W4 B:=Loc.step (w:=W3.drew) ⟨hlb,fun hf=>by have:=HRR.out.lt _ hf;omega⟩ st4
   have z0:W4.cell? ⟨w.heap.size + 1 + 1,0,none⟩=some (.int .i64 x.k):=(st4.cellAt _ 0 (show w.heap.size + 1 + 1 < W3.heap.size by omega) (fun hf=>by have:=HRR.out.lt _ hf;omega)).trans x0
   have z1:W4.cell? ⟨w.heap.size + 1 + 1,1,none⟩=some (.int .i64 x.n):=(st4.cellAt _ 1 (show w.heap.size + 1 + 1 < W3.heap.size by omega) (fun hf=>by have:=HRR.out.lt _ hf;omega)).trans x1
   have z2:W4.cell? ⟨w.heap.size + 1 + 1,2,none⟩=some (.string (bs x.s)):=(st4.cellAt _ 2 (show w.heap.size + 1 + 1 < W3.heap.size by omega) (fun hf=>by have:=HRR.out.lt _ hf;omega)).trans x2
   have v0:W4.cell? ⟨B,0,none⟩=some (.int .i64 y.k):=(st4.cellAt _ 0 hlb (fun hf=>by have:=HRR.out.lt _ hf;omega)).trans (by first | exact HYY.out.1 | exact HYY.out.2.1 | exact HYY.out.2.2)
   have v1:W4.cell? ⟨B,1,none⟩=some (.int .i64 y.n):=(st4.cellAt _ 1 hlb (fun hf=>by have:=HRR.out.lt _ hf;omega)).trans (by first | exact HYY.out.1 | exact HYY.out.2.1 | exact HYY.out.2.2)
   have v2:W4.cell? ⟨B,2,none⟩=some (.string (bs y.s)):=(st4.cellAt _ 2 hlb (fun hf=>by have:=HRR.out.lt _ hf;omega)).trans (by first | exact HYY.out.1 | exact HYY.out.2.1 | exact HYY.out.2.2)
   have ST4:=zH st4'
   have HLX:=zH (And.intro lx (And.intro lB (And.intro v0 (And.intro v1 v2))))
   have R4:=zH r4
   clear st4' lx lB v0 v1 v2 st4 hds r4 k0 k1 k2 x0 x1 x2 c5 hbd cp
   cases p with
   | false =>
    obtain ⟨e1,e2⟩:=Hp.put_no (x:=x) HOV.out HN.out HY.out.2.2
    have HE:=zH (show Ending.returned (.bool false)=.returned (.bool (h.put v k x).2)∧HStep w hp F (h.put v k x).1 W4 from ⟨by rw [e1],by rw [e2];exact ⟨F4,R4.out,ST4.out⟩⟩)
    clear e1 e2
    go_wp2
    go_ret
    exact HE.out
   | true =>
    have ch:=hold_H1 W4 hp _ F4 R4.out 1 x _ rfl
    go_wp2_with fail
    refine ch.mono ?_
    rintro e W5 ⟨rfl,F5,r5,st5⟩
    have hs45:=st5.size
    simp only [zL] at hs45
    have hB4:=HLX.out.2.1.1
    have ST5:=zH ((ST4.out.alloc ST4.out.size (.cells x.ca 23)).call (show w.heap.size≤(W4.alloc (.cells x.ca 23)).heap.size by rw [zL];have:=ST4.out.size;omega) st5)
    have R5:=zH r5
    have v0:W5.cell? ⟨B,0,none⟩=some (.int .i64 y.k):=(st5.cellAt _ 0 (by rw [zL];omega) HLX.out.2.1.2).trans ((alc _ _ _ _ hB4).trans (by first | exact HLX.out.2.2.1 | exact HLX.out.2.2.2.1 | exact HLX.out.2.2.2.2))
    have v1:W5.cell? ⟨B,1,none⟩=some (.int .i64 y.n):=(st5.cellAt _ 1 (by rw [zL];omega) HLX.out.2.1.2).trans ((alc _ _ _ _ hB4).trans (by first | exact HLX.out.2.2.1 | exact HLX.out.2.2.2.1 | exact HLX.out.2.2.2.2))
    have v2:W5.cell? ⟨B,2,none⟩=some (.string (bs y.s)):=(st5.cellAt _ 2 (by rw [zL];omega) HLX.out.2.1.2).trans ((alc _ _ _ _ hB4).trans (by first | exact HLX.out.2.2.1 | exact HLX.out.2.2.2.1 | exact HLX.out.2.2.2.2))
    clear st5 r5 z0 z1 z2 ch
    cases g with
    | false =>
     obtain ⟨e1,e2⟩:=Hp.put_new (x:=x) HOV.out HN.out HY.out.2.2 HY.out.2.1
     have HE:=zH (show Ending.returned (.bool true)=.returned (.bool (h.put v k x).2)∧HStep w hp F (h.put v k x).1 W5 from ⟨by rw [e1],by rw [e2];exact ⟨F5,R5.out,ST5.out⟩⟩)
     clear e1 e2
     go_wp2
     go_ret
     exact HE.out
    | true =>
     have ch:=hold_H1 W5 hp _ F5 R5.out (-1) y _ rfl
     go_wp2_with fail
     refine ch.mono ?_
     rintro e W6 ⟨rfl,h6⟩
     obtain ⟨e1,e2⟩:=Hp.put_was (x:=x) HOV.out HN.out HY.out.2.2 HY.out.2.1 HY.out.1
     have HE:=zH (show Ending.returned (.bool true)=.returned (.bool (h.put v k x).2)∧HStep w hp F (h.put v k x).1 W6 from ⟨by rw [e1],by rw [e2];exact HStep.trans (ST5.out.alloc ST5.out.size _) h6⟩)
     clear e1 e2 h6
     go_wp2
     go_ret
     exact HE.out
  ·refine named (p:=fun W=>Exit.then _ _ _ _ W) (fun W3 hW3=>?_)
   have hb3:Bl W1 W3:=by rw [hW3];(repeat (first | exact qA _ | assumption | refine qB ?_ _ | refine qC ?_ | refine qD ?_ _ | refine qE ?_ _ (by simp<;>omega) _))
   have y0:W3.cell? ⟨W1.heap.size,0,none⟩=some (.int .i64 y.k):=by rw [hW3];go_simp
   have y1:W3.cell? ⟨W1.heap.size,1,none⟩=some (.int .i64 y.n):=by rw [hW3];go_simp
   have y2:W3.cell? ⟨W1.heap.size,2,none⟩=some (.string (bs y.s)):=by rw [hW3];go_simp
   have hlb:W1.heap.size < W3.heap.size:=by rw [hW3];simp<;>omega
   have hle:W1.heap.size≤W1.heap.size:=by omega
   generalize W1.heap.size=B at *
   clear hW3
   replace k0:=hb3.sm k0
   replace k1:=hb3.sm k1
   replace k2:=hb3.sm k2
   replace x0:=hb3.sm x0
   replace x1:=hb3.sm x1
   replace x2:=hb3.sm x2
   replace c5:=hb3.sm c5
   have hl3:=hb3.sz
   have HB3:=zH (HB.out.trans hb3)
   have HYY:=zH (And.intro y0 (And.intro y1 y2))
   clear y0 y1 y2 cd hb3
   go_wp2
   go_region_held3 (fun w'=>w'.cell? ⟨w.heap.size + 1,0,none⟩=some (.int .i64 k.k)∧w'.cell? ⟨w.heap.size + 1,1,none⟩=some (.int .i64 k.n)∧w'.cell? ⟨w.heap.size + 1,2,none⟩=some (.string (bs k.s))∧w'.cell? ⟨w.heap.size + 1 + 1,0,none⟩=some (.int .i64 x.k)∧w'.cell? ⟨w.heap.size + 1 + 1,1,none⟩=some (.int .i64 x.n)∧w'.cell? ⟨w.heap.size + 1 + 1,2,none⟩=some (.string (bs x.s))∧w'.cell? ⟨c.ob,4,none⟩=some (.pointer (some ⟨c.db,0,none⟩))) (first | exact ⟨k0,k1,k2,x0,x1,x2,c5⟩ | exact keep7 (by assumption) (Bl.dr _) | exact keep7d (by assumption) hds (nfl _ (by omega)) (nfl _ (by omega)) nfo) ((go_at_call 234;refine (cp _ (HB3.out.trans (by (repeat (first | exact qA _ | assumption | refine qB ?_ _ | refine qC ?_ | refine qD ?_ _ | refine qE ?_ _ (by simp<;>omega) _))))).mono ?_;rintro e W4 ⟨rfl,hds⟩;obtain ⟨F4,r4,st4⟩:=HStep.dict (HRR.out.bl (HB3.out.trans (by (repeat (first | exact qA _ | assumption | refine qB ?_ _ | refine qC ?_ | refine qD ?_ _ | refine qE ?_ _ (by simp<;>omega) _))))) HC.out hds))
   have hbd:=HB3.out.dr'
   have st4':Step w.heap.size F w W4 F4:=(Step.of_bl hbd HRR.out.lt).call hbd.sz st4
   have lx:Loc F4 W4 (w.heap.size + 1 + 1):=Loc.step (w:=W3.drew) ⟨(show w.heap.size + 1 + 1 < W3.heap.size by omega),fun hf=>by have:=HRR.out.lt _ hf;omega⟩ st4
   have lB:Loc F4 W4 B:=Loc.step (w:=W3.drew) ⟨hlb,fun hf=>by have:=HRR.out.lt _ hf;omega⟩ st4
   have z0:W4.cell? ⟨w.heap.size + 1 + 1,0,none⟩=some (.int .i64 x.k):=(st4.cellAt _ 0 (show w.heap.size + 1 + 1 < W3.heap.size by omega) (fun hf=>by have:=HRR.out.lt _ hf;omega)).trans x0
   have z1:W4.cell? ⟨w.heap.size + 1 + 1,1,none⟩=some (.int .i64 x.n):=(st4.cellAt _ 1 (show w.heap.size + 1 + 1 < W3.heap.size by omega) (fun hf=>by have:=HRR.out.lt _ hf;omega)).trans x1
   have z2:W4.cell? ⟨w.heap.size + 1 + 1,2,none⟩=some (.string (bs x.s)):=(st4.cellAt _ 2 (show w.heap.size + 1 + 1 < W3.heap.size by omega) (fun hf=>by have:=HRR.out.lt _ hf;omega)).trans x2
   have v0:W4.cell? ⟨B,0,none⟩=some (.int .i64 y.k):=(st4.cellAt _ 0 hlb (fun hf=>by have:=HRR.out.lt _ hf;omega)).trans (by first | exact HYY.out.1 | exact HYY.out.2.1 | exact HYY.out.2.2)
   have v1:W4.cell? ⟨B,1,none⟩=some (.int .i64 y.n):=(st4.cellAt _ 1 hlb (fun hf=>by have:=HRR.out.lt _ hf;omega)).trans (by first | exact HYY.out.1 | exact HYY.out.2.1 | exact HYY.out.2.2)
   have v2:W4.cell? ⟨B,2,none⟩=some (.string (bs y.s)):=(st4.cellAt _ 2 hlb (fun hf=>by have:=HRR.out.lt _ hf;omega)).trans (by first | exact HYY.out.1 | exact HYY.out.2.1 | exact HYY.out.2.2)
   have ST4:=zH st4'
   have HLX:=zH (And.intro lx (And.intro lB (And.intro v0 (And.intro v1 v2))))
   have R4:=zH r4
   clear st4' lx lB v0 v1 v2 st4 hds r4 k0 k1 k2 x0 x1 x2 c5 hbd cp
   cases p with
   | false =>
    obtain ⟨e1,e2⟩:=Hp.put_no (x:=x) HOV.out HN.out HY.out.2.2
    have HE:=zH (show Ending.returned (.bool false)=.returned (.bool (h.put v k x).2)∧HStep w hp F (h.put v k x).1 W4 from ⟨by rw [e1],by rw [e2];exact ⟨F4,R4.out,ST4.out⟩⟩)
    clear e1 e2
    go_wp2
    go_ret
    exact HE.out
   | true =>
    have ch:=hold_H1 W4 hp _ F4 R4.out 1 x _ rfl
    go_wp2_with fail
    refine ch.mono ?_
    rintro e W5 ⟨rfl,F5,r5,st5⟩
    have hs45:=st5.size
    simp only [zL] at hs45
    have hB4:=HLX.out.2.1.1
    have ST5:=zH ((ST4.out.alloc ST4.out.size (.cells x.ca 23)).call (show w.heap.size≤(W4.alloc (.cells x.ca 23)).heap.size by rw [zL];have:=ST4.out.size;omega) st5)
    have R5:=zH r5
    have v0:W5.cell? ⟨B,0,none⟩=some (.int .i64 y.k):=(st5.cellAt _ 0 (by rw [zL];omega) HLX.out.2.1.2).trans ((alc _ _ _ _ hB4).trans (by first | exact HLX.out.2.2.1 | exact HLX.out.2.2.2.1 | exact HLX.out.2.2.2.2))
    have v1:W5.cell? ⟨B,1,none⟩=some (.int .i64 y.n):=(st5.cellAt _ 1 (by rw [zL];omega) HLX.out.2.1.2).trans ((alc _ _ _ _ hB4).trans (by first | exact HLX.out.2.2.1 | exact HLX.out.2.2.2.1 | exact HLX.out.2.2.2.2))
    have v2:W5.cell? ⟨B,2,none⟩=some (.string (bs y.s)):=(st5.cellAt _ 2 (by rw [zL];omega) HLX.out.2.1.2).trans ((alc _ _ _ _ hB4).trans (by first | exact HLX.out.2.2.1 | exact HLX.out.2.2.2.1 | exact HLX.out.2.2.2.2))
    clear st5 r5 z0 z1 z2 ch
    cases g with
    | false =>
     obtain ⟨e1,e2⟩:=Hp.put_new (x:=x) HOV.out HN.out HY.out.2.2 HY.out.2.1
     have HE:=zH (show Ending.returned (.bool true)=.returned (.bool (h.put v k x).2)∧HStep w hp F (h.put v k x).1 W5 from ⟨by rw [e1],by rw [e2];exact ⟨F5,R5.out,ST5.out⟩⟩)
     clear e1 e2
     go_wp2
     go_ret
     exact HE.out
    | true =>
     have ch:=hold_H1 W5 hp _ F5 R5.out (-1) y _ rfl
     go_wp2_with fail
     refine ch.mono ?_
     rintro e W6 ⟨rfl,h6⟩
     obtain ⟨e1,e2⟩:=Hp.put_was (x:=x) HOV.out HN.out HY.out.2.2 HY.out.2.1 HY.out.1
     have HE:=zH (show Ending.returned (.bool true)=.returned (.bool (h.put v k x).2)∧HStep w hp F (h.put v k x).1 W6 from ⟨by rw [e1],by rw [e2];exact HStep.trans (ST5.out.alloc ST5.out.size _) h6⟩)
     clear e1 e2 h6
     go_wp2
     go_ret
     exact HE.out
theorem putH_none (w:World) (hp:Nat) (h:Hp) (F:Foot) (r:HR w hp h F) (v k x:V) (ho:h.of v=none) :
  Calls Tryz.prog 99 #[.pointer (some ⟨hp,0,none⟩),v.agg,k.agg,x.agg] w fun e w'=>e=.returned (.bool false)∧Bl w w':=by
 rcases r.case v with ⟨h0,co⟩ | ⟨L,c,r,hc,hn,hk,h1,co⟩
 ·clear h0 r
  go_enter Tryz.func99,Tryz.ntmps99
  go_wp2_with fail
  refine (co _ (by (repeat (first | exact qA _ | assumption | refine qB ?_ _ | refine qC ?_ | refine qD ?_ _ | refine qE ?_ _ (by simp<;>omega) _)))).mono ?_
  rintro e W1 ⟨rfl,hb1⟩
  go_wp2
  go_ret
  exact ⟨rfl,(Bl.trans (by (repeat (first | exact qA _ | assumption | refine qB ?_ _ | refine qC ?_ | refine qD ?_ _ | refine qE ?_ _ (by simp<;>omega) _))) hb1)⟩
 ·rw [ho] at h1;cases h1
theorem putH_any (w:World) (hp:Nat) (h:Hp) (F:Foot) (r:HR w hp h F) (v k x:V) :
  Calls Tryz.prog 99 #[.pointer (some ⟨hp,0,none⟩),v.agg,k.agg,x.agg] w fun e w'=>e=.returned (.bool (h.put v k x).2)∧HStep w hp F (h.put v k x).1 w':=by
 cases ho:h.of v with
 | some o=>exact putH_some w hp h F r v k x o ho
 | none =>
  have e:h.put v k x=(h,false):=by unfold Hp.put;rw [ho]
  rw [e]
  exact (putH_none w hp h F r v k x ho).mono fun e w' ⟨q1,q2⟩=>⟨q1,HStep.of_bl r q2⟩
end
end Go.Proofs.YtbbokgpklihkoaaGreatDoor.W
