/- EsH EsD EsZ -/
import Derived.Test.YtmelcflkbfhohaaGreatDoorPart8
set_option linter.unusedVariables false
set_option linter.unusedSimpArgs false
namespace Go.Proofs.YtmelcflkbfhohaaGreatDoor.W.E
section
open Go.RowKit
abbrev Hp:=Empty
abbrev HR (w:World) (c:Nat) (h:Hp) (F:FootE):Prop:=True
inductive Sc where
 | bit (b:Bool)
 | val (v:SV)
 | res (v:SV) (h:Hp)
 | row (l:List V)
structure HX where
 h:Option (Nat × Hp)
 cnt:Nat
 sc:List (Nat × Sc)
 pc:List Prop
 rc:List (SV × SV)
def HX.good (x:HX):Prop:=(∀ p∈x.pc,p)∧∀ q∈x.rc,q.1=q.2
abbrev RefsOk (h:Hp):Prop:=True
structure B0 where
 w:World
 fo:Nat→Option (List SV)
 fa:Nat→Option (Nat × Nat × Nat)
 lt:∀ b c o z,fa b=some (c,o,z)→c < w.heap.size
 I:Nat→Prop
 id:Nat→Option (Nat × Nat × Nat)
def B0.of (w:World):B0:=⟨w,fun _=>none,fun _=>none,nofun,fun _=>False,fun _=>none⟩
instance:Inhabited B0:=⟨B0.of default⟩
def Fix (w0:B0) (d:Nat):Prop:=GlB d∨∃ b o z,w0.fa b=some (d,o,z)
def FoE (w0:B0) (e:Env):Prop:=∀ b cs,w0.fo b=some cs→∃ c o z,w0.fa b=some (c,o,z)∧e b=some (c,o,z)∧BlkR e w0.w c o z (.cells cs true [] none)
structure HXAt (w0:B0) (e:Env) (b:Nat) (h:Hp) (w:World) (F:FootE) (c:Nat) (F0:FootE):Prop where
 at_:∃ z,e b=some (c,0,z)
 hr:HR w c h F0
 ok:RefsOk h
 iff:∀ d,F d↔F0 d∨Fix w0 d
 nf:∀ d,Fix w0 d→¬ F0 d
def HXR (w0:B0) (e:Env) (x:HX) (w:World) (F:FootE):Prop :=
 (Gl w0.w∧(∀ d,Fix w0 d→w.heap[d]?=w0.w.heap[d]?)∧w0.w.heap.size≤w.heap.size∧FoE w0 e)∧match x.h with
 | none=>∀ b,F b↔Fix w0 b
 | some p=>∃ c F0,HXAt w0 e p.1 p.2 w F c F0
theorem HXR.gl {w0:B0} {e:Env} {x:HX} {w:World} {F:FootE} (h:HXR w0 e x w F):Gl w:=h.1.1.keep h.1.2.2.1 fun d hd=>h.1.2.1 d (.inl hd)
theorem HXR.tab {w0:B0} {e:Env} {x:HX} {w:World} {F:FootE} (h:HXR w0 e x w F):∀ d,Fix w0 d→F d:=by
 obtain ⟨-,h⟩:=h
 split at h
 ·exact fun d hd=>(h d).2 hd
 ·obtain ⟨c,F0,h⟩:=h
  exact fun d hd=>(h.iff d).2 (.inr hd)
theorem Fix.lt {w0:B0} {d:Nat} (h:Fix w0 d) (hg:Gl w0.w):d < w0.w.heap.size:=by
 rcases h with h | ⟨b,o,z,h⟩
 ·exact hg.lt h
 ·exact w0.lt b d o z h
theorem FoE.mono {w0:B0} {e e':Env} (h:FoE w0 e) (hl:e.le e'):FoE w0 e':=fun b cs hb=>by
 obtain ⟨c,o,z,h1,h2,h3⟩:=h b cs hb
 exact ⟨c,o,z,h1,hl _ _ h2,h3.keep hl rfl⟩
def HL (w0:B0):EL HX where
 R:=HXR w0
 keep:=fun e x w w' F h hs hk=>by
  have ht:=h.tab
  refine ⟨⟨h.1.1,fun d hd=>(hk d (ht d hd)).trans (h.1.2.1 d hd),Nat.le_trans h.1.2.2.1 hs,h.1.2.2.2⟩,?_⟩
  obtain ⟨-,h⟩:=h
  split at h
  ·exact h
  ·rename_i p hp;exact p.2.elim
 lt:=fun e x w F h b hb=>by
  obtain ⟨hg,h⟩:=h
  have hf:∀ d,Fix w0 d→d < w.heap.size:=fun d hd=>Nat.lt_of_lt_of_le (hd.lt hg.1) hg.2.2.1
  split at h
  ·exact hf b ((h b).1 hb)
  ·rename_i p hp;exact p.2.elim
 mono:=fun e e' x w F h hl=>by
  refine ⟨⟨h.1.1,h.1.2.1,h.1.2.2.1,h.1.2.2.2.mono hl⟩,?_⟩
  obtain ⟨-,h⟩:=h
  split at h
  ·exact h
  ·rename_i p hp;exact p.2.elim
def nxtC {α:Type} (c:Nat) (k:Nat→Option α):Option α:=match Nat.add c 1 with
 | 0=>none
 | d + 1=>k (d + 1)
theorem nxtC_ok {α:Type} (c:Nat) (k:Nat→Option α):nxtC c k=k (c + 1):=rfl
def hbit (b:Bool) (x:HX):Option (Bool × HX) :=
 match x with
 | ⟨h,cnt,sc,pc,rc⟩=>match sc with
  | []=>some (b,⟨h,cnt,[],pc,rc⟩)
  | (k,s) :: t=>bif Nat.beq k cnt then match s with
    | .bit c=>nxtC cnt fun n=>some (c,⟨h,n,t,(b=c) :: pc,rc⟩)
    | _=>none
   else nxtC cnt fun n=>some (b,⟨h,n,(k,s) :: t,pc,rc⟩)
theorem hbit_ok {w0:B0} (b:Bool) (x:HX) (b':Bool) (x':HX) (h:hbit b x=some (b',x')) (hg:x'.good):x.good∧b=b'∧∀ e w F,(HL w0).R e x w F→(HL w0).R e x' w F:=by
 obtain ⟨h0,cnt,sc,pc,rc⟩:=x
 unfold hbit at h
 cases sc with
 | nil=>cases h;exact ⟨hg,rfl,fun _ _ _ h=>h⟩
 | cons p t =>
  obtain ⟨k,s⟩:=p
  simp only [nxtC_ok] at h
  cases hb:Nat.beq k cnt with
  | true =>
   rw [hb,cond_true] at h
   cases s with
   | bit c =>
    cases h
    exact ⟨⟨fun p hp=>hg.1 p (List.mem_cons_of_mem _ hp),hg.2⟩,hg.1 _ (List.mem_cons_self ..),fun _ _ _ h=>h⟩
   | _=>cases h
  | false=>rw [hb,cond_false] at h;cases h;exact ⟨hg,rfl,fun _ _ _ h=>h⟩
def hvalF (o:Op) (v:Option SV) (x:HX):Option (SV × HX) :=
 match x with
 | ⟨h,cnt,sc,pc,rc⟩=>match sc with
  | []=>match v with
   | some v=>some (v,⟨h,cnt,[],pc,rc⟩)
   | none=>none
  | (k,s) :: t=>bif Nat.beq k cnt then match s with
    | .val c=>nxtC cnt fun n=>some (c,⟨h,n,t,(v=some c) :: pc,rc⟩)
    | _=>none
   else match v with
    | some v=>nxtC cnt fun n=>some (v,⟨h,n,(k,s) :: t,pc,rc⟩)
    | none=>none
def hsame (a b:SV) (x:HX):Option HX:=match x with
 | ⟨h,cnt,sc,pc,rc⟩=>some ⟨h,cnt,sc,pc,(a,b) :: rc⟩
def lookF (P:Program) (fo:Nat→Option (List SV)) (tm:T SV) (o:Op):Option SV:=match o with
 | .load t x=>match evx tm x with
  | some (.ptr b off)=>match fo b with
   | some cs=>match aggT P t with
    | some false=>cs[off]?
    | _=>none
   | none=>none
  | _=>none
 | _=>none
def hvalW (P:Program) (fo:Nat→Option (List SV)):VF HX:=⟨hvalF,hsame,lookF P fo⟩
theorem lookF_ok {w0:B0} {tm:T SV} {o:Oper} {v:SV} (h:lookF Tryz.prog w0.fo tm o.op=some v) {e:Env} {x:HX} {w:World} {F:FootE} {a:Go.Act} (hR:(HL w0).R e x w F) (hs:AS e tm a o.op.operands.toList):YieldsV Tryz.prog o a w e v:=by
 unfold lookF at h
 split at h
 ·rename_i t x0 hop
  split at h
  ·rename_i b off hx0
   split at h
   ·rename_i cs hcs
    split at h
    ·rename_i hag
     obtain ⟨c,of,z,h1,h2,h3⟩:=hR.1.2.2.2 b cs hcs
     have hB:BlkR e w c of z (.cells cs true [] none):=h3.keep (.refl e) (hR.1.2.1 c (.inr ⟨b,of,z,h1⟩))
     have hp:=hs x0 (by rw [hop];simp [Op.operands]) _ hx0
     refine yv (s:=Instr.loadAt t (a.eval x0)) (by simp only [execOp,hop]) ?_
     generalize a.eval x0=u0 at hp
     cases hp with
     | ptr hb =>
      rw [h2] at hb;cases hb
      obtain ⟨r,k1,k2,k3⟩:=cells_at hB h
      refine ⟨r,?_,k2⟩
      simp [Instr.loadAt,Instr.sureAddr,loadVar,Sem.run_bind,run_aggT hag,load,Sem.run,k1]
    ·cases h
   ·cases h
  ·cases h
 ·cases h
theorem hval_ok {w0:B0}:ValOk Tryz.prog (HL w0) HX.good (hvalW Tryz.prog w0.fo):=by
 refine ⟨fun o v x v' x' h hg=>?_,fun a b x x' h hg=>by cases h;exact ⟨⟨hg.1,fun q hq=>hg.2 q (List.mem_cons_of_mem _ hq)⟩,hg.2 _ (List.mem_cons_self ..),fun _ _ _ h=>h⟩,fun tm o v h e x w F a hR hs=>lookF_ok h hR hs⟩
 replace h:hvalF o v x=some (v',x'):=h
 obtain ⟨h0,cnt,sc,pc,rc⟩:=x
 unfold hvalF at h
 cases sc with
 | nil=>cases v<;>cases h;exact ⟨hg,rfl,fun _ _ _ h=>h⟩
 | cons p t =>
  obtain ⟨k,s⟩:=p
  simp only [nxtC_ok] at h
  cases hb:Nat.beq k cnt with
  | true =>
   rw [hb,cond_true] at h
   cases s with
   | val c =>
    cases h
    exact ⟨⟨fun p hp=>hg.1 p (List.mem_cons_of_mem _ hp),hg.2⟩,hg.1 _ (List.mem_cons_self ..),fun _ _ _ h=>h⟩
   | _=>cases h
  | false=>rw [hb,cond_false] at h;cases v<;>cases h;exact ⟨hg,rfl,fun _ _ _ h=>h⟩
end
section
set_option maxRecDepth 100000
open Go.RowKit
def pl9:T (List Nat):=(.n .e none (.n (.n .e (some [0,2,8,10,12,5,7,15,17,18,20,22,24,27,29,31,33,35,37]) .e) none .e))
def pl10:T (List Nat):=(.n (.n .e none (.n .e (some [0,2,4,6,8,10,12,14,16,18,20,23,25]) .e)) none (.n (.n .e (some [0,2,4,6,8,11,13,15,17,19,21,23,25]) .e) none .e))
def pl11:T (List Nat):=(.n .e none (.n .e none (.n .e (some [0,2,4,6,8,11,13,15,17,19,21,23]) .e)))
def pl13:T (List Nat):=(.n (.n .e none (.n .e (some [0,2,4,6,8,11,13,15,17,19,21,23,25,27,29]) .e)) none (.n .e none (.n .e (some [0,2,4,6,8,10,12,14,16,18,20,22,25,27]) .e)))
def pl16:T (List Nat):=(.n (.n (.n .e none (.n .e (some [0,2,4,6,8,11,13,15,17,19]) .e)) none (.n .e none (.n .e (some [0,2,4,6,8,10,12,15,17,19,21,23,25]) .e))) none .e)
def pl20:T (List Nat):=(.n (.n (.n .e (some [0,2,4,6,8,10,12,14,16,18,20,22,24,26,28,30,32,34,36,38,40,42,44,46,52,58,64,66,68,74,80,86,92,98,104,110,116,122,128,134,140,146,152,158,164,166,168,170,172,174,176,178,180,182,184,186,188,190,192,194,196,198,200,202,204,206,208,210,212,214,216,218,222,224,49,50,55,56,61,62,71,72,77,78,83,84,89,90,95,96,101,102,107,108,113,114,119,120,125,126,131,132,137,138,143,144,149,150,155,156,161,162,221,227,229]) .e) none .e) none .e)
def pl23:T (List Nat):=(.n (.n (.n .e none (.n .e (some [0,2,4,6,8,10,12,14,16,19,21,23]) (.n .e none (.n .e (some [0,2,4,6,8,10,12,14,16,19,21,23,25,27,29,31,33,35,37,39,41]) .e)))) none (.n (.n .e none (.n .e (some [0,2,4,6,8,10,12,14,16,19,21,23,25,27]) .e)) none (.n .e none (.n (.n .e (some [0,2,4,6,8,10,12,14,17,19,21,23,25]) .e) none .e)))) (some [0,2,4,6,8,10,12,14,16,18,20,22,24,26,28,30,32,34,36,38,40,43,45,47,49]) (.n (.n (.n (.n .e none (.n .e (some [0,2,4,6,9,11,13,15,17,19]) .e)) none .e) none (.n .e none (.n (.n .e (some [0,2,4,6,8,10,13,15,17,19,21,23,25,27]) .e) none .e))) none .e))
def pl24:T (List Nat):=(.n .e none (.n (.n (.n .e (some [1,3,5,7,9,11,13,15,17,18,20,22,24,27,29,31,33,35,37,39,41,43,45]) .e) none .e) none .e))
def pl25:T (List Nat):=(.n (.n (.n .e (some [0,2,4,6,8,11,13,15,17,19,21,23]) .e) none (.n (.n .e none (.n .e (some [0,2,4,6,8,11,13,15,17,19,21]) .e)) (some [0,2,4,6,9,11,13,15]) (.n (.n .e (some [0,2,4,6,8,10,12,14,16,18,20,22,24,27,29,31,33,35,37]) .e) none .e))) none (.n (.n (.n .e (some [0,2,4,6,9,11,13,15]) .e) none (.n .e none (.n .e (some [0,2,4,6,8,11,13,15,17,19,21]) (.n .e (some [0,2,4,6,8,10,12,14,16,18,20,22,24,27,29,31,33,35,37]) .e)))) none (.n .e none (.n .e (some [0,2,4,6,8,11,13,15,17,19,21,23]) (.n .e (some [0,2,4,6,8,11,13,15,17,19,21]) .e)))))
def pl29:T (List Nat):=(.n .e none (.n .e (some [0,2,4,6,9,11,13,15,17,19,21,23,25]) .e))
def pl30:T (List Nat):=(.n (.n (.n .e (some [0,2,4,6,8,10,12,14,16,18,20,23,25,27,29,31]) .e) (some [0,2,4,6,8,11,13,15,17,19,21,23,25,27,29]) .e) none (.n (.n .e (some [0,2,4,6,9,11,13,15,17,19,21,23,25,27]) .e) none (.n .e none (.n .e none (.n .e (some [0,2,4,6,9,11,13,15,17,19,21,23,25]) .e)))))
def pl41:T (List Nat):=(.n .e none (.n .e (some [0,3,5,7,8,10,13,15,17,19,21,23,25]) .e))
def pl45:T (List Nat):=(.n .e none (.n .e (some [1,3,5,7,8,10,12,15,17,19,21,23,25,27,29,31]) .e))
def pl51:T (List Nat):=(.n .e none (.n .e (some [1,3,5,6,9,11,13,15,17,19,21,23,25,27]) .e))
def pl52:T (List Nat):=(.n (.n .e (some [0,2,5,7,9,11,13,15,17,18,20,22,25,27,29,31,33,35,37]) .e) none .e)
def pl54:T (List Nat):=(.n (.n (.n .e (some [0,2,4,6,8,11,13,15,17]) .e) none .e) none .e)
def pl58:T (List Nat):=(.n .e none (.n .e (some [1,3,5,6,9,11,13,15,17,19,21,23,25,27,28,31,33,35,37,39,41,43]) .e))
def pl59:T (List Nat):=(.n .e none (.n .e (some [1,3,5,6,8,11,13,15,17,19,21,22,24,27,29,31,33,35,37,39,41]) .e))
def pl61:T (List Nat):=(.n .e none (.n (.n .e (some [0,2,5,7,9,11,13]) .e) (some [1,3,5,7,8,11,13,15,17,19,21,23]) .e))
def pl68:T (List Nat):=(.n .e none (.n .e none (.n .e (some [0,2,4,6,8,10,12,14,16,18,20,22,25,27,29,31]) .e)))
def pl69:T (List Nat):=(.n (.n (.n .e none (.n .e (some [0,2,4,6,8,11,13,15,17,19,21]) .e)) none .e) (some [0,2,4,6,8,10,12,14,16,18,20,22,24,26,29,31,33]) (.n (.n .e none (.n .e (some [0,2,4,6,8,10,12,14,16,19,21]) .e)) none .e))
def pl70:T (List Nat):=(.n .e none (.n (.n .e (some [0,2,4,6,8,11,13]) .e) none (.n .e (some [0,2,4,6,8,10,13,15]) .e)))
def pl71:T (List Nat):=(.n (.n (.n .e none (.n .e (some [0,2,4,6,9,11,13]) .e)) (some [0,2,4,6,9,11,13,14,16,19,21]) .e) none (.n (.n .e (some [0,2,4,6,9,11]) (.n .e (some [0,2,4,6,8,11,13]) .e)) none .e))
def pl79:T (List Nat):=(.n (.n .e (some [0,2,4,7,9]) .e) none .e)
def pl80:T (List Nat):=(.n (.n .e (some [0,2,4,6,8,10,12,14,16,19,21]) (.n .e none (.n .e (some [0,2,4,6,8,12,14,16,18,22,24,11,21,27,29]) .e))) none (.n .e (some [0,4,6,8,10,12,14,16,18,20,22,26,28,30,3,25,33,35,37]) .e))
def pl81:T (List Nat):=(.n (.n .e (some [0,2,4,6,9,11]) .e) none .e)
def pl82:T (List Nat):=(.n .e none (.n .e (some [0,4,6,10,12,3,9,15,17]) .e))
def pl83:T (List Nat):=(.n (.n .e none (.n .e (some [0,2,4,7,9]) .e)) none (.n .e (some [0,4,6,10,12,3,9,15,17]) .e))
def pl87:T (List Nat):=(.n .e none (.n .e (some [0,4,6,8,10,12,14,16,18,20,22,26,28,30,3,25,33,35,37]) (.n .e (some [0,2,4,6,9,11]) .e)))
def pl88:T (List Nat):=(.n (.n .e none (.n .e (some [0,2,4,8,7,11]) .e)) none .e)
def pl89:T (List Nat):=(.n (.n .e (some [0,2,4,6,8,11,13,15,17,19,21,23,25,27]) (.n .e (some [0,2,4,8,7,11]) .e)) none .e)
def pl90:T (List Nat):=(.n (.n (.n .e none (.n .e (some [0,2,5,7,9,11,13,15]) .e)) none (.n .e none (.n .e (some [0,2,4,8,7,11]) .e))) none (.n .e (some [0,4,6,10,3,9,13,15]) .e))
def pl91:T (List Nat):=(.n (.n .e (some [0,2,4,6,8,10,22,13,15,17,19,21,25]) .e) none .e)
def pl92:T (List Nat):=(.n (.n .e (some [0,2,4,6,9,11]) .e) none (.n .e (some [0,4,6,10,12,3,9,15,17]) .e))
def pl93:T (List Nat):=(.n (.n .e (some [0,2,4,8,7,11]) .e) none .e)
def pl94:T (List Nat):=(.n (.n .e (some [0,2,4,6,8,11,13,15,17,19,21]) .e) none .e)
def pl95:T (List Nat):=(.n (.n .e (some [0,2,4,20,7,9,11,13,14,16,18,23,25,27]) .e) none .e)
def pl98:T (List Nat):=(.n .e none (.n (.n .e (some [0,2,6,8,22,5,11,13,15,16,18,20,25,27,29]) .e) none .e))
def pl105:T (List Nat):=(.n .e none (.n .e (some [0,2,5,7,9,11,13]) .e))
def pl106:T (List Nat):=(.n .e (some [0,2,4,6,9,11,13,15,17]) .e)
def pl111:T (List Nat):=(.n .e (some [0,3,5,7,9]) .e)
def pl112:T (List Nat):=(.n (.n (.n .e (some [0,2,4,7,9,11]) .e) none (.n .e (some [0,3,5,7,9]) .e)) none (.n .e (some [0,4,6,8,10,12,14,16,18,20,3,23,25]) .e))
def pl113:T (List Nat):=(.n .e (some [0,2,5,7,9]) .e)
def pl114:T (List Nat):=(.n (.n .e (some [0,2,4,6,8,10,16,18,13,15,21,23]) (.n .e (some [0,2,4,6,8,10,12,18,20,15,17,23,25]) .e)) none .e)
def pl117:T (List Nat):=(.n .e (some [0,3,5,7,9]) .e)
def pl118:T (List Nat):=(.n .e (some [0,2,4,6,8,12,14,11,17,19]) (.n .e (some [0,2,4,7,9,11,13]) .e))
def pl119:T (List Nat):=(.n .e (some [0,2,4,7,9,11]) .e)
def pl120:T (List Nat):=(.n .e none (.n .e (some [0,2,4,6,8,10,12,14,16,18,21,23,25,27,29]) .e))
def pl121:T (List Nat):=(.n .e (some [0,2,4,6,8,12,14,11,17,19]) (.n .e (some [0,2,6,5,9,11,13]) .e))
def pl122:T (List Nat):=(.n .e (some [0,2,5,7,9,11]) .e)
def pl123:T (List Nat):=(.n (.n .e (some [0,2,4,8,7,11,13]) .e) none .e)
def pl124:T (List Nat):=(.n (.n .e (some [0,3,5,7,9]) (.n .e (some [0,3,5,7,9]) .e)) none .e)
def pl125:T (List Nat):=(.n .e (some [0,2,4,6,9,11]) .e)
def pl126:T (List Nat):=(.n (.n .e none (.n .e (some [0,3,5,7,9]) .e)) none .e)
def pl127:T (List Nat):=(.n .e (some [0,2,4,6,8,11,13,15,17,19,21,23,25,27,29]) .e)
def pl130:T (List Nat):=(.n .e none (.n .e (some [0,3,5,7,9]) .e))
def pl131:T (List Nat):=(.n (.n .e none (.n .e (some [0,2,4,7,9,11,13,15,17]) .e)) none .e)
def pl133:T (List Nat):=(.n .e (some [0,3,5,7,9]) .e)
def pl135:T (List Nat):=(.n (.n .e none (.n .e (some [0,2,4,6,8,11,13,15,17,19,21,23,25,27,29]) .e)) none (.n .e none (.n .e (some [0,2,4,6,8,10,12,14,16,18,20,22,25,27]) .e)))
def pl136:T (List Nat):=(.n .e none (.n .e none (.n .e none (.n .e (some [0,2,5,7,9,11]) .e))))
def pl138:T (List Nat):=(.n (.n (.n .e (some [0,2,4,6,8,10,12,14,16,18,21,23,25,27,29]) .e) none .e) none (.n (.n .e none (.n .e (some [0,2,4,6,8,10,12,14,17,19,21]) .e)) none (.n (.n .e (some [0,2,4,6,8,10,13,15,17]) .e) none .e)))
def pl139:T (List Nat):=(.n (.n (.n .e (some [0,2,4,6,9,11,13]) (.n .e (some [0,2,4,6,8,11,13,15,17,19,21]) .e)) none (.n .e none (.n .e (some [0,2,4,7,9,11,13,15,17]) .e))) (some [0,2,4,18,7,9,11,12,14,16,21,23,25]) (.n .e none (.n .e none (.n .e (some [0,2,4,8,7,11,13,15]) .e))))
def pl140:T (List Nat):=(.n .e none (.n (.n .e (some [0,2,4,6,8,11,13,15]) .e) none .e))
def pl141:T (List Nat):=(.n .e none (.n .e (some [0,2,4,6,8,11,13,15,17,19,21]) .e))
def pl142:T (List Nat):=(.n .e (some [0,2,4,18,7,9,11,12,14,16,21,23,25]) .e)
def pl144:T (List Nat):=(.n .e none (.n .e none (.n .e (some [0,2,4,6,8,10,12,14,16,18,20,22,24,26,28,31,33,35,37,39,41,43,45,47,49]) (.n .e (some [0,2,4,6,8,10,13,15,17,19,21,23,25]) .e))))
def pl146:T (List Nat):=(.n .e (some [0,3,5,7,9]) .e)
def pl147:T (List Nat):=(.n .e (some [0,2,4,6,8,10,16,18,13,15,21,23,25]) .e)
def pl150:T (List Nat):=(.n .e none (.n .e (some [0,2,4,6,8,10,12,14,16,18,20,22,25,27,29,31,33,35,37,39,41]) .e))
def pl152:T (List Nat):=(.n (.n .e (some [0,2,4,6,8,10,13,15,17,19,21,23,25,27]) .e) none (.n .e none (.n .e (some [0,2,5,7,9,11]) .e)))
def pl156:T (List Nat):=(.n .e none (.n (.n .e (some [0,2,4,6,8,10,12,14,16,19,21]) (.n .e (some [0,2,5,7,9,11,13,15,17]) .e)) none .e))
def pl157:T (List Nat):=(.n .e none (.n .e none (.n .e none (.n .e (some [0,2,4,6,8,10,12,14,16,18,21,23,25,27,29]) .e))))
def pl158:T (List Nat):=(.n .e (some [0,2,4,6,9,11,13]) .e)
def pl159:T (List Nat):=(.n .e (some [0,2,5,7,9]) .e)
def pl160:T (List Nat):=(.n .e none (.n .e (some [0,2,4,7,9]) .e))
def pl161:T (List Nat):=(.n .e (some [0,3,5,7,9]) .e)
def pl162:T (List Nat):=(.n .e none (.n (.n .e (some [0,2,5,7,9,11,13]) .e) (some [0,2,4,6,8,11,13,15,17,19,21,23,25,27,29]) (.n .e (some [0,2,4,6,8,10,12,14,16,18,34,21,23,25,27,28,30,32,37,39,41]) .e)))
def pl163:T (List Nat):=(.n .e none (.n .e (some [0,2,4,6,8,10,12,14,16,18,20,22,24,26,28,30,33,35,37,39,41,43,45,47]) .e))
def pl174:T (List Nat):=(.n .e none (.n .e (some [0,2,4,6,9,11,13,15]) .e))
def pl175:T (List Nat):=(.n .e none (.n .e (some [0,2,4,6,8,10,12,15,17,19,21,23]) .e))
def pl177:T (List Nat):=(.n .e none (.n .e none (.n .e (some [0,2,5,7,9,11]) .e)))
def pl179:T (List Nat):=(.n (.n (.n .e (some [0,2,4,6,9,11,13,15,17,19]) (.n .e (some [0,2,4,6,8,10,12,14,17,19,21,23,25,27,29,31,33]) .e)) none (.n (.n .e (some [0,2,4,7,9,11,13,15,16,18,20,23]) .e) none (.n .e (some [0,2,4,6,8,10,12,14,16,18,20,22,24,26,28,44,31,33,35,37,38,40,42,47,49,51]) .e))) none (.n .e none (.n (.n .e (some [0,2,4,6,8,11,13,15,17,19,21,23,25,27]) .e) none .e)))
def pl180:T (List Nat):=(.n .e none (.n (.n (.n .e (some [0,2,4,6,8,11,13,15,17,19,21,23,25,27]) .e) none .e) none .e))
def pl183:T (List Nat):=(.n (.n (.n (.n .e none (.n .e (some [0,2,4,6,8,11,13]) .e)) none .e) none (.n .e none (.n (.n .e (some [0,2,4,6,8,11,13]) .e) none .e))) none (.n .e (some [0,4,6,8,10,12,14,16,18,20,3,23,25]) (.n (.n .e (some [0,3,5,7,9,11]) (.n .e (some [0,2,4,6,8,11,13]) .e)) none (.n .e none (.n .e (some [0,3,5,7,9]) .e)))))
def pl184:T (List Nat):=(.n .e none (.n .e none (.n .e (some [0,2,5,7,9]) .e)))
def pl187:T (List Nat):=(.n (.n .e (some [0,2,4,6,8,10,14,16,34,13,19,21,23,25,27,28,30,32,37,39,41]) .e) (some [0,2,4,6,9,11,13]) (.n .e (some [0,4,6,8,10,12,14,16,18,20,24,26,3,23,29,31,33]) .e))
def pl189:T (List Nat):=(.n .e none (.n .e (some [0,2,4,6,8,18,11,13,15,17,21,22,25,27,29]) .e))
def pl193:T (List Nat):=(.n .e (some [0,2,4,6,8,10,13,15,17,19,21,23,25]) .e)
def pl196:T (List Nat):=(.n (.n .e (some [0,2,4,6,8,11,13,15,17,19,21]) .e) none (.n (.n .e (some [0,2,4,6,9,11,13,15,17,19,21,23,25]) .e) none .e))
def pl197:T (List Nat):=(.n (.n (.n .e (some [0,2,4,7,9]) .e) (some [0,3,5,7,9,11,13,14,16,18,21,23]) .e) (some [0,2,4,20,7,9,11,13,14,16,18,23,25,27]) .e)
def pl207:T (List Nat):=(.n .e none (.n .e (some [0,2,4,6,8,11,13,15,17,19]) .e))
def pl209:T (List Nat):=(.n .e none (.n .e (some [1,3,5,7,8,10,13,15,17,19,21,23,25]) (.n .e (some [0,2,4,6,8,10,12,14,17,19]) .e)))
def pl210:T (List Nat):=(.n (.n (.n .e none (.n (.n .e (some [0,2,5,7,9,11]) .e) none .e)) (some [0,2,4,6,8,10,12,14,16,18,20,22,24,26,28,30,32,35,37]) (.n .e none (.n (.n .e (some [0,2,4,8,7,11,13]) .e) none .e))) none (.n (.n (.n .e none (.n .e (some [0,2,4,6,8,10,12,16,18,15,21,23,25,27]) .e)) none .e) (some [0,2,4,6,8,10,12,14,17,19]) (.n .e none (.n (.n .e (some [0,2,4,6,9,11,13,15,17,19]) .e) (some [0,2,4,6,8,10,12,14,16,18,20,22,25,27,29,31,33,35,37]) .e))))
def pl212:T (List Nat):=(.n .e none (.n .e (some [0,2,4,6,9,11,13]) .e))
def pl214:T (List Nat):=(.n .e none (.n .e (some [0,3,5,7,9]) .e))
def pl215:T (List Nat):=(.n .e none (.n .e none (.n .e (some [0,3,5,7,9,11]) .e)))
def pl216:T (List Nat):=(.n (.n .e (some [0,3,5,7,9,11]) .e) none (.n .e none (.n .e (some [0,3,5,7,9,11]) .e)))
def pl217:T (List Nat):=(.n .e (some [0,2,4,6,8,10,12,26,15,17,19,20,22,24,29,31,33]) .e)
def pl218:T (List Nat):=(.n .e (some [0,2,4,6,8,10,12,14,17,19,21]) .e)
def pl220:T (List Nat):=(.n (.n .e none (.n .e (some [0,2,4,8,10,12,16,18,20,7,15,23,25,27,29]) .e)) none (.n .e none (.n (.n .e none (.n .e (some [0,2,4,6,8,11,13]) .e)) none .e)))
def pl222:T (List Nat):=(.n .e (some [0,2,4,6,8,11,13,15,17,19,21,23,25,27,29]) .e)
def pl230:T (List Nat):=(.n .e (some [0,2,5,7,9,11]) .e)
def pl232:T (List Nat):=(.n .e (some [0,3,5,7,9]) .e)
def pl233:T (List Nat):=(.n (.n (.n .e none (.n .e none (.n .e (some [1,3,5,7,9,11,12,14,16,18,20,22,25,27,29,31,33,35,37,39]) .e))) none .e) none (.n (.n .e none (.n .e (some [1,3,5,7,9,11,12,14,16,18,20,22,25,27,29,31,33,35,37,39]) .e)) none .e))
def pl234:T (List Nat):=(.n .e none (.n (.n .e none (.n .e (some [1,3,5,7,9,11,12,14,16,18,20,22,25,27,29,31,33,35,37,39]) .e)) none .e))
def pl252:T (List Nat):=(.n .e none (.n .e (some [1,3,5,7,9,11,12,14,16,18,20,23,25,27,29,31,33]) .e))
def pl253:T (List Nat):=(.n .e none (.n .e (some [1,3,5,7,9,11,13,15,17,18,20,23,25,27,29,31,33,35,37]) .e))
def pl256:T (List Nat):=(.n .e none (.n .e (some [0,2,4,6,8,10,12,14,16,22,24,19,21,27,29]) .e))
def pl257:T (List Nat):=(.n .e none (.n (.n .e none (.n .e (some [0,3,5,7,9,10,12,14,16,18,21,23,25,27,29,31]) .e)) none (.n (.n .e (some [0,2,4,6,8,10,12,14,16,18,22,21,25,27]) .e) none (.n .e (some [0,3,5,7,9,10,12,14,16,18,21,23,25,27,29,31]) .e))))
def pl258:T (List Nat):=(.n (.n (.n (.n .e none (.n .e (some [0,2,4,6,9,11,13,15,17,19,21,23]) .e)) none (.n (.n .e (some [0,2,4,6,8,10,12,15,17,19,21,23,25,27]) .e) none .e)) none (.n (.n (.n .e (some [0,2,4,6,9,11,13,15,17,19]) (.n .e (some [0,2,4,6,8,10,12,14,16,18,20,23,25]) .e)) none .e) (some [0,2,4,6,8,10,12,14,16,18,20,22,24,26,30,32,34,36,29,39,41,43,45,47]) (.n (.n .e (some [0,2,4,6,9,11,13,15,17,19,21,23,25,27]) .e) none .e))) none (.n (.n (.n (.n .e none (.n .e (some [0,2,4,6,10,12,14,20,9,17,19,23]) .e)) none .e) none (.n .e none (.n .e none (.n .e (some [0,2,4,6,8,10,12,14,16,18,21,23,25,27,29]) .e)))) none (.n (.n .e none (.n .e none (.n .e (some [0,2,4,7,9,11,13]) .e))) none .e)))
def pl259:T (List Nat):=(.n (.n .e none (.n (.n (.n .e (some [1,3,5,7,9,11,13,15,17,19,20,22,24,26,29,31,33,35,37,39,41,43]) .e) none .e) none .e)) none (.n .e none (.n .e (some [0,2,4,6,9,11,13,15]) .e)))
def pl260:T (List Nat):=(.n (.n (.n (.n (.n .e none (.n .e (some [0,2,4,6,8,10,12,14,18,20,22,24,26,28,30,17,33,35,37,39]) .e)) none .e) none .e) none (.n (.n .e none (.n .e none (.n .e (some [0,2,4,6,8,11,13,15,17,19]) .e))) none .e)) none (.n (.n .e none (.n .e (some [0,2,4,6,8,11,13,15,17,19]) .e)) none (.n (.n .e (some [0,2,4,6,8,11,13,15,17,19]) .e) none (.n (.n .e none (.n .e (some [0,2,4,6,8,11,13,15,17,19,21,23,25]) .e)) none (.n (.n .e (some [0,2,4,6,8,10,12,14,18,20,22,24,26,28,30,17,33,35,37,39]) .e) none .e)))))
def pl263:T (List Nat):=(.n .e none (.n .e (some [0,2,4,6,8,11,13,15,17,19,21]) .e))
def pl265:T (List Nat):=(.n .e none (.n .e (some [1,3,5,7,9,11,13,15,17,18,20,23,25,27,29,31,33,35,37,38,40,42,44,46,48,50,52,54,56,59,61,63,65]) .e))
def pl267:T (List Nat):=(.n .e none (.n .e (some [0,2,4,6,9,11,13,15,17,19,21]) .e))
def pl268:T (List Nat):=(.n (.n .e none (.n .e (some [0,2,4,6,8,10,12,14,16,18,20,22,24,26,28,30,32,35,37,39,41,43,45]) .e)) none (.n (.n .e (some [0,2,4,6,8,10,12,14,16,18,20,23,25,27]) .e) none (.n .e (some [0,2,4,6,8,10,12,14,16,18,20,22,24,26,28,30,32,35,37,39,41,43,45]) .e)))
def pl269:T (List Nat):=(.n (.n (.n .e (some [0,2,4,6,8,10,12,14,16,18,20,22,26,28,30,32,34,25,37,39,41,43]) .e) none (.n .e (some [0,2,4,6,8,10,12,14,16,19,21]) .e)) none (.n (.n .e (some [0,2,4,6,8,10,12,14,16,18,20,22,26,28,30,32,34,25,37,39,41,43]) .e) none .e))
def pl270:T (List Nat):=(.n (.n (.n .e none (.n (.n .e none (.n .e (some [0,2,4,7,9,11]) .e)) none (.n (.n .e (some [0,2,4,6,9,11,13,15,17,19,21,23,25,27,29,31]) .e) none .e))) none (.n .e (some [0,2,4,6,8,10,12,14,16,19,21]) .e)) none (.n (.n (.n .e (some [0,2,4,7,9,11]) .e) (some [0,2,4,6,8,10,12,14,16,18,21,23,25,27,29]) .e) none (.n (.n .e (some [0,2,4,6,8,12,11,15,17]) .e) none (.n .e none (.n (.n .e (some [0,2,4,7,9,11]) .e) none .e)))))
def pl272:T (List Nat):=(.n (.n .e none (.n (.n .e (some [0,2,4,6,8,10,13,15,17,19,21,23,25,27,29,31,33]) .e) none .e)) none (.n .e none (.n .e (some [0,2,4,6,9,11,13]) .e)))
def pl273:T (List Nat):=(.n (.n (.n .e (some [0,2,4,6,9,11,13]) (.n .e (some [0,2,4,6,8,10,12,14,16,19,21]) .e)) none .e) none (.n (.n (.n .e (some [0,2,4,6,9,11,13,15,17,19,21,23,25,27]) .e) none .e) none .e))
def pl276:T (List Nat):=(.n .e none (.n .e none (.n .e (some [0,2,4,6,8,11,13,15]) .e)))
def pl277:T (List Nat):=(.n .e none (.n (.n .e none (.n (.n .e (some [0,2,4,6,8,11,13,15,17,19,21,23,25]) .e) none .e)) none (.n (.n (.n .e (some [1,3,4,6,8,10,12,14,16,18,20,22,24,26,28,31,33,35,37]) .e) none .e) (some [0,2,4,6,8,11,13,15]) .e)))
def pl279:T (List Nat):=(.n (.n (.n (.n (.n .e none (.n .e (some [0,2,4,6,8,10,12,14,16,18,20,22,26,28,30,32,34,25,37,39,41,43]) .e)) none .e) none (.n (.n .e (some [0,2,4,6,8,11,13,15,17,19,21,23,25]) .e) none (.n .e (some [0,2,4,7,9,11,13]) .e))) none (.n .e none (.n .e none (.n .e none (.n .e (some [0,2,4,6,8,10,12,15,17,19]) .e))))) none (.n (.n (.n (.n .e none (.n .e (some [0,2,4,6,9,11,13,15,17,19,21]) .e)) none (.n .e none (.n .e (some [1,3,5,7,9,11,13,15,17,18,20,22,24,26,28,31,33,35,37,39,41,43,45,47]) .e))) none (.n (.n .e none (.n .e (some [0,2,4,6,8,10,12,14,16,18,21,23,25,27,29,31]) .e)) (some [0,2,4,6,8,10,12,14,16,18,21,23,25,27,29]) .e)) none (.n (.n (.n .e none (.n .e (some [0,2,4,6,8,10,12,14,16,18,20,22,25,27,29,31,33]) .e)) none .e) none .e)))
def pl280:T (List Nat):=(.n (.n .e none (.n .e (some [0,2,4,6,8,10,12,14,16,19,21]) (.n .e (some [0,2,6,8,10,12,14,16,18,20,5,23,25]) .e))) none (.n (.n .e none (.n .e (some [0,2,4,6,8,10,14,16,13,19,21]) .e)) none .e))
def pl281:T (List Nat):=(.n (.n .e none (.n .e (some [0,2,4,6,8,10,12,14,16,18,21,23]) (.n .e (some [0,2,4,6,8,10,12,14,16,18,21,23,25,27]) .e))) none .e)
def pl282:T (List Nat):=(.n (.n (.n (.n .e none (.n .e (some [0,2,4,7,9,11,13,15,17]) .e)) none .e) none .e) none (.n .e (some [1,3,5,7,9,11,12,14,16,18,20,23,25,27,29,31,33]) .e))
def pl283:T (List Nat):=(.n .e none (.n .e none (.n .e (some [0,2,4,6,8,10,12,14,17,19,21,23,25,27,29,31,33]) .e)))
def planT:T (T (List Nat)):=(.n (.n (.n (.n (.n (.n (.n .e (some pl126) .e) none (.n (.n .e (some pl222) .e) (some pl94) (.n .e (some pl158) .e))) (some pl30) (.n (.n .e none (.n .e (some pl174) .e)) none (.n .e none (.n .e (some pl142) (.n .e (some pl270) .e))))) none (.n (.n (.n .e (some pl118) .e) (some pl54) (.n (.n .e (some pl214) .e) none (.n .e (some pl150) .e))) none (.n (.n (.n .e (some pl230) .e) none .e) none (.n .e (some pl70) .e)))) none (.n (.n (.n (.n .e (some pl122) .e) (some pl58) (.n (.n .e (some pl218) .e) (some pl90) (.n .e none (.n .e (some pl282) .e)))) none (.n (.n (.n .e (some pl234) .e) (some pl106) .e) none (.n .e none (.n .e (some pl138) .e)))) (some pl10) (.n (.n (.n .e (some pl114) .e) none (.n (.n .e (some pl210) .e) (some pl82) (.n .e (some pl146) .e))) none (.n (.n .e (some pl98) (.n .e (some pl162) .e)) none (.n .e none (.n .e (some pl130) (.n .e (some pl258) .e))))))) none (.n (.n (.n (.n (.n (.n .e (some pl252) .e) (some pl124) .e) none (.n (.n .e (some pl220) .e) (some pl92) (.n .e (some pl156) .e))) none (.n .e none (.n .e none (.n .e (some pl140) (.n .e (some pl268) .e))))) none (.n (.n (.n .e none (.n .e (some pl180) .e)) (some pl52) (.n (.n .e (some pl212) .e) none (.n .e none (.n .e (some pl276) .e)))) (some pl20) (.n .e none (.n (.n .e (some pl196) .e) (some pl68) (.n .e none (.n .e (some pl260) .e)))))) none (.n (.n (.n (.n .e (some pl120) (.n .e (some pl184) .e)) none (.n (.n .e (some pl216) .e) (some pl88) (.n .e (some pl152) (.n .e (some pl280) .e)))) (some pl24) (.n (.n (.n .e (some pl232) .e) none .e) none (.n .e none (.n .e (some pl136) .e)))) none (.n (.n (.n .e (some pl112) .e) none (.n .e (some pl80) (.n .e (some pl144) (.n .e (some pl272) .e)))) (some pl16) (.n (.n .e none (.n .e (some pl160) .e)) none (.n .e none (.n .e none (.n .e (some pl256) .e)))))))) none (.n (.n (.n (.n (.n (.n (.n .e (some pl253) .e) (some pl125) (.n .e (some pl189) .e)) (some pl61) (.n .e (some pl93) (.n .e (some pl157) .e))) (some pl29) (.n .e (some pl45) (.n .e none (.n .e (some pl141) (.n .e (some pl269) .e))))) (some pl13) (.n (.n (.n .e (some pl117) .e) none (.n .e none (.n .e none (.n .e (some pl277) .e)))) none (.n .e none (.n (.n .e (some pl197) .e) (some pl69) (.n .e (some pl133) .e))))) none (.n (.n (.n (.n .e (some pl121) .e) none (.n (.n .e (some pl217) .e) (some pl89) (.n .e none (.n .e (some pl281) .e)))) (some pl25) (.n (.n (.n .e (some pl233) .e) (some pl105) .e) (some pl41) (.n .e none (.n .e none (.n .e (some pl265) .e))))) (some pl9) (.n (.n (.n .e (some pl113) (.n .e (some pl177) .e)) none (.n (.n .e (some pl209) .e) (some pl81) (.n .e none (.n .e (some pl273) .e)))) none (.n (.n .e none (.n .e (some pl161) .e)) none (.n (.n .e (some pl193) .e) none (.n .e none (.n .e (some pl257) .e))))))) none (.n (.n (.n (.n (.n .e (some pl123) (.n .e (some pl187) .e)) (some pl59) (.n .e (some pl91) (.n .e none (.n .e (some pl283) .e)))) none (.n .e none (.n .e none (.n .e (some pl139) (.n .e (some pl267) .e))))) (some pl11) (.n (.n (.n .e none (.n .e (some pl179) .e)) (some pl51) (.n .e (some pl83) (.n .e (some pl147) .e))) none (.n (.n .e none (.n .e (some pl163) .e)) none (.n .e none (.n .e (some pl131) (.n .e (some pl259) .e)))))) none (.n (.n (.n (.n .e (some pl119) (.n .e (some pl183) .e)) none (.n (.n .e (some pl215) .e) (some pl87) (.n .e none (.n .e (some pl279) .e)))) (some pl23) (.n .e none (.n .e (some pl71) (.n .e (some pl135) (.n .e (some pl263) .e))))) none (.n (.n (.n .e (some pl111) (.n .e (some pl175) .e)) none (.n (.n .e (some pl207) .e) (some pl79) .e)) none (.n (.n .e (some pl95) (.n .e (some pl159) .e)) none (.n .e none (.n .e (some pl127) .e))))))))
def plan (f id:Nat):Option Plan :=
 match planT.get f with
 | some t=>match t.get id with
  | some l=>some (planOf l)
  | none=>none
 | none=>none
def chkF (f:Nat) (g:Func):Bool:=!(g.name == "runtime.NumGoroutine") && match g.body with | some c=>okG (plan f) c | none=>true
def chkL:List Func→Nat→Bool
 | [],_=>true
 | g :: t,k=>chkF k g && chkL t (k + 1)
theorem chkL_ok:∀ {l:List Func} {k:Nat},chkL l k=true→∀ j g,l[j]?=some g→chkF (k + j) g=true
 | [],_,_,j,g,h=>by simp at h
 | a :: t,k,h,j,g,hj=>by
  simp only [chkL,Bool.and_eq_true] at h
  cases j with
  | zero=>simp at hj;subst hj;exact h.1
  | succ j=>have:=chkL_ok h.2 j g (by simpa using hj);rwa [show k + 1 + j=k + (j + 1) by omega] at this
set_option maxHeartbeats 4000000 in
theorem chk_all:chkL Tryz.prog.funcs.toList 0=true:=by kernel_rfl
theorem fn_all (f:Nat) (g:Func) (h:Tryz.prog.funcs[f]?=some g):Tryz.prog.funcs[f]?=some g∧(g.name == "runtime.NumGoroutine")=false∧∀ c,g.body=some c→okG (plan f) c=true:=by
 have:=chkL_ok chk_all f g (by simpa using h)
 rw [Nat.zero_add] at this
 simp only [chkF,Bool.and_eq_true,Bool.not_eq_true'] at this
 refine ⟨h,this.1,fun c hc=>?_⟩
 have h2:=this.2
 rw [hc] at h2
 exact h2
end
section
set_option maxRecDepth 100000
open Go.RowKit
abbrev ExtF:=List SV→St HX→Option (SV × St HX)
def ExtOk (f:Nat) (h:ExtF):Prop:=∀ (w0:B0) vs st v st',h vs st=some (v,st')→CallsR Tryz.prog (HL w0) HX.good f vs st v st'
theorem callable_of {P:Program} {f:Nat} (h:(match P.funcs[f]? with | some g=>!g.body.isNone && !(g.name == "runtime.NumGoroutine") | none=>false)=true):Callable P f:=by
 split at h
 ·rename_i g hg
  simp only [Bool.and_eq_true,Bool.not_eq_true'] at h
  exact ⟨g,hg,h.1,h.2⟩
 ·cases h
def extP (f:Nat) (h:ExtF):Prop:=Callable Tryz.prog f∧ExtOk f h
abbrev ExtT:=Nat→Option ExtF
def C (P:Program) (ext:ExtT) (w0:B0):Cfg HX:=⟨P,HL w0,fun f=>P.funcs[f]?,ext,hbit,hvalW P w0.fo,HX.good⟩
theorem C_ok {ext:ExtT} (hx:∀ f h,ext f=some h→extP f h) (w0:B0):(C Tryz.prog ext w0).OkY plan :=
 ⟨by kernel_rfl,fun f g h=>fn_all f g h,fun f h hf=>by
  obtain ⟨h1,h2⟩:=hx f h hf
  exact ⟨h1,h2 w0⟩,hval_ok (w0:=w0),fun b x b' x' h hg=>by
  obtain ⟨h1,h2,h3⟩:=hbit_ok (w0:=w0) b x b' x' h hg
  exact ⟨h1,h2,h3⟩⟩
def run (P:Program) (ext:ExtT) (K n f:Nat) (vs:List SV) (st:St HX):Option (SV × St HX):=recY (C P ext default) plan K n false f vs st
theorem run_ok {ext:ExtT} (hx:∀ f h,ext f=some h→extP f h) {K n f:Nat} {vs:List SV} {st st':St HX} {v:SV} (h:run Tryz.prog ext K n f vs st=some (v,st')) (w:World):CallsR Tryz.prog (HL (B0.of w)) HX.good f vs st v st' :=
 ((recY_ok (C_ok hx (B0.of w)) K n).1 f vs st v st' h).2
def st0 (sc:List (Nat × Sc)):St HX:=⟨.e,0,⟨none,0,sc,[],[]⟩⟩
theorem st0_no {sc:List (Nat × Sc)} {b:Nat} {k:SB} (h:(st0 sc).m.get b=some k):False:=by
 rw [show (st0 sc).m.get b=none from T.get_e b] at h;cases h
theorem Fix.of {w:World} {d:Nat}:Fix (B0.of w) d↔GlB d:=⟨fun h=>h.elim id fun ⟨b,o,z,h⟩=>(by cases h),.inl⟩
theorem st0_ok (sc:List (Nat × Sc)) (w:World) (hg:Gl w):Rl (HL (B0.of w)) (fun _=>none) (st0 sc) w (Fix (B0.of w)) :=
 ⟨fun _ _ _ _ _ h _=>(st0_no h).elim,fun _ _ _ _ _ _ _ _ _ _ h _ _ _ _ _=>(st0_no h).elim,fun _ _ h=>(st0_no h).elim,fun _ _ h=>(by cases h),fun _ _ h _=>(st0_no h).elim,⟨⟨hg,fun _ _=>rfl,Nat.le_refl _,nofun⟩,fun _=>Iff.rfl⟩⟩
def outL (r:Option (SV × St HX)) (v:SV):Option (Bool × List Prop × List SV):=match r with
 | some p=>some (SV.beq p.1 v,p.2.x.pc,p.2.x.rc.map Prod.fst)
 | none=>none
def outR (r:Option (SV × St HX)) (ps:List Prop):Option (Bool × List Prop × List SV):=match r with
 | some p=>some (true,ps,p.2.x.rc.map Prod.snd)
 | none=>some (false,[],[])
theorem map_same {α:Type}:∀ {l:List (α × α)},l.map Prod.fst=l.map Prod.snd→∀ q∈l,q.1=q.2
 | [],_,_,h=>by cases h
 | p :: t,h,q,hq=>by
  simp only [List.map_cons,List.cons.injEq] at h
  rcases List.mem_cons.1 hq with rfl | hq
  ·exact h.1
  ·exact map_same h.2 q hq
def AllP:List Prop→Prop
 | []=>True
 | p :: t=>p∧AllP t
theorem AllP.mem:∀ {l:List Prop},AllP l→∀ p∈l,p
 | [],_,_,h=>by cases h
 | q :: t,hl,p,h=>by
  rcases List.mem_cons.1 h with rfl | h
  ·exact hl.1
  ·exact AllP.mem hl.2 p h
theorem outP_ok {r:Option (SV × St HX)} {v:SV} {ps:List Prop} (h:outL r v=outR r ps) (hp:AllP ps):∃ st',r=some (v,st')∧st'.x.good:=by
 unfold outL outR at h
 split at h
 ·rename_i p
  injection h with h
  injection h with h1 h2
  injection h2 with h2 h3
  refine ⟨p.2,by rw [← SV.beq_ok h1],?_,map_same h3⟩
  subst h2
  exact AllP.mem hp
 ·cases h
theorem run_call {ext:ExtT} (hx:∀ f h,ext f=some h→extP f h) {K n f:Nat} {vs:List SV} {sc:List (Nat × Sc)} {v:SV} {ps:List Prop} (h:outL (run Tryz.prog ext K n f vs (st0 sc)) v=outR (run Tryz.prog ext K n f vs (st0 sc)) ps) (hp:AllP ps) {us:List Value} (hvs:VRs (fun _=>none) vs us) {u:Value} (hu:∀ e x,VR e v x→x=u) (w:World) (hg:Gl w):Calls Tryz.prog f ⟨us⟩ w fun en w'=>en=.returned u∧Bl w w':=by
 obtain ⟨st',h1,h2⟩:=outP_ok h hp
 have:=(run_ok hx h1 w h2).2 (fun _=>none) w _ us (st0_ok sc w hg) hvs
 refine this.mono fun en w' ⟨x,e',F',q1,q2,q3,q4⟩=>?_
 refine ⟨by rw [q1,hu e' x q2],q4.os,q4.tape,q4.output,q4.size,fun b hb=>?_⟩
 have he:=q3.ext.1
 by_cases h0:GlB b
 ·exact he.2.1 b (.inl h0)
 ·refine q4.frame b hb fun hi=>?_
  rcases hi with hi | ⟨y,k,o,z,hy,-⟩
  ·exact h0 (Fix.of.1 hi)
  ·exact (st0_no hy).elim
def LawT (f:Nat) (us:List Value):Prop:=∀ w,Gl w→Calls Tryz.prog f ⟨us⟩ w fun en w'=>en=.returned (.bool true)∧Bl w w'
end
end Go.Proofs.YtmelcflkbfhohaaGreatDoor.W.E
