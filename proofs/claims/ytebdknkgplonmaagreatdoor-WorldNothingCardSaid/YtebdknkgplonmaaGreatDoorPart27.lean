/- EvZ Lw RowK Lw2 -/
import Derived.Test.YtebdknkgplonmaaGreatDoorPart26
import Derived.Test.YtebdknkgplonmaaGreatDoorRows
import Derived.WalkKit
import Derived.ProofKit
import Derived.OpenShut
import Derived.ShutString
import Derived.ChangeOld
import Derived.ChangeVars
import Derived.Below
import Derived.JoinedOf
import Derived.LaidLaws
import Derived.LaidHandle
import Derived.HandedShaped
import Derived.Stop.Joined
import Derived.Stop.LaidErr
import Derived.Lib.LaidU8
set_option linter.unusedVariables false
set_option linter.unusedSimpArgs false
namespace Go.Proofs.YtebdknkgplonmaaGreatDoor.W.E
section
set_option maxRecDepth 100000
open Go.RowKit
def extT : T ExtF := (.n (.n (.n (.n (.n .e (some xBoot) (.n .e none (.n .e (some xKind) .e))) none (.n .e none (.n (.n (.n .e (some xConcO) .e) none .e) none .e))) none (.n (.n (.n (.n .e none (.n .e (some xNum) .e)) none .e) none (.n .e none (.n .e (some xName) (.n .e (some xSetAt) .e)))) none .e)) none (.n (.n .e none (.n (.n (.n (.n .e (some xJoin) .e) none .e) none .e) none (.n (.n .e none (.n .e none (.n .e (some xHasSuffix) .e))) none .e))) none (.n (.n (.n (.n .e (some xDel) (.n .e none (.n .e (some xIndex) .e))) none (.n (.n .e (some xLen) .e) (some xClass) .e)) none .e) none (.n .e none (.n .e none (.n (.n .e none (.n .e (some xCheck) .e)) none .e)))))) none (.n (.n (.n (.n (.n (.n .e (some xItems) .e) none (.n .e (some xReplace) .e)) (some xNew) (.n .e none (.n .e (some xAt) .e))) none (.n (.n (.n (.n .e (some xSize) .e) none .e) none (.n .e (some xLive) .e)) none .e)) none (.n (.n (.n (.n .e none (.n .e (some xFind) .e)) none (.n (.n .e (some xKey) .e) (some xPut) .e)) none .e) none (.n (.n (.n .e none (.n .e (some xKeys) .e)) none .e) none .e))) none (.n (.n (.n .e none (.n (.n (.n .e (some xSub) .e) none .e) none (.n .e (some xGet) .e))) none (.n (.n (.n .e none (.n .e (some xConcV) .e)) none (.n .e (some xSweep) (.n .e (some xString) .e))) none .e)) none (.n (.n (.n (.n .e none (.n .e none (.n .e (some xRepeat) .e))) none .e) none .e) none (.n (.n (.n .e none (.n .e (some xOrderO) .e)) none .e) none (.n .e (some xMake) .e))))))
def T.Of {α : Type} (p : Nat → α → Prop) : T α → (Nat → Nat) → Prop
 | .e, _ => True
 | .n l v r, φ => T.Of p l (fun k => φ (2 * k + 2)) ∧ (∀ x, v = some x → p (φ 0) x) ∧ T.Of p r (fun k => φ (2 * k + 1))
theorem T.Of_get {α : Type} {p : Nat → α → Prop} : ∀ (t : T α) (φ : Nat → Nat), T.Of p t φ → ∀ k x, t.get k = some x → p (φ k) x
 | .e, _, _, _, _, h => by cases h
 | .n l v r, φ, h, k, x, hx => by
  obtain ⟨h1, h2, h3⟩ := h
  cases k with
  | zero => exact h2 x hx
  | succ k =>
   by_cases hk : k % 2 = 0
   ·have := T.Of_get r _ h3 (k / 2) x (T.get_n_r hk hx)
    rwa [show 2 * (k / 2) + 1 = k + 1 by omega] at this
   ·have := T.Of_get l _ h1 (k / 2) x (T.get_n_l hk hx)
    rwa [show 2 * (k / 2) + 2 = k + 1 by omega] at this
theorem callable_of {P : Program} {f : Nat} (h : (match P.funcs[f]? with | some g => !g.body.isNone && !(g.name == "runtime.NumGoroutine") | none => false) = true) : Callable P f := by
 split at h
 ·rename_i g hg
  simp only [Bool.and_eq_true, Bool.not_eq_true'] at h
  exact ⟨g, hg, h.1, h.2⟩
 ·cases h
def extP (f : Nat) (h : ExtF) : Prop := Callable Tryz.prog f ∧ ExtOk f h
theorem ext_all : T.Of extP extT (fun k => k) := ⟨⟨⟨⟨⟨trivial, fun _ h => by cases h; exact ⟨callable_of (by kernel_rfl), xBoot_ok⟩, ⟨trivial, nofun, ⟨trivial, fun _ h => by cases h; exact ⟨callable_of (by kernel_rfl), xKind_ok⟩, trivial⟩⟩⟩, nofun, ⟨trivial, nofun, ⟨⟨⟨trivial, fun _ h => by cases h; exact ⟨callable_of (by kernel_rfl), xConcO_ok⟩, trivial⟩, nofun, trivial⟩, nofun, trivial⟩⟩⟩, nofun, ⟨⟨⟨⟨trivial, nofun, ⟨trivial, fun _ h => by cases h; exact ⟨callable_of (by kernel_rfl), xNum_ok⟩, trivial⟩⟩, nofun, trivial⟩, nofun, ⟨trivial, nofun, ⟨trivial, fun _ h => by cases h; exact ⟨callable_of (by kernel_rfl), xName_ok⟩, ⟨trivial, fun _ h => by cases h; exact ⟨callable_of (by kernel_rfl), xSetAt_ok⟩, trivial⟩⟩⟩⟩, nofun, trivial⟩⟩, nofun, ⟨⟨trivial, nofun, ⟨⟨⟨⟨trivial, fun _ h => by cases h; exact ⟨callable_of (by kernel_rfl), xJoin_ok⟩, trivial⟩, nofun, trivial⟩, nofun, trivial⟩, nofun, ⟨⟨trivial, nofun, ⟨trivial, nofun, ⟨trivial, fun _ h => by cases h; exact ⟨callable_of (by kernel_rfl), xHasSuffix_ok⟩, trivial⟩⟩⟩, nofun, trivial⟩⟩⟩, nofun, ⟨⟨⟨⟨trivial, fun _ h => by cases h; exact ⟨callable_of (by kernel_rfl), xDel_ok⟩, ⟨trivial, nofun, ⟨trivial, fun _ h => by cases h; exact ⟨callable_of (by kernel_rfl), xIndex_ok⟩, trivial⟩⟩⟩, nofun, ⟨⟨trivial, fun _ h => by cases h; exact ⟨callable_of (by kernel_rfl), xLen_ok⟩, trivial⟩, fun _ h => by cases h; exact ⟨callable_of (by kernel_rfl), xClass_ok⟩, trivial⟩⟩, nofun, trivial⟩, nofun, ⟨trivial, nofun, ⟨trivial, nofun, ⟨⟨trivial, nofun, ⟨trivial, fun _ h => by cases h; exact ⟨callable_of (by kernel_rfl), xCheck_ok⟩, trivial⟩⟩, nofun, trivial⟩⟩⟩⟩⟩⟩, nofun, ⟨⟨⟨⟨⟨⟨trivial, fun _ h => by cases h; exact ⟨callable_of (by kernel_rfl), xItems_ok⟩, trivial⟩, nofun, ⟨trivial, fun _ h => by cases h; exact ⟨callable_of (by kernel_rfl), xReplace_ok⟩, trivial⟩⟩, fun _ h => by cases h; exact ⟨callable_of (by kernel_rfl), xNew_ok⟩, ⟨trivial, nofun, ⟨trivial, fun _ h => by cases h; exact ⟨callable_of (by kernel_rfl), xAt_ok⟩, trivial⟩⟩⟩, nofun, ⟨⟨⟨⟨trivial, fun _ h => by cases h; exact ⟨callable_of (by kernel_rfl), xSize_ok⟩, trivial⟩, nofun, trivial⟩, nofun, ⟨trivial, fun _ h => by cases h; exact ⟨callable_of (by kernel_rfl), xLive_ok⟩, trivial⟩⟩, nofun, trivial⟩⟩, nofun, ⟨⟨⟨⟨trivial, nofun, ⟨trivial, fun _ h => by cases h; exact ⟨callable_of (by kernel_rfl), xFind_ok⟩, trivial⟩⟩, nofun, ⟨⟨trivial, fun _ h => by cases h; exact ⟨callable_of (by kernel_rfl), xKey_ok⟩, trivial⟩, fun _ h => by cases h; exact ⟨callable_of (by kernel_rfl), xPut_ok⟩, trivial⟩⟩, nofun, trivial⟩, nofun, ⟨⟨⟨trivial, nofun, ⟨trivial, fun _ h => by cases h; exact ⟨callable_of (by kernel_rfl), xKeys_ok⟩, trivial⟩⟩, nofun, trivial⟩, nofun, trivial⟩⟩⟩, nofun, ⟨⟨⟨trivial, nofun, ⟨⟨⟨trivial, fun _ h => by cases h; exact ⟨callable_of (by kernel_rfl), xSub_ok⟩, trivial⟩, nofun, trivial⟩, nofun, ⟨trivial, fun _ h => by cases h; exact ⟨callable_of (by kernel_rfl), xGet_ok⟩, trivial⟩⟩⟩, nofun, ⟨⟨⟨trivial, nofun, ⟨trivial, fun _ h => by cases h; exact ⟨callable_of (by kernel_rfl), xConcV_ok⟩, trivial⟩⟩, nofun, ⟨trivial, fun _ h => by cases h; exact ⟨callable_of (by kernel_rfl), xSweep_ok⟩, ⟨trivial, fun _ h => by cases h; exact ⟨callable_of (by kernel_rfl), xString_ok⟩, trivial⟩⟩⟩, nofun, trivial⟩⟩, nofun, ⟨⟨⟨⟨trivial, nofun, ⟨trivial, nofun, ⟨trivial, fun _ h => by cases h; exact ⟨callable_of (by kernel_rfl), xRepeat_ok⟩, trivial⟩⟩⟩, nofun, trivial⟩, nofun, trivial⟩, nofun, ⟨⟨⟨trivial, nofun, ⟨trivial, fun _ h => by cases h; exact ⟨callable_of (by kernel_rfl), xOrderO_ok⟩, trivial⟩⟩, nofun, trivial⟩, nofun, ⟨trivial, fun _ h => by cases h; exact ⟨callable_of (by kernel_rfl), xMake_ok⟩, trivial⟩⟩⟩⟩⟩⟩
theorem extT_ok : ∀ f h, extT.get f = some h → extP f h := fun f h hf => T.Of_get extT _ ext_all f h hf
abbrev ExtT := Nat → Option ExtF
def C (P : Program) (ext : ExtT) (w0 : World) : Cfg HX := ⟨P, HL w0, fun f => P.funcs[f]?, ext, hbit, hval, HX.good⟩
theorem C_ok {ext : ExtT} (hx : ∀ f h, ext f = some h → extP f h) (w0 : World) : (C Tryz.prog ext w0).Ok plan :=
 ⟨by kernel_rfl, fun f g h => fn_all f g h, fun f h hf => by
  obtain ⟨h1, h2⟩ := hx f h hf
  exact ⟨h1, h2 w0⟩, hval_ok (w0 := w0), fun b x b' x' h hg => by
  obtain ⟨h1, h2, h3⟩ := hbit_ok (w0 := w0) b x b' x' h hg
  exact ⟨h1, h2, h3⟩⟩
def run (P : Program) (ext : ExtT) (K n f : Nat) (vs : List SV) (st : St HX) : Option (SV × St HX) := callF (C P ext default) plan K n f vs st
theorem run_ok {ext : ExtT} (hx : ∀ f h, ext f = some h → extP f h) {K n f : Nat} {vs : List SV} {st st' : St HX} {v : SV} (h : run Tryz.prog ext K n f vs st = some (v, st')) (w0 : World) : CallsR Tryz.prog (HL w0) HX.good f vs st v st' :=
 (callF_ok (C_ok hx w0) K n f vs st v st' h).2
def st0 (sc : List (Nat × Sc)) : St HX := ⟨.e, 0, ⟨none, 0, sc, [], []⟩⟩
theorem st0_no {sc : List (Nat × Sc)} {b : Nat} {k : SB} (h : (st0 sc).m.get b = some k) : False := by
 rw [show (st0 sc).m.get b = none from T.get_e b] at h; cases h
theorem st0_ok (sc : List (Nat × Sc)) (w : World) (hg : Gl w) : Rl (HL w) (fun _ => none) (st0 sc) w (fun b => b = 0 ∨ b = 2) :=
 ⟨fun _ _ _ _ _ h _ => (st0_no h).elim, fun _ _ _ _ _ _ _ _ _ _ h _ _ _ _ _ => (st0_no h).elim, fun _ _ h => (st0_no h).elim, fun _ _ h => (by cases h), fun _ _ h _ => (st0_no h).elim, ⟨⟨hg, rfl, rfl, Nat.le_refl _⟩, fun _ => Iff.rfl⟩⟩
def outL (r : Option (SV × St HX)) (v : SV) : Option (Bool × List Prop × List SV) := match r with
 | some p => some (SV.beq p.1 v, p.2.x.pc, p.2.x.rc.map Prod.fst)
 | none => none
def outR (r : Option (SV × St HX)) (ps : List Prop) : Option (Bool × List Prop × List SV) := match r with
 | some p => some (true, ps, p.2.x.rc.map Prod.snd)
 | none => some (false, [], [])
theorem map_same {α : Type} : ∀ {l : List (α × α)}, l.map Prod.fst = l.map Prod.snd → ∀ q ∈ l, q.1 = q.2
 | [], _, _, h => by cases h
 | p :: t, h, q, hq => by
  simp only [List.map_cons, List.cons.injEq] at h
  rcases List.mem_cons.1 hq with rfl | hq
  ·exact h.1
  ·exact map_same h.2 q hq
def AllP : List Prop → Prop
 | [] => True
 | p :: t => p ∧ AllP t
theorem AllP.mem : ∀ {l : List Prop}, AllP l → ∀ p ∈ l, p
 | [], _, _, h => by cases h
 | q :: t, hl, p, h => by
  rcases List.mem_cons.1 h with rfl | h
  ·exact hl.1
  ·exact AllP.mem hl.2 p h
theorem outP_ok {r : Option (SV × St HX)} {v : SV} {ps : List Prop} (h : outL r v = outR r ps) (hp : AllP ps) : ∃ st', r = some (v, st') ∧ st'.x.good := by
 unfold outL outR at h
 split at h
 ·rename_i p
  injection h with h
  injection h with h1 h2
  injection h2 with h2 h3
  refine ⟨p.2, by rw [← SV.beq_ok h1], ?_, map_same h3⟩
  subst h2
  exact AllP.mem hp
 ·cases h
theorem run_call {ext : ExtT} (hx : ∀ f h, ext f = some h → extP f h) {K n f : Nat} {vs : List SV} {sc : List (Nat × Sc)} {v : SV} {ps : List Prop} (h : outL (run Tryz.prog ext K n f vs (st0 sc)) v = outR (run Tryz.prog ext K n f vs (st0 sc)) ps) (hp : AllP ps) {us : List Value} (hvs : VRs (fun _ => none) vs us) {u : Value} (hu : ∀ e x, VR e v x → x = u) (w : World) (hg : Gl w) : Calls Tryz.prog f ⟨us⟩ w fun en w' => en = .returned u ∧ Bl w w' := by
 obtain ⟨st', h1, h2⟩ := outP_ok h hp
 have := (run_ok hx h1 w h2).2 (fun _ => none) w _ us (st0_ok sc w hg) hvs
 refine this.mono fun en w' ⟨x, e', F', q1, q2, q3, q4⟩ => ?_
 refine ⟨by rw [q1, hu e' x q2], q4.os, q4.tape, q4.output, q4.size, fun b hb => ?_⟩
 have he := q3.ext.1
 by_cases h0 : b = 0
 ·rw [h0]; exact he.2.1
 ·by_cases h2 : b = 2
  ·rw [h2]; exact he.2.2.1
  ·refine q4.frame b hb fun hi => ?_
   rcases hi with hi | ⟨y, k, o, z, hy, -⟩
   ·exact hi.elim h0 h2
   ·exact (st0_no hy).elim
theorem shown_run : outL (run Tryz.prog extT.get 100000 100 11 [] (st0 [])) (.bool true) = outR (run Tryz.prog extT.get 100000 100 11 [] (st0 [])) [] := by kernel_rfl
theorem shown_any (w : World) (hg : Gl w) : Calls Tryz.prog 11 #[] w fun en w' => en = .returned (.bool true) ∧ Bl w w' :=
 run_call extT_ok shown_run trivial .nil (fun e x hx => by cases hx; rfl) w hg
def xShown : ExtF := fun vs st => match vs with
 | [] => some (.bool true, st)
 | _ => none
theorem xShown_ok : ExtOk 11 xShown := fun w0 vs st v st' h => by
 unfold xShown at h
 split at h
 ·cases h
  exact ext_reader fun e w F us hR hvs => by
   cases vrs_nil hvs
   exact ⟨_, .bool true, shown_any w hR.gl⟩
 ·cases h
def extL : ExtT := fun f => bif Nat.beq f 11 then some xShown else extT.get f
theorem extL_ok : ∀ f h, extL f = some h → extP f h := fun f h hf => by
 unfold extL at hf
 cases hb : Nat.beq f 11 with
 | true =>
  rw [hb, cond_true] at hf; cases hf
  rw [Nat.eq_of_beq_eq_true hb]
  exact ⟨callable_of (by kernel_rfl), xShown_ok⟩
 | false => rw [hb, cond_false] at hf; exact extT_ok f h hf
end
section
set_option maxRecDepth 100000
open Go.RowKit
def LawT (f : Nat) (us : List Value) : Prop := ∀ w, Gl w → Calls Tryz.prog f ⟨us⟩ w fun en w' => en = .returned (.bool true) ∧ Bl w w'
theorem lawT {f : Nat} {vs : List SV} {sc : List (Nat × Sc)} {ps : List Prop} {us : List Value} (h : outL (run Tryz.prog extL 100000 100 f vs (st0 sc)) (.bool true) = outR (run Tryz.prog extL 100000 100 f vs (st0 sc)) ps) (hp : AllP ps) (hvs : VRs (fun _ => none) vs us) : LawT f us :=
 fun w hg => run_call extL_ok h hp hvs (fun e x hx => by cases hx; rfl) w hg
def andI (d m : Int) : Int := IntKind.i64.wrap (BitVec.ofInt 64 d &&& BitVec.ofInt 64 m).toNat
def modI (d m : Int) : Int := Int.tmod (andI d 65535) m
theorem andI_mod (d m : Int) (k : Nat) (hk : k ≤ 62) (hm : (BitVec.ofInt 64 m).toNat = 2 ^ k - 1) : andI d m = d % ((2 ^ k : Nat) : Int) := by
 have h2 : 2 ^ k ≤ 2 ^ 62 := Nat.pow_le_pow_right (by omega) hk
 have h3 : 0 < 2 ^ k := Nat.two_pow_pos k
 have h1 : (BitVec.ofInt 64 d &&& BitVec.ofInt 64 m).toNat = (d % 18446744073709551616).toNat % 2 ^ k := by
  rw [BitVec.toNat_and, hm, Nat.and_two_pow_sub_one_eq_mod, BitVec.toNat_ofInt]; rfl
 unfold andI
 rw [h1]
 have hb : (((d % 18446744073709551616).toNat % 2 ^ k : Nat) : Int) = d % ((2 ^ k : Nat) : Int) := by
  have h4 : 0 ≤ d % 18446744073709551616 := Int.emod_nonneg _ (by omega)
  rw [Int.natCast_emod, Int.toNat_of_nonneg h4]
  refine Int.emod_emod_of_dvd _ ?_
  have : (18446744073709551616 : Int) = ((2 ^ 64 : Nat) : Int) := rfl
  rw [this]
  exact Int.ofNat_dvd.2 (Nat.pow_dvd_pow 2 (by omega))
 rw [hb]
 have h5 : 0 ≤ d % ((2 ^ k : Nat) : Int) := Int.emod_nonneg _ (by omega)
 have h6 : d % ((2 ^ k : Nat) : Int) < ((2 ^ k : Nat) : Int) := Int.emod_lt_of_pos _ (by omega)
 generalize d % ((2 ^ k : Nat) : Int) = x at h5 h6
 have h7 : x < 4611686018427387904 := by omega
 show (let m := x % 18446744073709551616; if true && decide (m ≥ 9223372036854775808) then m - 18446744073709551616 else m) = x
 rw [Int.emod_eq_of_lt h5 (by omega)]
 simp only [Bool.true_and, decide_eq_true_eq]
 rw [if_neg (by omega)]
theorem andI_1 (d : Int) : andI d 1 = d % 2 := andI_mod d 1 1 (by omega) rfl
theorem andI_3 (d : Int) : andI d 3 = d % 4 := andI_mod d 3 2 (by omega) rfl
theorem andI_ffff (d : Int) : andI d 65535 = d % 65536 := andI_mod d 65535 16 (by omega) rfl
theorem modI_eq (d m : Int) : modI d m = d % 65536 % m := by
 unfold modI
 rw [andI_ffff]
 exact Int.tmod_eq_emod_of_nonneg (Int.emod_nonneg _ (by omega))
end
end Go.Proofs.YtebdknkgplonmaaGreatDoor.W.E
namespace Go.Proofs.YtebdknkgplonmaaGreatDoor.R
section
set_option maxRecDepth 100000
open Go.ChangeShapes Go.WideShapes Go.ChangeAt Go.RowKit
section
variable {H : Type} {enc : TypeId × Value → H}
theorem handed_laid_shaped {a : Assume} {C : Checked} {os : Os} {f : FuncId} {fn : Func} {s : ChangeSpec} {conds : List PathCond} {apart fresh handsOn again : Bool} {X : World → Array Value → Prop}
  (hX : ∀ (w w' : World) (args : Array Value), w.heap = w'.heap → X w args → X w' args)
  (own : ownKnob C.prog.godebug = none) (started : os.Started) (noInit : C.prog.inits.idxOf? f = none) (hfn : C.prog.funcs[f]? = some fn)
  (witness : ∃ (w : World) (tape : Tape) (i : Input), w.os = os ∧ (w.forCall tape i).Shaped C.prog ∧ i.vars = [] ∧ Input.okWide C.prog (w.forCall tape i) .any w.heap.size f i ∧
   ((s.pre enc C.prog fn conds apart (w.forCall tape i).memory i.args ∧ X (w.forCall tape i).memory i.args) ∧ sizedMet enc C.prog fn (OpenSpec.ofChange s) apart (w.forCall tape i).memory i.args) ∧ a.holds C.prog (lone (Frame.enter C.prog f i.args .normal) [] (w.forCall tape i)))
  (contract : ∀ (W : World) (base : Nat) (args : Array Value) (ds gs : List (DataW H)) (before : List MemPlace),
   (∀ (j : Nat) t v, fn.params[j]? = some t → args[j]? = some v → Value.okWide C.prog W .any base t v) →
   DataW.Whole enc C.prog fn.params.toList s.vars apart W args.toList ds gs before →
   X W args → W.ShapedOpen C.prog →
   Calls C.prog f args W fun e W' => ∃ v, e = .returned v ∧ s.post enc C.prog fn apart fresh handsOn again W args v W') :
  ReturnsInHanded a C os f .any (fun w args => (s.pre enc C.prog fn conds apart w args ∧ X w args) ∧ sizedMet enc C.prog fn (OpenSpec.ofChange s) apart w args) (s.post enc C.prog fn apart fresh handsOn again) := by
 refine returnsInHanded_of_calls own started noInit witness ?_
 intro w tape i _ hsh _ hok hpre hholds
 obtain ⟨_, _, _, fn', hfn', _, _, _, _, hval⟩ := hok
 have e : fn' = fn := Option.some.inj (hfn'.symm.trans hfn)
 subst e
 obtain ⟨⟨⟨ds, gs, before, hw, hc⟩, hx⟩, hz⟩ := hpre
 have hw' := DataW.Whole.of_heap (w' := w.forCall tape i) (by rfl) hw
 refine (contract (w.forCall tape i) w.heap.size i.args ds gs before hval hw' (hX _ _ _ (by rfl) hx) hsh).mono fun e W' ⟨v, he, hp⟩ => ?_
 subst he
 exact ChangeSpec.post_blind hp
theorem witness_ref {C : Checked} {os : Os} {f : FuncId} {fn : Func} {s : ChangeSpec} {conds : List PathCond} {apart : Bool} {X : World → Array Value → Prop} (modest : Bool) (w0 : World) (args : Array Value) (fuel : Nat) (hos : w0.os = os)
  (hv : (w0.forCall (fun _ _ => 0) ⟨#[], args, []⟩).variablesRefB C.prog = true)
  (hr : ((w0.forCall (fun _ _ => 0) ⟨#[], args, []⟩).heap.toList.drop C.prog.globals.size).take ((begin C.prog (fun _ _ => 0) default).world.heap.size - C.prog.globals.size) =
   (begin C.prog (fun _ _ => 0) default).world.heap.toList.drop C.prog.globals.size)
  (hok : Input.okWideB C.prog (w0.forCall (fun _ _ => 0) ⟨#[], args, []⟩) f ⟨#[], args, []⟩ = true)
  (hpre : s.preB enc C.prog fn conds apart (w0.forCall (fun _ _ => 0) ⟨#[], args, []⟩).memory args fuel = true)
  (hsz : s.sizedB enc C.prog fn apart (w0.forCall (fun _ _ => 0) ⟨#[], args, []⟩).memory args fuel = true)
  (hx : X (w0.forCall (fun _ _ => 0) ⟨#[], args, []⟩).memory args) :
  ∃ (w : World) (tape : Tape) (i : Input), w.os = os ∧ (w.forCall tape i).Shaped C.prog ∧ i.vars = [] ∧ Input.okWide C.prog (w.forCall tape i) .any w.heap.size f i ∧
   ((s.pre enc C.prog fn conds apart (w.forCall tape i).memory i.args ∧ X (w.forCall tape i).memory i.args) ∧ sizedMet enc C.prog fn (OpenSpec.ofChange s) apart (w.forCall tape i).memory i.args) ∧ ({ modest := modest } : Assume).holds C.prog (lone (Frame.enter C.prog f i.args .normal) [] (w.forCall tape i)) :=
 ⟨w0, fun _ _ => 0, ⟨#[], args, []⟩, hos, World.shaped_of_RefB hv hr, (Input.okWide_of_okWideB (base := 0) hok).1, (Input.okWide_of_okWideB hok).2, ⟨⟨ChangeSpec.pre_of_preB hpre, hx⟩, sizedMet_of_sizedB hsz⟩, by
  simp only [Assume.holds]
  exact ⟨by simp, by simp, fun _ => Modest.zero, by simp, by simp⟩⟩
end
theorem own : ownKnob Tryz.prog.godebug = none := by kernel_rfl
theorem gT : Tryz.prog.globalNamed "strings.asciiSpace" = some 0 := by kernel_rfl
def laid : List (String × DataW Unit) := [("unicode.White_Space", Rows.laid_unicode_White_Space), ("strings.asciiSpace", Rows.laid_strings_asciiSpace)]
theorem gTType : (Tryz.prog.globals[0]?).map (·.type) = some 233 := by kernel_rfl
theorem gl_of {W : World} (hL : laidMetH Tryz.prog laid W) (hsh : W.ShapedOpen Tryz.prog) : Go.Proofs.YtebdknkgplonmaaGreatDoor.W.Gl W := by
 have h0 : (laid.filter fun x => x.2.handleName?.isSome) = [] := by kernel_rfl
 unfold laidMetH at hL
 rw [h0] at hL
 have h1 : laidMet Tryz.prog laid W := hL
 have he : Rows.laid_strings_asciiSpace = (Go.Lib.tabData .u8 Go.Lib.asciiSpaceTab : DataW Unit) := by kernel_rfl
 unfold laid at h1
 rw [he] at h1
 have h2 := laidMet.tail h1
 have htab := Go.Lib.tabIs_of_head gT gTType (e := 5) (n := 256) (by kernel_rfl) (by kernel_rfl) (by kernel_rfl) (by kernel_rfl) h2
 have hm : ∃ m, W.cell? ⟨2, 0, none⟩ = some (.int .i64 m) := Tryz.laysM143.s1_3 W hsh
 refine ⟨htab, hm, ?_⟩
 obtain ⟨m, hm⟩ := hm
 rcases Nat.lt_or_ge 2 W.heap.size with h | h
 ·exact h
 ·simp [World.cell?, Array.getElem?_eq_none h] at hm
noncomputable def laidWorld (os : Os) : World :=
 let N := (World.settled Tryz.prog os).heap.size
 let w0 := World.holding Tryz.prog os ⟨#[.cells (Go.Lib.whiteT.map fun (z : Nat) => Value.int .u16 (z : Int)).toArray 312, .cells #[.slice (some ⟨N, 0, none⟩) 7 7, .slice none 0 0, .int .i64 2] 309], #[], []⟩
 let put (h : Array Obj) (g : Nat) (cs : Array Value) : Array Obj := h.modify g fun
  | .cells _ t frozen => .cells cs t frozen
  | o => o
 let h1 := put w0.heap 0 (Go.Lib.asciiSpaceTab.map fun z => Value.int .u8 z).toArray
 let h4 := put h1 1 #[.pointer (some ⟨N + 1, 0, none⟩)]
 { w0 with heap := h4 }
theorem laidWorld_met (os : Os) (args : Array Value) : laidMetH Tryz.prog laid ((laidWorld os).forCall (fun _ _ => 0) ⟨#[], args, []⟩).memory := by
 have h0 : (laid.filter fun x => x.2.handleName?.isSome) = [] := by kernel_rfl
 unfold laidMetH
 rw [h0]
 exact laidMet_of_run' 10 (by kernel_rfl) (by kernel_rfl)
end
end Go.Proofs.YtebdknkgplonmaaGreatDoor.R
namespace Go.Proofs.YtebdknkgplonmaaGreatDoor.W.E
section
open Go.RowKit
abbrev Tab := List (SV × SV)
abbrev Scr := List (Nat × Nat)
def scOf (tab : Tab) : Scr → List (Nat × Sc)
 | [] => []
 | p :: t => match tab[p.2]? with
  | some q => (p.1, .val q.2) :: scOf tab t
  | none => []
def psOf (tab : Tab) : Scr → List Prop → List Prop
 | [], acc => acc
 | p :: t, acc => match tab[p.2]? with
  | some q => psOf tab t ((some q.1 = some q.2) :: acc)
  | none => acc
theorem psOf_all {tab : Tab} (h : ∀ q ∈ tab, q.1 = q.2) : ∀ (s : Scr) (acc : List Prop), AllP acc → AllP (psOf tab s acc)
 | [], acc, ha => ha
 | p :: t, acc, ha => by
  unfold psOf
  split
  ·rename_i q hq
   exact psOf_all h t _ ⟨congrArg some (h q (List.mem_of_getElem? hq)), ha⟩
  ·exact ha
abbrev Ran (f : Nat) (vs : List SV) (tab : Tab) (s : Scr) : Prop := outL (run Tryz.prog extL 100000 100 f vs (st0 (scOf tab s))) (.bool true) = outR (run Tryz.prog extL 100000 100 f vs (st0 (scOf tab s))) (psOf tab s [])
theorem Ran.law {f : Nat} {vs : List SV} {tab : Tab} {s : Scr} (h : Ran f vs tab s) (ht : ∀ q ∈ tab, q.1 = q.2) {us : List Value} (hvs : VRs (fun _ => none) vs us) : LawT f us :=
 lawT h (psOf_all ht s [] trivial) hvs
def tI (n m : Int) : SV × SV := (.int .i64 n, .int .i64 m)
theorem tI_ok {n m : Int} (h : n = m) : (tI n m).1 = (tI n m).2 := congrArg (SV.int .i64) h
theorem tab_nil : ∀ q ∈ ([] : Tab), q.1 = q.2 := nofun
theorem tab_cons {n m : Int} {t : Tab} (h : n = m) (ht : ∀ q ∈ t, q.1 = q.2) : ∀ q ∈ tI n m :: t, q.1 = q.2 := fun q hq => by
 rcases List.mem_cons.1 hq with rfl | hq
 ·exact tI_ok h
 ·exact ht q hq
theorem andI_2 (d : Int) : andI (Int.fdiv d (2 ^ 1)) 1 = d / 2 % 2 := by
 rw [andI_1, Int.fdiv_eq_ediv_of_nonneg _ (by omega)]; rfl
end
end Go.Proofs.YtebdknkgplonmaaGreatDoor.W.E
