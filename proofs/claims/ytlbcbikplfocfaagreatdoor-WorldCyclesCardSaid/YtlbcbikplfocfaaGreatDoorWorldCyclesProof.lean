/- WorldCyclesProof -/
import Derived.Test.YtlbcbikplfocfaaGreatDoorTie
import Derived.Test.YtlbcbikplfocfaaGreatDoorCards
import Derived.Test.YtlbcbikplfocfaaGreatDoorLCycles
import Derived.SevenTiedAt
import Derived.Test.YtlbcbikplfocfaaGreatDoorEvB
import Derived.Test.YtlbcbikplfocfaaGreatDoorEvR2
import Derived.Test.YtlbcbikplfocfaaGreatDoorObjD
import Derived.Test.YtlbcbikplfocfaaGreatDoorPart0
import Derived.Test.YtlbcbikplfocfaaGreatDoorPart1
import Derived.Test.YtlbcbikplfocfaaGreatDoorPart10
import Derived.Test.YtlbcbikplfocfaaGreatDoorPart11
import Derived.Test.YtlbcbikplfocfaaGreatDoorPart12
import Derived.Test.YtlbcbikplfocfaaGreatDoorPart13
import Derived.Test.YtlbcbikplfocfaaGreatDoorPart14
import Derived.Test.YtlbcbikplfocfaaGreatDoorPart15
import Derived.Test.YtlbcbikplfocfaaGreatDoorPart16
import Derived.Test.YtlbcbikplfocfaaGreatDoorPart17
import Derived.Test.YtlbcbikplfocfaaGreatDoorPart18
import Derived.Test.YtlbcbikplfocfaaGreatDoorPart19
import Derived.Test.YtlbcbikplfocfaaGreatDoorPart2
import Derived.Test.YtlbcbikplfocfaaGreatDoorPart20
import Derived.Test.YtlbcbikplfocfaaGreatDoorPart21
import Derived.Test.YtlbcbikplfocfaaGreatDoorPart22
import Derived.Test.YtlbcbikplfocfaaGreatDoorPart24
import Derived.Test.YtlbcbikplfocfaaGreatDoorPart25
import Derived.Test.YtlbcbikplfocfaaGreatDoorPart26
import Derived.Test.YtlbcbikplfocfaaGreatDoorPart4
import Derived.Test.YtlbcbikplfocfaaGreatDoorPart6
import Derived.Test.YtlbcbikplfocfaaGreatDoorPart7
import Derived.Test.YtlbcbikplfocfaaGreatDoorPart8
import Derived.Test.YtlbcbikplfocfaaGreatDoorPart9
set_option linter.unusedVariables false
set_option linter.unusedSimpArgs false
namespace Go.Proofs.YtlbcbikplfocfaaGreatDoor.worldCycles
section
open Go Go.ChangeShapes Go.WideShapes Go.ChangeAt Go.RowKit
open Go.ChangeMaps (open_string shut_string)
set_option maxRecDepth 100000 in
theorem lifted (os:Os) (started:os.Started) (H:Type) (enc:TypeId × Value→H) :
  ReturnsInHanded {} Tryz.checked os 6 .any (fun w args=>(Rows.worldCyclesSpec.pre enc Tryz.prog Tryz.f6 [] false w args∧laidMetH Tryz.prog R.laid w)∧sizedMet enc Tryz.prog Tryz.f6 (OpenSpec.ofChange Rows.worldCyclesSpec) false w args)
   (Rows.worldCyclesSpec.post enc Tryz.prog Tryz.f6 false true false false):=by
 refine R.handed_laid_shaped (C:=Tryz.checked) (X:=fun w _=>laidMetH Tryz.prog R.laid w) (fun _ _ _ hh h=>h.of_heap hh) R.own started (by kernel_rfl) Tryz.func6
  (R.witness_ref (enc:=enc) (C:=Tryz.checked) (os:=os) (X:=fun w _=>laidMetH Tryz.prog R.laid w) false (R.laidWorld os) #[.int .i64 0,.bool false] 8 rfl (by kernel_rfl) (by kernel_rfl) (by kernel_rfl) (by kernel_rfl) (by kernel_rfl) (R.laidWorld_met os _)) ?_
 intro W base args ds gs before hval0 hW hL hsh
 have hval:∀ (j:Nat) t v,Tryz.f6.params[j]?=some t→args[j]?=some v→Value.okWide Tryz.prog W .any base t v:=hval0
 have hW':=hW
 obtain ⟨p,q,hA0,hV,rfl,hfz,hnd⟩:=hW
 have hA:DataW.TrodAll enc Tryz.prog W 0 (fun _=>true) true Tryz.f6.params.toList args.toList ds p:=hA0
 rw [Tryz.params6] at hA hval
 obtain ⟨v0,vs0,d0,ds0,p0,q0,hargs,rfl,rfl,h0,r0⟩:=trodAll_cons hA
 obtain ⟨v1,vs1,d1,ds1,p1,q1,rfl,rfl,rfl,h1,r1⟩:=trodAll_cons r0
 obtain ⟨rfl,rfl,rfl⟩:=trodAll_nil r1
 obtain rfl:args=#[v0,v1]:=by cases args;simp_all
 obtain ⟨rfl,rfl⟩:=trodVars_none hV
 obtain ⟨a0,rfl,rfl,rfl,w0⟩:=open_int Tryz.underlying3 (hval 0 3 v0 rfl rfl) h0
 obtain ⟨a1,rfl,rfl,rfl⟩:=open_bool Tryz.underlying4 (hval 1 4 v1 rfl rfl) h1
 clear hA0 hval0
 refine (_root_.Go.Proofs.YtlbcbikplfocfaaGreatDoor.W.E.cycles_any a0 a1 W (R.gl_of hL hsh)).mono fun e W' ⟨he,bel⟩=>?_
 subst he
 exact ⟨_,rfl,_,_,_,[],_,[],hW',trodAll_mk1 (shut_bool Tryz.underlying4 _),(trodAll_cons_mk (shut_int Tryz.underlying3 w0) (trodAll_cons_mk (shut_bool Tryz.underlying4 _) trodAll_mk0)),rfl,(show Below _ _ _ from bel).frame _,fun h=>by cases h⟩
theorem named:Tryz.prog.funcNamed Rows.worldCyclesRow.func=some 6:=by kernel_rfl
set_option maxRecDepth 100000 in
set_option maxHeartbeats 100000000 in
theorem closed:joinedFacts Tryz.pinned.checked.prog 6 Tryz.f6 Rows.worldCyclesSpec Rows.worldCyclesRow=true:=by
 unfold joinedFacts
 simp only [Bool.and_eq_true]
 repeat' apply And.intro
 all_goals (as_aux_lemma=>kernel_rfl)
theorem over:Rows.worldCyclesRow.holds Tryz.pinned (OpenSpec.ofChange Rows.worldCyclesSpec) :=
 OpenClaim.holds_of_wide 6 Tryz.f6 rfl rfl rfl rfl rfl rfl rfl ⟨rfl,rfl,rfl,rfl,rfl⟩ rfl rfl rfl rfl rfl named Tryz.func6 closed
  (of_decide_eq_true (by kernel_rfl)) (by unfold Func.isWrapper;first | (rw [if_pos (by decide +kernel)];kernel_rfl) | (rw [if_neg (by decide +kernel)];exact ⟨rfl,rfl⟩))
  (fun os started H enc _=>lifted os started H enc)
theorem proved:Rows.WorldCyclesCardSaid :=
 Claim7.holds_tied_plain_at .later [] [.listed,.data] true (true,"dc92bd4387026cd28dff6f5581b6e64283f0ab8eba221ffec3606bd8a1f66895") false
  over (fun _ h=>by cases h) (by kernel_rfl) (fun _ h=>by cases h) worldCycles_row_tie rfl ⟨rfl,rfl⟩ (by as_aux_lemma=>kernel_rfl) rfl
  (fun f fn hf hfn=>by
   obtain rfl:f=6:=Option.some.inj (named.symm.trans hf) |>.symm
   obtain rfl:fn=Tryz.f6:=(Option.some.inj (Tryz.func6.symm.trans hfn)).symm
   exact ⟨by as_aux_lemma=>kernel_rfl,fun j t ht=>by
    have hb:(Tryz.f6.params.toList.all fun t=>!Tryz.prog.wantsStandIn t)=true:=by kernel_rfl
    have:=List.all_eq_true.1 hb t (Array.mem_toList_iff.2 (Array.mem_of_getElem? ht))
    have h2:Tryz.prog.wantsStandIn t=false:=by simpa using this
    exact h2⟩)
  (by as_aux_lemma=>kernel_rfl)
end
end Go.Proofs.YtlbcbikplfocfaaGreatDoor.worldCycles
