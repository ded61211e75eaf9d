/- WalkNestedProof -/
import Derived.Test.YtmelcflkbfhohaaGreatDoorPart8
import Derived.Test.YtmelcflkbfhohaaGreatDoorTie
import Derived.Test.YtmelcflkbfhohaaGreatDoorCards
import Derived.Test.YtmelcflkbfhohaaGreatDoorLNested
import Derived.SevenTiedAt
set_option linter.unusedVariables false
set_option linter.unusedSimpArgs false
namespace Go.Proofs.YtmelcflkbfhohaaGreatDoor.walkNested
section
open Go Go.ChangeShapes Go.WideShapes Go.ChangeAt Go.RowKit
open Go.ChangeMaps (open_string shut_string)
set_option maxRecDepth 100000 in
theorem lifted (os:Os) (started:os.Started) (H:Type) (enc:TypeId × Value→H) :
  ReturnsInHanded {} Tryz.checked os 3 .any (fun w args=>(Rows.walkNestedSpec.pre enc Tryz.prog Tryz.f3 [] false w args∧laidMetH Tryz.prog R.laid w)∧sizedMet enc Tryz.prog Tryz.f3 (OpenSpec.ofChange Rows.walkNestedSpec) false w args)
   (Rows.walkNestedSpec.post enc Tryz.prog Tryz.f3 false true false false):=by
 refine R.handed_laid_shaped (C:=Tryz.checked) (X:=fun w _=>laidMetH Tryz.prog R.laid w) (fun _ _ _ hh h=>h.of_heap hh) R.own started (by kernel_rfl) Tryz.func3
  (R.witness_ref (enc:=enc) (C:=Tryz.checked) (os:=os) (X:=fun w _=>laidMetH Tryz.prog R.laid w) false (R.laidWorld os) #[.int .i64 0] 8 rfl (by kernel_rfl) (by kernel_rfl) (by kernel_rfl) (by kernel_rfl) (by kernel_rfl) (R.laidWorld_met os _)) ?_
 intro W base args ds gs before hval0 hW hL hsh
 have hval:∀ (j:Nat) t v,Tryz.f3.params[j]?=some t→args[j]?=some v→Value.okWide Tryz.prog W .any base t v:=hval0
 have hW':=hW
 obtain ⟨p,q,hA0,hV,rfl,hfz,hnd⟩:=hW
 have hA:DataW.TrodAll enc Tryz.prog W 0 (fun _=>true) true Tryz.f3.params.toList args.toList ds p:=hA0
 rw [Tryz.params3] at hA hval
 obtain ⟨v0,vs0,d0,ds0,p0,q0,hargs,rfl,rfl,h0,r0⟩:=trodAll_cons hA
 obtain ⟨rfl,rfl,rfl⟩:=trodAll_nil r0
 obtain rfl:args=#[v0]:=by cases args;simp_all
 obtain ⟨rfl,rfl⟩:=trodVars_none hV
 obtain ⟨a0,rfl,rfl,rfl,w0⟩:=open_int Tryz.underlying3 (hval 0 3 v0 rfl rfl) h0
 clear hA0 hval0
 refine (_root_.Go.Proofs.YtmelcflkbfhohaaGreatDoor.W.E.nested_any a0 W (R.gl_of hL hsh)).mono fun e W' ⟨he,bel⟩=>?_
 subst he
 exact ⟨_,rfl,_,_,_,[],_,[],hW',trodAll_mk1 (shut_bool Tryz.underlying4 _),(trodAll_cons_mk (shut_int Tryz.underlying3 w0) trodAll_mk0),rfl,(show Below _ _ _ from bel).frame _,fun h=>by cases h⟩
theorem named:Tryz.prog.funcNamed Rows.walkNestedRow.func=some 3:=by kernel_rfl
set_option maxRecDepth 100000 in
set_option maxHeartbeats 100000000 in
theorem closed:joinedFacts Tryz.pinned.checked.prog 3 Tryz.f3 Rows.walkNestedSpec Rows.walkNestedRow=true:=by
 unfold joinedFacts
 simp only [Bool.and_eq_true]
 repeat' apply And.intro
 all_goals (as_aux_lemma=>kernel_rfl)
theorem over:Rows.walkNestedRow.holds Tryz.pinned (OpenSpec.ofChange Rows.walkNestedSpec) :=
 OpenClaim.holds_of_wide 3 Tryz.f3 rfl rfl rfl rfl rfl rfl rfl ⟨rfl,rfl,rfl,rfl,rfl⟩ rfl rfl rfl rfl rfl named Tryz.func3 closed
  (of_decide_eq_true (by kernel_rfl)) (by unfold Func.isWrapper;first | (rw [if_pos (by decide +kernel)];kernel_rfl) | (rw [if_neg (by decide +kernel)];exact ⟨rfl,rfl⟩))
  (fun os started H enc _=>lifted os started H enc)
theorem proved:Rows.WalkNestedCardSaid :=
 Claim7.holds_tied_plain_at .later [] [.data,.listed,.data,.pinned] true (true,"89587c52ff6d95576efce74b3e34796ddf7ff9cd136462baa7f98c2da4d695dd") false
  over (fun _ h=>by cases h) (by kernel_rfl) (fun _ h=>by cases h) walkNested_row_tie rfl ⟨rfl,rfl⟩ (by as_aux_lemma=>kernel_rfl) rfl
  (fun f fn hf hfn=>by
   obtain rfl:f=3:=Option.some.inj (named.symm.trans hf) |>.symm
   obtain rfl:fn=Tryz.f3:=(Option.some.inj (Tryz.func3.symm.trans hfn)).symm
   exact ⟨by as_aux_lemma=>kernel_rfl,fun j t ht=>by
    have hb:(Tryz.f3.params.toList.all fun t=>!Tryz.prog.wantsStandIn t)=true:=by kernel_rfl
    have:=List.all_eq_true.1 hb t (Array.mem_toList_iff.2 (Array.mem_of_getElem? ht))
    have h2:Tryz.prog.wantsStandIn t=false:=by simpa using this
    exact h2⟩)
  (by as_aux_lemma=>kernel_rfl)
end
end Go.Proofs.YtmelcflkbfhohaaGreatDoor.walkNested
