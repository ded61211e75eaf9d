/- WorldPrintsProof -/
import Derived.Test.YtlbcbikplfocfaaGreatDoorPart27
import Derived.Test.YtlbcbikplfocfaaGreatDoorTie
import Derived.Test.YtlbcbikplfocfaaGreatDoorCards
import Derived.Test.YtlbcbikplfocfaaGreatDoorLPrints
import Derived.SevenTiedAt
set_option linter.unusedVariables false
set_option linter.unusedSimpArgs false
namespace Go.Proofs.YtlbcbikplfocfaaGreatDoor.worldPrints
section
open Go Go.ChangeShapes Go.WideShapes Go.ChangeAt Go.RowKit
open Go.ChangeMaps (open_string shut_string)
set_option maxRecDepth 100000 in
theorem lifted (os:Os) (started:os.Started) (H:Type) (enc:TypeId × Value→H) :
  ReturnsInHanded {} Tryz.checked os 5 .any (fun w args=>(Rows.worldPrintsSpec.pre enc Tryz.prog Tryz.f5 [] false w args∧laidMetH Tryz.prog R.laid w)∧sizedMet enc Tryz.prog Tryz.f5 (OpenSpec.ofChange Rows.worldPrintsSpec) false w args)
   (Rows.worldPrintsSpec.post enc Tryz.prog Tryz.f5 false true false false):=by
 refine R.handed_laid_shaped (C:=Tryz.checked) (X:=fun w _=>laidMetH Tryz.prog R.laid w) (fun _ _ _ hh h=>h.of_heap hh) R.own started (by kernel_rfl) Tryz.func5
  (R.witness_ref (enc:=enc) (C:=Tryz.checked) (os:=os) (X:=fun w _=>laidMetH Tryz.prog R.laid w) false (R.laidWorld os) #[.slice none 0 0,.slice none 0 0] 8 rfl (by kernel_rfl) (by kernel_rfl) (by kernel_rfl) (by kernel_rfl) (by kernel_rfl) (R.laidWorld_met os _)) ?_
 intro W base args ds gs before hval0 hW hL hsh
 have hval:∀ (j:Nat) t v,Tryz.f5.params[j]?=some t→args[j]?=some v→Value.okWide Tryz.prog W .any base t v:=hval0
 have hW':=hW
 obtain ⟨p,q,hA0,hV,rfl,hfz,hnd⟩:=hW
 have hA:DataW.TrodAll enc Tryz.prog W 0 (fun _=>true) true Tryz.f5.params.toList args.toList ds p:=hA0
 rw [Tryz.params5] at hA hval
 obtain ⟨v0,vs0,d0,ds0,p0,q0,hargs,rfl,rfl,h0,r0⟩:=trodAll_cons hA
 obtain ⟨v1,vs1,d1,ds1,p1,q1,rfl,rfl,rfl,h1,r1⟩:=trodAll_cons r0
 obtain ⟨rfl,rfl,rfl⟩:=trodAll_nil r1
 obtain rfl:args=#[v0,v1]:=by cases args;simp_all
 obtain ⟨rfl,rfl⟩:=trodVars_none hV
 have ho0:=R.open_row Tryz.underlying46 (by kernel_rfl) (by decide) R.el_strs (hval 0 46 v0 rfl rfl) h0
 have ho1:=R.open_row Tryz.underlying47 (by kernel_rfl) (by decide) R.el_int (hval 1 47 v1 rfl rfl) h1
 clear hA0 hval0
 refine (_root_.Go.Proofs.YtlbcbikplfocfaaGreatDoor.W.E.prints_any W v0 v1 (R.gl_of hL hsh) ho0 ho1).mono fun e W' ⟨he,bel⟩=>?_
 subst he
 have hlt0:∀ x∈p0,x.block < W.heap.size:=fun x hx=>hW'.lt x (by simp [hx])
 have hlt1:∀ x∈p1,x.block < W.heap.size:=fun x hx=>hW'.lt x (by simp [hx])
 exact ⟨_,rfl,_,_,_,[],_,[],hW',trodAll_mk1 (shut_bool Tryz.underlying4 _),(trodAll_cons_mk (Below.trod (by kernel_rfl) (by kernel_rfl) (of_decide_eq_true (by kernel_rfl)) h0 (show Below _ _ _ from bel) hlt0) (trodAll_cons_mk (Below.trod (by kernel_rfl) (by kernel_rfl) (of_decide_eq_true (by kernel_rfl)) h1 (show Below _ _ _ from bel) hlt1) trodAll_mk0)),rfl,(show Below _ _ _ from bel).frame _,fun h=>by cases h⟩
theorem named:Tryz.prog.funcNamed Rows.worldPrintsRow.func=some 5:=by kernel_rfl
set_option maxRecDepth 100000 in
set_option maxHeartbeats 100000000 in
theorem closed:joinedFacts Tryz.pinned.checked.prog 5 Tryz.f5 Rows.worldPrintsSpec Rows.worldPrintsRow=true:=by
 unfold joinedFacts
 simp only [Bool.and_eq_true]
 repeat' apply And.intro
 all_goals (as_aux_lemma=>kernel_rfl)
theorem over:Rows.worldPrintsRow.holds Tryz.pinned (OpenSpec.ofChange Rows.worldPrintsSpec) :=
 OpenClaim.holds_of_wide 5 Tryz.f5 rfl rfl rfl rfl rfl rfl rfl ⟨rfl,rfl,rfl,rfl,rfl⟩ rfl rfl rfl rfl rfl named Tryz.func5 closed
  (of_decide_eq_true (by kernel_rfl)) (by unfold Func.isWrapper;first | (rw [if_pos (by decide +kernel)];kernel_rfl) | (rw [if_neg (by decide +kernel)];exact ⟨rfl,rfl⟩))
  (fun os started H enc _=>lifted os started H enc)
theorem proved:Rows.WorldPrintsCardSaid :=
 Claim7.holds_tied_plain_at .later [] [.listed,.data] true (true,"dc92bd4387026cd28dff6f5581b6e64283f0ab8eba221ffec3606bd8a1f66895") false
  over (fun _ h=>by cases h) (by kernel_rfl) (fun _ h=>by cases h) worldPrints_row_tie rfl ⟨rfl,rfl⟩ (by as_aux_lemma=>kernel_rfl) rfl
  (fun f fn hf hfn=>by
   obtain rfl:f=5:=Option.some.inj (named.symm.trans hf) |>.symm
   obtain rfl:fn=Tryz.f5:=(Option.some.inj (Tryz.func5.symm.trans hfn)).symm
   exact ⟨by as_aux_lemma=>kernel_rfl,fun j t ht=>by
    have hb:(Tryz.f5.params.toList.all fun t=>!Tryz.prog.wantsStandIn t)=true:=by kernel_rfl
    have:=List.all_eq_true.1 hb t (Array.mem_toList_iff.2 (Array.mem_of_getElem? ht))
    have h2:Tryz.prog.wantsStandIn t=false:=by simpa using this
    exact h2⟩)
  (by as_aux_lemma=>kernel_rfl)
end
end Go.Proofs.YtlbcbikplfocfaaGreatDoor.worldPrints
