/- WorldAfterProof -/
import Derived.Test.YtbbokgpklihkoaaGreatDoorPart26
import Derived.Test.YtbbokgpklihkoaaGreatDoorTie
import Derived.Test.YtbbokgpklihkoaaGreatDoorCards
import Derived.Test.YtbbokgpklihkoaaGreatDoorPart42
import Derived.SevenTiedAt
set_option linter.unusedVariables false
set_option linter.unusedSimpArgs false
namespace Go.Proofs.YtbbokgpklihkoaaGreatDoor.worldAfter
section
open Go Go.ChangeShapes Go.WideShapes Go.ChangeAt Go.RowKit
open Go.ChangeMaps (open_string shut_string)
set_option maxRecDepth 100000 in
theorem lifted (os:Os) (started:os.Started) (H:Type) (enc:TypeId × Value→H) :
  ReturnsInHanded {} Tryz.checked os 3 .any (fun w args=>(Rows.worldAfterSpec.pre enc Tryz.prog Tryz.f3 [] false w args∧laidMetH Tryz.prog R.laid w)∧sizedMet enc Tryz.prog Tryz.f3 (OpenSpec.ofChange Rows.worldAfterSpec) false w args)
   (Rows.worldAfterSpec.post enc Tryz.prog Tryz.f3 false true false false):=by
 refine R.handed_laid_shaped (C:=Tryz.checked) (X:=fun w _=>laidMetH Tryz.prog R.laid w) (fun _ _ _ hh h=>h.of_heap hh) R.own started (by kernel_rfl) Tryz.func3
  (R.witness_ref (enc:=enc) (C:=Tryz.checked) (os:=os) (X:=fun w _=>laidMetH Tryz.prog R.laid w) false (R.laidWorld os) #[.agg #[.int .i64 0,.int .i64 0,.string ByteArray.empty],.agg #[.int .i64 0,.int .i64 0,.string ByteArray.empty],.agg #[.int .i64 0,.int .i64 0,.string ByteArray.empty]] 8 rfl (by kernel_rfl) (by kernel_rfl) (by kernel_rfl) (by kernel_rfl) (by kernel_rfl) (R.laidWorld_met os _)) ?_
 intro W base args ds gs before hval0 hW hL hsh
 have hval:∀ (j:Nat) t v,Tryz.f3.params[j]?=some t→args[j]?=some v→Value.okWide Tryz.prog W .any base t v:=hval0
 have hW':=hW
 obtain ⟨p,q,hA0,hV,rfl,hfz,hnd⟩:=hW
 have hA:DataW.TrodAll enc Tryz.prog W 0 (fun _=>true) true Tryz.f3.params.toList args.toList ds p:=hA0
 rw [Tryz.params3] at hA hval
 obtain ⟨v0,vs0,d0,ds0,p0,q0,hargs,rfl,rfl,h0,r0⟩:=trodAll_cons hA
 obtain ⟨v1,vs1,d1,ds1,p1,q1,rfl,rfl,rfl,h1,r1⟩:=trodAll_cons r0
 obtain ⟨v2,vs2,d2,ds2,p2,q2,rfl,rfl,rfl,h2,r2⟩:=trodAll_cons r1
 obtain ⟨rfl,rfl,rfl⟩:=trodAll_nil r2
 obtain rfl:args=#[v0,v1,v2]:=by cases args;simp_all
 obtain ⟨rfl,rfl⟩:=trodVars_none hV
 obtain ⟨k0,n0,s0,rfl,rfl,rfl,wa0,wb0,wc0⟩:=R.open_V (hval 0 23 v0 rfl rfl) h0
 obtain ⟨k1,n1,s1,rfl,rfl,rfl,wa1,wb1,wc1⟩:=R.open_V (hval 1 23 v1 rfl rfl) h1
 obtain ⟨k2,n2,s2,rfl,rfl,rfl,wa2,wb2,wc2⟩:=R.open_V (hval 2 23 v2 rfl rfl) h2
 clear hA0 hval0
 refine (_root_.Go.Proofs.YtbbokgpklihkoaaGreatDoor.W.E.after_any k0 n0 s0.data.toList k1 n1 s1.data.toList k2 n2 s2.data.toList W (R.gl_of hL hsh)).mono fun e W' ⟨he,bel⟩=>?_
 subst he
 exact ⟨_,rfl,_,_,_,[],_,[],hW',trodAll_mk1 (shut_bool Tryz.underlying4 _),(trodAll_cons_mk (R.shut_V wa0 wb0 wc0) (trodAll_cons_mk (R.shut_V wa1 wb1 wc1) (trodAll_cons_mk (R.shut_V wa2 wb2 wc2) trodAll_mk0))),rfl,(show Below _ _ _ from bel).frame _,fun h=>by cases h⟩
theorem named:Tryz.prog.funcNamed Rows.worldAfterRow.func=some 3:=by kernel_rfl
set_option maxRecDepth 100000 in
set_option maxHeartbeats 100000000 in
theorem closed:joinedFacts Tryz.pinned.checked.prog 3 Tryz.f3 Rows.worldAfterSpec Rows.worldAfterRow=true:=by
 unfold joinedFacts
 simp only [Bool.and_eq_true]
 repeat' apply And.intro
 all_goals (as_aux_lemma=>kernel_rfl)
theorem over:Rows.worldAfterRow.holds Tryz.pinned (OpenSpec.ofChange Rows.worldAfterSpec) :=
 OpenClaim.holds_of_wide 3 Tryz.f3 rfl rfl rfl rfl rfl rfl rfl ⟨rfl,rfl,rfl,rfl,rfl⟩ rfl rfl rfl rfl rfl named Tryz.func3 closed
  (of_decide_eq_true (by kernel_rfl)) (by unfold Func.isWrapper;first | (rw [if_pos (by decide +kernel)];kernel_rfl) | (rw [if_neg (by decide +kernel)];exact ⟨rfl,rfl⟩))
  (fun os started H enc _=>lifted os started H enc)
theorem proved:Rows.WorldAfterCardSaid :=
 Claim7.holds_tied_plain_at .later [] [.listed,.data] true (true,"83c45fc43a77779cb0e7473bf93c71f7ad192b0f33713eb80ad301779e446663") false
  over (fun _ h=>by cases h) (by kernel_rfl) (fun _ h=>by cases h) worldAfter_row_tie rfl ⟨rfl,rfl⟩ (by as_aux_lemma=>kernel_rfl) rfl
  (fun f fn hf hfn=>by
   obtain rfl:f=3:=Option.some.inj (named.symm.trans hf) |>.symm
   obtain rfl:fn=Tryz.f3:=(Option.some.inj (Tryz.func3.symm.trans hfn)).symm
   exact ⟨by as_aux_lemma=>kernel_rfl,fun j t ht=>by
    have hb:(Tryz.f3.params.toList.all fun t=>!Tryz.prog.wantsStandIn t)=true:=by kernel_rfl
    have:=List.all_eq_true.1 hb t (Array.mem_toList_iff.2 (Array.mem_of_getElem? ht))
    have h2:Tryz.prog.wantsStandIn t=false:=by simpa using this
    exact h2⟩)
  (by exact _root_.Go.Proofs.YtbbokgpklihkoaaGreatDoor.W.R.goes_no _root_.Go.Proofs.YtbbokgpklihkoaaGreatDoor.W.R.goes_all _)
end
end Go.Proofs.YtbbokgpklihkoaaGreatDoor.worldAfter
