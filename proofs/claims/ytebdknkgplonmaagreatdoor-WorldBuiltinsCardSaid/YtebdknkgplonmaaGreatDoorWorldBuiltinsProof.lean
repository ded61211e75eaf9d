/- WorldBuiltinsProof -/
import Derived.Test.YtebdknkgplonmaaGreatDoorPart27
import Derived.Test.YtebdknkgplonmaaGreatDoorTie
import Derived.Test.YtebdknkgplonmaaGreatDoorCards
import Derived.Test.YtebdknkgplonmaaGreatDoorLBuiltins
import Derived.SevenTiedAt
set_option linter.unusedVariables false
set_option linter.unusedSimpArgs false
namespace Go.Proofs.YtebdknkgplonmaaGreatDoor.worldBuiltins
section
open Go Go.ChangeShapes Go.WideShapes Go.ChangeAt Go.RowKit
open Go.ChangeMaps (open_string shut_string)
set_option maxRecDepth 100000 in
theorem lifted (os:Os) (started:os.Started) (H:Type) (enc:TypeId × Value→H) :
  ReturnsInHanded {} Tryz.checked os 10 .any (fun w args=>(Rows.worldBuiltinsSpec.pre enc Tryz.prog Tryz.f10 [] false w args∧laidMetH Tryz.prog R.laid w)∧sizedMet enc Tryz.prog Tryz.f10 (OpenSpec.ofChange Rows.worldBuiltinsSpec) false w args)
   (Rows.worldBuiltinsSpec.post enc Tryz.prog Tryz.f10 false true false false):=by
 refine R.handed_laid_shaped (C:=Tryz.checked) (X:=fun w _=>laidMetH Tryz.prog R.laid w) (fun _ _ _ hh h=>h.of_heap hh) R.own started (by kernel_rfl) Tryz.func10
  (R.witness_ref (enc:=enc) (C:=Tryz.checked) (os:=os) (X:=fun w _=>laidMetH Tryz.prog R.laid w) false (R.laidWorld os) #[.int .i64 0,.string ByteArray.empty] 8 rfl (by kernel_rfl) (by kernel_rfl) (by kernel_rfl) (by kernel_rfl) (by kernel_rfl) (R.laidWorld_met os _)) ?_
 intro W base args ds gs before hval0 hW hL hsh
 have hval:∀ (j:Nat) t v,Tryz.f10.params[j]?=some t→args[j]?=some v→Value.okWide Tryz.prog W .any base t v:=hval0
 have hW':=hW
 obtain ⟨p,q,hA0,hV,rfl,hfz,hnd⟩:=hW
 have hA:DataW.TrodAll enc Tryz.prog W 0 (fun _=>true) true Tryz.f10.params.toList args.toList ds p:=hA0
 rw [Tryz.params10] at hA hval
 obtain ⟨v0,vs0,d0,ds0,p0,q0,hargs,rfl,rfl,h0,r0⟩:=trodAll_cons hA
 obtain ⟨v1,vs1,d1,ds1,p1,q1,rfl,rfl,rfl,h1,r1⟩:=trodAll_cons r0
 obtain ⟨rfl,rfl,rfl⟩:=trodAll_nil r1
 obtain rfl:args=#[v0,v1]:=by cases args;simp_all
 obtain ⟨rfl,rfl⟩:=trodVars_none hV
 obtain ⟨a0,rfl,rfl,rfl,w0⟩:=open_int Tryz.underlying3 (hval 0 3 v0 rfl rfl) h0
 obtain ⟨a1,rfl,rfl,rfl,w1⟩:=open_string Tryz.underlying9 (hval 1 9 v1 rfl rfl) h1
 clear hA0 hval0
 refine (_root_.Go.Proofs.YtebdknkgplonmaaGreatDoor.W.E.builtins_any a0 a1.data.toList W (R.gl_of hL hsh)).mono fun e W' ⟨he,bel⟩=>?_
 subst he
 exact ⟨_,rfl,_,_,_,[],_,[],hW',trodAll_mk1 (shut_bool Tryz.underlying4 _),(trodAll_cons_mk (shut_int Tryz.underlying3 w0) (trodAll_cons_mk (shut_string Tryz.underlying9 w1) trodAll_mk0)),rfl,(show Below _ _ _ from bel).frame _,fun h=>by cases h⟩
theorem named:Tryz.prog.funcNamed Rows.worldBuiltinsRow.func=some 10:=by kernel_rfl
set_option maxRecDepth 100000 in
set_option maxHeartbeats 100000000 in
theorem closed:joinedFacts Tryz.pinned.checked.prog 10 Tryz.f10 Rows.worldBuiltinsSpec Rows.worldBuiltinsRow=true:=by
 unfold joinedFacts
 simp only [Bool.and_eq_true]
 repeat' apply And.intro
 all_goals (as_aux_lemma=>kernel_rfl)
theorem over:Rows.worldBuiltinsRow.holds Tryz.pinned (OpenSpec.ofChange Rows.worldBuiltinsSpec) :=
 OpenClaim.holds_of_wide 10 Tryz.f10 rfl rfl rfl rfl rfl rfl rfl ⟨rfl,rfl,rfl,rfl,rfl⟩ rfl rfl rfl rfl rfl named Tryz.func10 closed
  (of_decide_eq_true (by kernel_rfl)) (by unfold Func.isWrapper;first | (rw [if_pos (by decide +kernel)];kernel_rfl) | (rw [if_neg (by decide +kernel)];exact ⟨rfl,rfl⟩))
  (fun os started H enc _=>lifted os started H enc)
theorem proved:Rows.WorldBuiltinsCardSaid :=
 Claim7.holds_tied_plain_at .later [] [.listed,.data] true (true,"4da3074802a7d71f98667f7c41bc54ec72b57e908c168459d4fd6011d5200f9e") false
  over (fun _ h=>by cases h) (by kernel_rfl) (fun _ h=>by cases h) worldBuiltins_row_tie rfl ⟨rfl,rfl⟩ (by as_aux_lemma=>kernel_rfl) rfl
  (fun f fn hf hfn=>by
   obtain rfl:f=10:=Option.some.inj (named.symm.trans hf) |>.symm
   obtain rfl:fn=Tryz.f10:=(Option.some.inj (Tryz.func10.symm.trans hfn)).symm
   exact ⟨by as_aux_lemma=>kernel_rfl,fun j t ht=>by
    have hb:(Tryz.f10.params.toList.all fun t=>!Tryz.prog.wantsStandIn t)=true:=by kernel_rfl
    have:=List.all_eq_true.1 hb t (Array.mem_toList_iff.2 (Array.mem_of_getElem? ht))
    have h2:Tryz.prog.wantsStandIn t=false:=by simpa using this
    exact h2⟩)
  (by as_aux_lemma=>kernel_rfl)
end
end Go.Proofs.YtebdknkgplonmaaGreatDoor.worldBuiltins
