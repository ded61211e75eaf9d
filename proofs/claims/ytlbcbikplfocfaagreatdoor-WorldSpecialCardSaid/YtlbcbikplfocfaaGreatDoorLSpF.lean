/- LSpF -/
import Derived.Test.YtlbcbikplfocfaaGreatDoorLSpS
import Derived.Test.YtlbcbikplfocfaaGreatDoorLSpA1
import Derived.Test.YtlbcbikplfocfaaGreatDoorLSpA2
import Derived.Test.YtlbcbikplfocfaaGreatDoorLSpC
set_option linter.unusedVariables false
set_option linter.unusedSimpArgs false
namespace Go.Proofs.YtlbcbikplfocfaaGreatDoor.W.E
section
set_option maxRecDepth 100000
open Go.RowKit
theorem spPlA:∀ i,i < 8→okSp (cdS i):=fun i hi=>by
 have h:((List.range 8).all fun i=>(cdS i).all fun c=>planOkC (plan fSp) c)=true:=by kernel_rfl
 exact List.all_eq_true.1 h i (List.mem_range.2 hi)
theorem eight {P:Nat→Prop} (h0:P 0) (h1:P 1) (h2:P 2) (h3:P 3) (h4:P 4) (h5:P 5) (h6:P 6) (h7:P 7):∀ i,i < 8→P i
 | 0,_=>h0
 | 1,_=>h1
 | 2,_=>h2
 | 3,_=>h3
 | 4,_=>h4
 | 5,_=>h5
 | 6,_=>h6
 | 7,_=>h7
 | i + 8,h=>absurd h (by omega)
section
variable {w0:B0} (hH:Hd w0 fo0 0) {b:Nat→Bool} {r:Nat} {g:Nat→List UInt8} {fn:Nat→Int} {c o:Int} {D:Row} {U:Nat} (hU:U + 200≤uMax)
include hH hU in
theorem spSteps1 {cd:Nat→Int}:∀ i,i < 8→StepP w0 b 1 i r g cd fn c o D U:=eight
 (AStepR hH hU (by simp) (by omega) (spPlA _ (by omega)) rfl (fun X hw hf=>⟨_,_,sp10r X hw hf⟩) (fun X hw=>⟨_,_,_,_,_,_,_,by decide,.inl ⟨rfl,rfl⟩,sp10u X hw⟩))
 (AStepN hH hU (by simp) (by omega) (spPlA _ (by omega)) rfl (fun X hw hf=>⟨_,_,_,_,_,_,_,by decide,.inr ⟨rfl,rfl⟩,sp11w X hw hf⟩) (fun X hw=>⟨_,_,_,_,_,_,_,by decide,.inl ⟨rfl,rfl⟩,sp11u X hw⟩))
 (AStepN hH hU (by simp) (by omega) (spPlA _ (by omega)) rfl (fun X hw hf=>⟨_,_,_,_,_,_,_,by decide,.inr ⟨rfl,rfl⟩,sp12w X hw hf⟩) (fun X hw=>⟨_,_,_,_,_,_,_,by decide,.inr ⟨rfl,rfl⟩,sp12u X hw⟩))
 (AStepR hH hU (by simp) (by omega) (spPlA _ (by omega)) rfl (fun X hw hf=>⟨_,_,sp13r X hw hf⟩) (fun X hw=>⟨_,_,_,_,_,_,_,by decide,.inr ⟨rfl,rfl⟩,sp13u X hw⟩))
 (AStepN hH hU (by simp) (by omega) (spPlA _ (by omega)) rfl (fun X hw hf=>⟨_,_,_,_,_,_,_,by decide,.inr ⟨rfl,rfl⟩,sp14w X hw hf⟩) (fun X hw=>⟨_,_,_,_,_,_,_,by decide,.inr ⟨rfl,rfl⟩,sp14u X hw⟩))
 (AStepR hH hU (by simp) (by omega) (spPlA _ (by omega)) rfl (fun X hw hf=>⟨_,_,sp15r X hw hf⟩) (fun X hw=>⟨_,_,_,_,_,_,_,by decide,.inr ⟨rfl,rfl⟩,sp15u X hw⟩))
 (AStepR hH hU (by simp) (by omega) (spPlA _ (by omega)) rfl (fun X hw hf=>⟨_,_,sp16r X hw hf⟩) (fun X hw=>⟨_,_,_,_,_,_,_,by decide,.inr ⟨rfl,rfl⟩,sp16u X hw⟩))
 (AStepR hH hU (by simp) (by omega) (spPlA _ (by omega)) rfl (fun X hw hf=>⟨_,_,sp17r X hw hf⟩) (fun X hw=>⟨_,_,_,_,_,_,_,by decide,.inr ⟨rfl,rfl⟩,sp17u X hw⟩))
include hH hU in
theorem spSteps2 {cd:Nat→Int}:∀ i,i < 8→StepP w0 b 2 i r g cd fn c o D U:=eight
 (AStepN hH hU (by simp) (by omega) (spPlA _ (by omega)) rfl (fun X hw hf=>⟨_,_,_,_,_,_,_,by decide,.inr ⟨rfl,rfl⟩,sp20w X hw hf⟩) (fun X hw=>⟨_,_,_,_,_,_,_,by decide,.inl ⟨rfl,rfl⟩,sp20u X hw⟩))
 (AStepR hH hU (by simp) (by omega) (spPlA _ (by omega)) rfl (fun X hw hf=>⟨_,_,sp21r X hw hf⟩) (fun X hw=>⟨_,_,_,_,_,_,_,by decide,.inl ⟨rfl,rfl⟩,sp21u X hw⟩))
 (AStepR hH hU (by simp) (by omega) (spPlA _ (by omega)) rfl (fun X hw hf=>⟨_,_,sp22r X hw hf⟩) (fun X hw=>⟨_,_,_,_,_,_,_,by decide,.inr ⟨rfl,rfl⟩,sp22u X hw⟩))
 (AStepN hH hU (by simp) (by omega) (spPlA _ (by omega)) rfl (fun X hw hf=>⟨_,_,_,_,_,_,_,by decide,.inr ⟨rfl,rfl⟩,sp23w X hw hf⟩) (fun X hw=>⟨_,_,_,_,_,_,_,by decide,.inr ⟨rfl,rfl⟩,sp23u X hw⟩))
 (AStepR hH hU (by simp) (by omega) (spPlA _ (by omega)) rfl (fun X hw hf=>⟨_,_,sp24r X hw hf⟩) (fun X hw=>⟨_,_,_,_,_,_,_,by decide,.inr ⟨rfl,rfl⟩,sp24u X hw⟩))
 (AStepR hH hU (by simp) (by omega) (spPlA _ (by omega)) rfl (fun X hw hf=>⟨_,_,sp25r X hw hf⟩) (fun X hw=>⟨_,_,_,_,_,_,_,by decide,.inr ⟨rfl,rfl⟩,sp25u X hw⟩))
 (AStepN hH hU (by simp) (by omega) (spPlA _ (by omega)) rfl (fun X hw hf=>⟨_,_,_,_,_,_,_,by decide,.inr ⟨rfl,rfl⟩,sp26w X hw hf⟩) (fun X hw=>⟨_,_,_,_,_,_,_,by decide,.inr ⟨rfl,rfl⟩,sp26u X hw⟩))
 (AStepN hH hU (by simp) (by omega) (spPlA _ (by omega)) rfl (fun X hw hf=>⟨_,_,_,_,_,_,_,by decide,.inr ⟨rfl,rfl⟩,sp27w X hw hf⟩) (fun X hw=>⟨_,_,_,_,_,_,_,by decide,.inr ⟨rfl,rfl⟩,sp27u X hw⟩))
include hH in
theorem spLooks1:∀ i,i < 8→LookP w0 b 1 i r g:=eight
 (ALook hH (fun hc hq=>⟨_,sk10r hc⟩) (fun hc hk=>⟨_,sk10u hk hc⟩))
 (ALook hH (fun hc hq=>⟨_,sk11w (hq rfl) hc⟩) (fun hc hk=>⟨_,sk11u hk hc⟩))
 (ALook hH (fun hc hq=>⟨_,sk12w (hq rfl) hc⟩) (fun hc hk=>⟨_,sk12u hk hc⟩))
 (ALook hH (fun hc hq=>⟨_,sk13r hc⟩) (fun hc hk=>⟨_,sk13u hk hc⟩))
 (ALook hH (fun hc hq=>⟨_,sk14w (hq rfl) hc⟩) (fun hc hk=>⟨_,sk14u hk hc⟩))
 (ALook hH (fun hc hq=>⟨_,sk15r hc⟩) (fun hc hk=>⟨_,sk15u hk hc⟩))
 (ALook hH (fun hc hq=>⟨_,sk16r hc⟩) (fun hc hk=>⟨_,sk16u hk hc⟩))
 (ALook hH (fun hc hq=>⟨_,sk17r hc⟩) (fun hc hk=>⟨_,sk17u hk hc⟩))
include hH in
theorem spLooks2:∀ i,i < 8→LookP w0 b 2 i r g:=eight
 (ALook hH (fun hc hq=>⟨_,sk20w (hq rfl) hc⟩) (fun hc hk=>⟨_,sk20u hk hc⟩))
 (ALook hH (fun hc hq=>⟨_,sk21r hc⟩) (fun hc hk=>⟨_,sk21u hk hc⟩))
 (ALook hH (fun hc hq=>⟨_,sk22r hc⟩) (fun hc hk=>⟨_,sk22u hk hc⟩))
 (ALook hH (fun hc hq=>⟨_,sk23w (hq rfl) hc⟩) (fun hc hk=>⟨_,sk23u hk hc⟩))
 (ALook hH (fun hc hq=>⟨_,sk24r hc⟩) (fun hc hk=>⟨_,sk24u hk hc⟩))
 (ALook hH (fun hc hq=>⟨_,sk25r hc⟩) (fun hc hk=>⟨_,sk25u hk hc⟩))
 (ALook hH (fun hc hq=>⟨_,sk26w (hq rfl) hc⟩) (fun hc hk=>⟨_,sk26u hk hc⟩))
 (ALook hH (fun hc hq=>⟨_,sk27w (hq rfl) hc⟩) (fun hc hk=>⟨_,sk27u hk hc⟩))
end
theorem tn1:Tn 1:=⟨fun rs w l m o=>⟨_,spK1⟩,fun rs w l m o=>skX1,clR1,by simp,fun hH=>spLooks1 hH,fun hH hU=>spSteps1 hH hU⟩
theorem tn2:Tn 2:=⟨fun rs w l m o=>⟨_,spK2⟩,fun rs w l m o=>skX2,clR2,by simp,fun hH=>spLooks2 hH,fun hH hU=>spSteps2 hH hU⟩
end
end Go.Proofs.YtlbcbikplfocfaaGreatDoor.W.E
