/- WnD -/
import Derived.Test.YtmelcflkbfhohaaGreatDoorPart12
set_option linter.unusedVariables false
set_option linter.unusedSimpArgs false
namespace Go.Proofs.YtmelcflkbfhohaaGreatDoor.W.E
section
set_option maxRecDepth 100000
open Go.RowKit
theorem riA:CallZ 9 [vA] tA tA (.bool true):=CallR.call (live:=idZ 4 0) (tl:=[]) ext2_ok (by unfold CallR;kernel_rfl) trivial (fun b hb=>idZ_mem 4 0 b (Nat.zero_le _) hb)
theorem riB:CallZ 9 [vB] tB tB (.bool true):=CallR.call (live:=idZ 8 0) (tl:=[]) ext2_ok (by unfold CallR;kernel_rfl) trivial (fun b hb=>idZ_mem 8 0 b (Nat.zero_le _) hb)
theorem ext3_ok:∀ g x,ext3 g=some x→extP g x:=extAdd_ok (callable_of (by kernel_rfl)) (orX_ok (xZ_ok (Nat.le_refl _) (by decide) riA) (xZ_ok (Nat.le_refl _) (by decide) riB)) ext2_ok
theorem ofA:CallZ 10 [vA] tA esA voA:=CallR.call (live:=idZ 4 0++[(12,4),(47,5)]) (tl:=[]) ext3_ok (by unfold CallR;kernel_rfl) trivial (fun b hb=>List.mem_append_left _ (idZ_mem 4 0 b (Nat.zero_le _) hb))
theorem ofB:CallZ 10 [vB] tB esB voB:=CallR.call (live:=idZ 8 0++[(34,8),(81,9),(92,10)]) (tl:=[]) ext3_ok (by unfold CallR;kernel_rfl) trivial (fun b hb=>List.mem_append_left _ (idZ_mem 8 0 b (Nat.zero_le _) hb))
theorem ext4_ok:∀ g x,ext4 g=some x→extP g x:=extAdd_ok (callable_of (by kernel_rfl)) (orX_ok (xZ_ok (by decide) (by decide) ofA) (xZ_ok (by decide) (by decide) ofB)) ext3_ok
theorem awZ:CallZ 4 [] [] [] (.bool true):=CallR.call (live:=[]) (tl:=[]) ext4_ok (by unfold CallR;kernel_rfl) trivial (fun b hb=>absurd hb (Nat.not_lt_zero b))
abbrev preQ (b:Int):Prop:=QTF ext4 fo0 fRun 57 livP [6,10] 19 preR (s0Z b) (pZ b) .normal []
abbrev sixQ (b:Int):Prop:=QTF extE fo0 fRun 57 liv6 [6,10] 33 (List.replicate 6 loopR) (pZ b) (sZ 0 b) .normal []
theorem pre (b:Int):preQ b:=by delta preQ QTF;kernel_rfl
theorem six (b:Int):sixQ b:=by delta sixQ QTF;kernel_rfl
end
end Go.Proofs.YtmelcflkbfhohaaGreatDoor.W.E
