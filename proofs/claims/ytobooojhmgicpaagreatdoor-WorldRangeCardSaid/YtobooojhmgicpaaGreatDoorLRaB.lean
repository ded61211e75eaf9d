/- LRaB -/
import Derived.Test.YtobooojhmgicpaaGreatDoorPart28
set_option linter.unusedVariables false
set_option linter.unusedSimpArgs false
namespace Go.Proofs.YtobooojhmgicpaaGreatDoor.W.E
section
set_option maxRecDepth 100000
open Go.RowKit
abbrev fRa:Nat:=3
noncomputable abbrev nRa:Nat:=Tryz.f3.ntmps
noncomputable abbrev rsRa:Array ResultVar:=Tryz.f3.results
noncomputable def cRa:Code:=match Tryz.f3.body with
 | some c=>c
 | none=>.skip
noncomputable def lRa:List Code:=flatC cRa
noncomputable def b1Ra:Code:=unLoop (atC lRa 9)
noncomputable def l1Ra:List Code:=flatC b1Ra
noncomputable def lbRa:List Code:=flatC (unBlock (atC l1Ra 2))
noncomputable def b2Ra:Code:=unLoop (atC lbRa 4)
noncomputable def l2Ra:List Code:=flatC b2Ra
noncomputable def l3Ra:List Code:=flatC (unBlock (atC l2Ra 2))
theorem lRa_eq:flatC cRa=lRa.take 9++([.block 0 (.loop b1Ra)]++lRa.drop 10):=by kernel_rfl
theorem l1Ra_eq:flatC b1Ra=l1Ra.take 2++([.block 1 (unBlock (atC l1Ra 2))]++l1Ra.drop 3):=by kernel_rfl
theorem lbRa_eq:flatC (unBlock (atC l1Ra 2))=lbRa.take 4++[.block 2 (.loop b2Ra)]:=by kernel_rfl
theorem l2Ra_eq:flatC b2Ra=l2Ra.take 2++([.block 3 (unBlock (atC l2Ra 2))]++l2Ra.drop 3):=by kernel_rfl
def hRa (a b c:Int):Hp:=(hBu.make 9 [114,97,110,103,101] 0 [⟨2,a,[]⟩,⟨2,b,[]⟩,⟨2,c,[]⟩]).1
def hCo (h:Hp) (n b c:Int):Hp:=(h.make 9 [99,111,117,110,116] 0 [⟨2,n,[]⟩,⟨2,b,[]⟩,⟨2,c,[]⟩]).1
def sRa (a b c:Int) (turn:Nat) (h:Hp):SS :=
  (mkT [(0,.int .i64 a),(1,.int .i64 b),(2,.int .i64 c),(6,.bool false),(7,.bool true),(8,.ptr 1 0),(9,.ptr 2 0),(10,.int .i64 (Int.ofNat turn))],
   ⟨mkT [(1,wldC []),(2,.cells [.int .i64 1,.int .i64 0,.int .i64 0,.int .i64 4,.int .i64 21,.str [],.int .i64 0,.int .i64 0,.str [],.nils,.nils] false [] (some 29))],3,⟨some (0,Hp.nm h),0,[],[],[]⟩⟩)
def sIn (a b c:Int) (turn:Nat) (h:Hp) (it:Int) (at_:Int) (over:Bool) (i:Nat):SS :=
  (mkT [(0,.int .i64 a),(1,.int .i64 b),(2,.int .i64 c),(6,.bool false),(7,.bool true),(8,.ptr 1 0),(9,.ptr 2 0),(10,.int .i64 (Int.ofNat turn)),(11,.ptr 3 0),(12,.int .i64 at_),(13,.bool over),(14,.int .i64 (Int.ofNat i))],
   ⟨mkT [(1,wldC []),(2,.cells [.int .i64 1,.int .i64 0,.int .i64 0,.int .i64 4,.int .i64 21,.str [],.int .i64 0,.int .i64 0,.str [],.nils,.nils] false [] (some 29)),(3,.cells [.int .i64 4,.int .i64 it,.str []] false [] (some 26))],4,⟨some (0,Hp.nm h),0,[],[],[]⟩⟩)
abbrev kT:List Nat:=[0,1,2,6,7,8,9,10]
abbrev kI:List Nat:=[0,1,2,6,7,8,9,10,11,12,13,14]
abbrev lT:Live:=[(0,0),(1,1),(2,2)]
abbrev lI:Live:=[(0,0),(1,1),(2,2),(3,3)]
end
end Go.Proofs.YtobooojhmgicpaaGreatDoor.W.E
