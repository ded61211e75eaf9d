/- LCeB -/
import Derived.Test.YtobooojhmgicpaaGreatDoorPart28
set_option linter.unusedVariables false
set_option linter.unusedSimpArgs false
namespace Go.Proofs.YtobooojhmgicpaaGreatDoor.W.E
section
set_option maxRecDepth 100000
open Go.RowKit
abbrev fCe:Nat:=4
noncomputable abbrev nCe:Nat:=Tryz.f4.ntmps
noncomputable abbrev rsCe:Array ResultVar:=Tryz.f4.results
noncomputable def cCe:Code:=match Tryz.f4.body with
 | some c=>c
 | none=>.skip
noncomputable def lCe:List Code:=flatC cCe
noncomputable def b1Ce:Code:=unLoop (atC lCe 14)
noncomputable def l1Ce:List Code:=flatC b1Ce
noncomputable def lbCe:List Code:=flatC (unBlock (atC l1Ce 2))
theorem lCe_eq:flatC cCe=lCe.take 14++([.block 0 (.loop b1Ce)]++lCe.drop 15):=by kernel_rfl
theorem l1Ce_eq:flatC b1Ce=l1Ce.take 2++([.block 1 (unBlock (atC l1Ce 2))]++l1Ce.drop 3):=by kernel_rfl
theorem lbCe_eq:flatC (unBlock (atC l1Ce 2))=lbCe.take 4++lbCe.drop 4:=by kernel_rfl
def itC (b:Bool) (j:Int):List V:=match b with
 | true=>[⟨2,j,[]⟩]
 | false=>[]
def hCe (b:Bool × Bool × Bool) (j:Int × Int × Int):Hp:=(((hBu.make 10 [] 0 (itC b.1 j.1)).1.make 10 [] 0 (itC b.2.1 j.2.1)).1.make 10 [] 0 (itC b.2.2 j.2.2)).1
def mCe (b:Bool × Bool × Bool) (j:Int × Int × Int):T SB:=mkT [(2,wldAt 1 []),(3,.cells [.int .i64 4,.int .i64 21,.str [],.int .i64 4,.int .i64 22,.str [],.int .i64 4,.int .i64 23,.str []] false [] (some 36)),
 (4,.cells [.bool b.1,.bool b.2.1,.bool b.2.2] false [] (some 37)),(5,.cells [.int .i64 j.1,.int .i64 j.2.1,.int .i64 j.2.2] false [] (some 38))]
def tCe (n:Nat) (i:Nat):List (Nat × SV):=[(0,.sl 0 0 n 3 none),(2,.bool false),(3,.bool true),(4,.ptr 2 0),(5,.ptr 3 0),(6,.ptr 4 0),(7,.ptr 5 0),(8,.int .i64 (Int.ofNat i))]
def sCe (n:Nat) (b:Bool × Bool × Bool) (j:Int × Int × Int) (i:Nat):SS:=(mkT (tCe n i),⟨mCe b j,6,⟨some (1,Hp.nm (hCe b j)),0,[],[],[]⟩⟩)
def sCl (n:Nat) (b:Bool × Bool × Bool) (j:Int × Int × Int) (i:Nat):SS:=(mkT ((10,.int .i64 0) :: tCe n i),⟨mCe b j,6,⟨some (1,Hp.nm (hCe b j)),0,[],[],[]⟩⟩)
abbrev kCe:List Nat:=[0,2,3,4,5,6,7,8]
abbrev kCl:List Nat:=[10,0,2,3,4,5,6,7,8]
abbrev vCe:Live:=[(0,0),(1,1),(2,2),(3,3),(4,4),(5,5)]
abbrev shCe:List (Bool × Bool × Bool):=[(false,false,false),(false,false,true),(false,true,false),(false,true,true),(true,false,false),(true,false,true),(true,true,false),(true,true,true)]
abbrev PB (fo:Nat→Option (List SV)) (f N:Nat) (live:Live) (keep:List Nat) (nx:Nat) (l:List Code) (is:List (Bool × Bool × Bool)) (s s2:Bool × Bool × Bool→SS) (x:Ex) (ps:List Prop):Prop :=
 (is.map fun i=>outN live keep nx (goP fo f N l (s i)))=is.map fun i=>outD x (s2 i).1 (s2 i).2 ps (goP fo f N l (s i))
theorem PB.at {fo:Nat→Option (List SV)} {f N:Nat} {live:Live} {keep:List Nat} {nx:Nat} {l:List Code} {is:List (Bool × Bool × Bool)} {s s2:Bool × Bool × Bool→SS} {x:Ex} {ps:List Prop} (h:PB fo f N live keep nx l is s s2 x ps) {i:Bool × Bool × Bool} (hi:i∈is):PT fo f N live keep nx l (s i) (s2 i) x ps:=List.map_inj_left.1 h i hi
theorem shCe_all (b:Bool × Bool × Bool):b∈shCe:=by
 obtain ⟨x,y,z⟩:=b
 cases x<;>cases y<;>cases z<;>simp
def set3 {α:Type} (t:α × α × α) (k:Nat) (x:α):α × α × α:=match k with
 | 0=>(x,t.2.1,t.2.2)
 | 1=>(t.1,x,t.2.2)
 | _=>(t.1,t.2.1,x)
end
end Go.Proofs.YtobooojhmgicpaaGreatDoor.W.E
