/- LAfter GoN -/
import Derived.Test.YtbbokgpklihkoaaGreatDoorLAf0
import Derived.Test.YtbbokgpklihkoaaGreatDoorLAf1
import Derived.Test.YtbbokgpklihkoaaGreatDoorLAf2
import Derived.Test.YtbbokgpklihkoaaGreatDoorProg
import GoSem.ClaimGoes
import Derived.KernelRfl
set_option linter.unusedVariables false
set_option linter.unusedSimpArgs false
namespace Go.Proofs.YtbbokgpklihkoaaGreatDoor.W.E
section
set_option maxRecDepth 100000
open Go.RowKit
theorem afVR (k n k1 n1 k2 n2:Int) (s s1 s2:List UInt8):VRs (fun _=>none) [vA k n s,vA k1 n1 s1,vA k2 n2 s2] [uA k n s,uA k1 n1 s1,uA k2 n2 s2] :=
 .cons (.agg (.cons (.int _ _) (.cons (.int _ _) (.cons (.str _) .nil)))) (.cons (.agg (.cons (.int _ _) (.cons (.int _ _) (.cons (.str _) .nil)))) (.cons (.agg (.cons (.int _ _) (.cons (.int _ _) (.cons (.str _) .nil)))) .nil))
theorem after_any (k n:Int) (s:List UInt8) (k1 n1:Int) (s1:List UInt8) (k2 n2:Int) (s2:List UInt8):LawT fAf [uA k n s,uA k1 n1 s1,uA k2 n2 s2]:=by
 have eq:=o_eqV 23 rfl
 by_cases hk:k=2
 ·subst hk
  by_cases h1:n=1
  ·subst h1
   by_cases hx:k1=0
   ·subst hx
    exact RanB.law (afR2 2 1 0 n1 k2 n2 s s1 s2) ⟨eq _ _ _,trivial⟩ (afVR ..)
   ·exact RanB.law (afR3 2 1 k1 n1 k2 n2 s s1 s2) ⟨o_neq hx,o_ne hx,trivial⟩ (afVR ..)
  ·by_cases h2:n=2
   ·subst h2
    by_cases hx:k1=3
    ·subst hx
     exact RanB.law (afR4 2 2 3 n1 k2 n2 s s1 s2) ⟨eq _ _ _,trivial⟩ (afVR ..)
    ·exact RanB.law (afR5 2 2 k1 n1 k2 n2 s s1 s2) ⟨o_ne hx,o_ne hx,trivial⟩ (afVR ..)
   ·by_cases h3:n=3
    ·subst h3
     by_cases hx:k1=2
     ·subst hx
      by_cases hn:n1 < 0
      ·exact RanB.law (afR7 2 3 2 n1 k2 n2 s s1 s2) ⟨o_lt hn,o_lt hn,trivial⟩ (afVR ..)
      ·exact RanB.law (afR8 2 3 2 n1 k2 n2 s s1 s2) ⟨o_nlt hn,o_nlt hn,eq _ _ _,trivial⟩ (afVR ..)
     ·exact RanB.law (afR6 2 3 k1 n1 k2 n2 s s1 s2) ⟨o_ne hx,o_ne hx,trivial⟩ (afVR ..)
    ·exact RanB.law (afR1 2 n k1 n1 k2 n2 s s1 s2) ⟨o_neq h1,o_neq h1,o_neq h2,o_neq h3,o_neq h3,o_neq h1,o_neq h2,o_neq h3,eq _ _ _,trivial⟩ (afVR ..)
 ·exact RanB.law (afR0 k n k1 n1 k2 n2 s s1 s2) ⟨o_neq hk,o_neq hk,eq _ _ _,trivial⟩ (afVR ..)
end
end Go.Proofs.YtbbokgpklihkoaaGreatDoor.W.E
section
set_option maxRecDepth 100000
namespace Go.Proofs.YtbbokgpklihkoaaGreatDoor.W.R
theorem goes_no {P : Program} (h : (P.funcs.toList.all fun g => !g.goes) = true) (func : String) : false = P.goesAt .entering func := by
  have hf : ∀ g : Nat, (P.funcs[g]?).any Func.goes = false := fun g => by
    cases hq : P.funcs[g]? with
    | none => rfl
    | some fn =>
      have := List.all_eq_true.1 h fn (Array.mem_toList_iff.2 (Array.mem_of_getElem? hq))
      simpa using this
  have h2 : P.funcs.any Func.goes = false := by
    rw [← Array.any_toList]
    exact List.any_eq_false.2 fun x hx => by
      have := List.all_eq_true.1 h x hx
      simpa using this
  have hp : ∀ f, P.goes f = false := fun f => by
    unfold Program.goes
    rw [h2, Bool.and_false, Bool.or_false]
    simp [hf]
  unfold Program.goesAt Program.goesFrom
  cases P.funcNamed func with
  | none => rfl
  | some f => simp [hp]
theorem goes_all : (Tryz.prog.funcs.toList.all fun g => !g.goes) = true := by kernel_rfl
end Go.Proofs.YtbbokgpklihkoaaGreatDoor.W.R
end
