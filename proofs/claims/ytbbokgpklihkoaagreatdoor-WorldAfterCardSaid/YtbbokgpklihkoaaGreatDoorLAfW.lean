/- LAfW -/
import Derived.Test.YtbbokgpklihkoaaGreatDoorLAfR
set_option linter.unusedVariables false
set_option linter.unusedSimpArgs false
namespace Go.Proofs.YtbbokgpklihkoaaGreatDoor.W.E
section
set_option maxRecDepth 100000
open Go.RowKit
abbrev fAf:Nat:=3
abbrev vA (k n:Int) (s:List UInt8):SV:=.agg [.int .i64 k,.int .i64 n,.str s]
abbrev uA (k n:Int) (s:List UInt8):Value:=.agg #[.int .i64 k,.int .i64 n,.string (bs s)]
def extB:ExtT:=fun j=>bif Nat.beq j fBo then some xBoR else extL j
theorem extB_ok:∀ f h,extB f=some h→extP f h:=extS_one (x:=xBoR) ⟨callable_of (by kernel_rfl),xBoR_ok⟩ extL_ok
abbrev RanB (vs:List SV) (tl:TL):Prop:=outL (run Tryz.prog extB 100000 100 fAf vs (st0 tl.sc)) (.bool true)=outR (run Tryz.prog extB 100000 100 fAf vs (st0 tl.sc)) (tl.ps [])
theorem RanB.law {vs:List SV} {tl:TL} (h:RanB vs tl) (ht:tl.ok) {us:List Value} (hvs:VRs (fun _=>none) vs us):LawT fAf us :=
 fun w hg=>run_call extB_ok h (TL.ps_all tl [] ht trivial) hvs (fun e x hx=>by cases hx;rfl) w hg
theorem eqB_self:∀ s:List UInt8,eqB s s=true
 | []=>rfl
 | a :: s=>by
  have h:cond (Nat.beq a.toNat a.toNat) (eqB s s) false=true:=by rw [Nat.beq_refl,cond_true];exact eqB_self s
  exact h
theorem o_eqV (t:Nat) (ht:t=23) (k n:Int) (s:List UInt8):binV Tryz.prog .eql t false (vA k n s) (vA k n s)=some (.bool true):=by
 have key:∃ F:Bool→Bool→Bool→Option SV,binV Tryz.prog .eql t false (vA k n s) (vA k n s)=F (k == k) (n == n) (eqB s s)∧F true true true=some (.bool true):=by
  subst ht
  exact ⟨fun a b c=>match (match some a with | some true=>(match some b with | some true=>(match some c with | some true=>some true | some false=>some false | none=>none) | some false=>some false | none=>none) | some false=>some false | none=>none) with | some r=>some (.bool r) | none=>none,by kernel_rfl,rfl⟩
 obtain ⟨F,h1,h2⟩:=key
 rw [h1,beq_self_eq_true,beq_self_eq_true,eqB_self,h2]
def qEq (o:Nat) (k n:Int) (s:List UInt8):TE:=qI o (binV Tryz.prog .eql 23 false (vA k n s) (vA k n s)) (.bool true)
def qIs (o:Nat) (x y:Int) (b:Bool):TE:=qI o (some (.bool (eqI x y))) (.bool b)
def qIsn (o:Nat) (x y:Int) (b:Bool):TE:=qI o (some (.bool (not (eqI x y)))) (.bool b)
def qLess (o:Nat) (x y:Int) (b:Bool):TE:=qI o (some (.bool (ltI x y))) (.bool b)
end
end Go.Proofs.YtbbokgpklihkoaaGreatDoor.W.E
