/- LCyB -/
import Derived.Test.YtlbcbikplfocfaaGreatDoorMore0
import Derived.Test.YtlbcbikplfocfaaGreatDoorMore2
import Derived.Test.YtlbcbikplfocfaaGreatDoorEvB
import Derived.Test.YtlbcbikplfocfaaGreatDoorEvR2
import Derived.Test.YtlbcbikplfocfaaGreatDoorObjD
import Derived.Test.YtlbcbikplfocfaaGreatDoorPart0
import Derived.Test.YtlbcbikplfocfaaGreatDoorPart1
import Derived.Test.YtlbcbikplfocfaaGreatDoorPart10
import Derived.Test.YtlbcbikplfocfaaGreatDoorPart11
import Derived.Test.YtlbcbikplfocfaaGreatDoorPart12
import Derived.Test.YtlbcbikplfocfaaGreatDoorPart13
import Derived.Test.YtlbcbikplfocfaaGreatDoorPart14
import Derived.Test.YtlbcbikplfocfaaGreatDoorPart15
import Derived.Test.YtlbcbikplfocfaaGreatDoorPart16
import Derived.Test.YtlbcbikplfocfaaGreatDoorPart17
import Derived.Test.YtlbcbikplfocfaaGreatDoorPart18
import Derived.Test.YtlbcbikplfocfaaGreatDoorPart19
import Derived.Test.YtlbcbikplfocfaaGreatDoorPart2
import Derived.Test.YtlbcbikplfocfaaGreatDoorPart20
import Derived.Test.YtlbcbikplfocfaaGreatDoorPart21
import Derived.Test.YtlbcbikplfocfaaGreatDoorPart22
import Derived.Test.YtlbcbikplfocfaaGreatDoorPart24
import Derived.Test.YtlbcbikplfocfaaGreatDoorPart25
import Derived.Test.YtlbcbikplfocfaaGreatDoorPart26
import Derived.Test.YtlbcbikplfocfaaGreatDoorPart4
import Derived.Test.YtlbcbikplfocfaaGreatDoorPart6
import Derived.Test.YtlbcbikplfocfaaGreatDoorPart7
import Derived.Test.YtlbcbikplfocfaaGreatDoorPart8
import Derived.Test.YtlbcbikplfocfaaGreatDoorPart9
set_option linter.unusedVariables false
set_option linter.unusedSimpArgs false
namespace Go.Proofs.YtlbcbikplfocfaaGreatDoor.W.E
section
set_option maxRecDepth 100000
open Go.RowKit
def extC:ExtT:=fun f=>bif Nat.beq f 135 then some xCollect else extL f
theorem extC_ok:∀ f h,extC f=some h→extP f h:=fun f h hf=>by
 unfold extC at hf
 cases hb:Nat.beq f 135 with
 | true =>
  rw [hb,cond_true] at hf
  cases hf
  have:=Nat.eq_of_beq_eq_true hb
  subst this
  exact ⟨callable_of (by kernel_rfl),xCollect_ok⟩
 | false =>
  rw [hb,cond_false] at hf
  exact extL_ok f h hf
abbrev RanC (x0:Int) (y1:Bool) (t0:Int) (s:Scr):Prop :=
 outL (run Tryz.prog extC 100000 100 6 [.int .i64 x0,.bool y1] (st0 (scOf [tI (modI x0 12) t0] s))) (.bool true)=outR (run Tryz.prog extC 100000 100 6 [.int .i64 x0,.bool y1] (st0 (scOf [tI (modI x0 12) t0] s))) (psOf [tI (modI x0 12) t0] s [])
theorem RanC.law {x0 t0:Int} {y1:Bool} {s:Scr} (h:RanC x0 y1 t0 s) (h0:modI x0 12=t0):LawT 6 [.int .i64 x0,.bool y1]:=fun w hg =>
 run_call extC_ok h (psOf_all (tab_cons h0 tab_nil) s [] trivial) (.cons (.int _ _) (.cons (.bool _) .nil)) (fun e x hx=>by cases hx;rfl) w hg
end
end Go.Proofs.YtlbcbikplfocfaaGreatDoor.W.E
