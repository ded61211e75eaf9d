/- LCy1 -/
import Derived.Test.YtlbcbikplfocfaaGreatDoorLCyB
import Derived.Test.YtlbcbikplfocfaaGreatDoorEvB
import Derived.Test.YtlbcbikplfocfaaGreatDoorEvR2
import Derived.Test.YtlbcbikplfocfaaGreatDoorObjD
import Derived.Test.YtlbcbikplfocfaaGreatDoorPart0
import Derived.Test.YtlbcbikplfocfaaGreatDoorPart1
import Derived.Test.YtlbcbikplfocfaaGreatDoorPart10
import Derived.Test.YtlbcbikplfocfaaGreatDoorPart11
import Derived.Test.YtlbcbikplfocfaaGreatDoorPart12
import Derived.Test.YtlbcbikplfocfaaGreatDoorPart13
import Derived.Test.YtlbcbikplfocfaaGreatDoorPart14
import Derived.Test.YtlbcbikplfocfaaGreatDoorPart15
import Derived.Test.YtlbcbikplfocfaaGreatDoorPart16
import Derived.Test.YtlbcbikplfocfaaGreatDoorPart17
import Derived.Test.YtlbcbikplfocfaaGreatDoorPart18
import Derived.Test.YtlbcbikplfocfaaGreatDoorPart19
import Derived.Test.YtlbcbikplfocfaaGreatDoorPart2
import Derived.Test.YtlbcbikplfocfaaGreatDoorPart20
import Derived.Test.YtlbcbikplfocfaaGreatDoorPart21
import Derived.Test.YtlbcbikplfocfaaGreatDoorPart22
import Derived.Test.YtlbcbikplfocfaaGreatDoorPart24
import Derived.Test.YtlbcbikplfocfaaGreatDoorPart25
import Derived.Test.YtlbcbikplfocfaaGreatDoorPart26
import Derived.Test.YtlbcbikplfocfaaGreatDoorPart4
import Derived.Test.YtlbcbikplfocfaaGreatDoorPart6
import Derived.Test.YtlbcbikplfocfaaGreatDoorPart7
import Derived.Test.YtlbcbikplfocfaaGreatDoorPart8
import Derived.Test.YtlbcbikplfocfaaGreatDoorPart9
set_option linter.unusedVariables false
set_option linter.unusedSimpArgs false
namespace Go.Proofs.YtlbcbikplfocfaaGreatDoor.W.E
section
set_option maxRecDepth 100000
open Go.RowKit
theorem rCy_0_0 (x0:Int):RanC x0 false 0 [(25,0)]:=by delta RanC;kernel_rfl
theorem rCy_5_1 (x0:Int):RanC x0 true 5 [(25,0)]:=by delta RanC;kernel_rfl
theorem rCy_6_0 (x0:Int):RanC x0 false 6 [(25,0)]:=by delta RanC;kernel_rfl
theorem rCy_11_1 (x0:Int):RanC x0 true 11 [(25,0)]:=by delta RanC;kernel_rfl
end
end Go.Proofs.YtlbcbikplfocfaaGreatDoor.W.E
