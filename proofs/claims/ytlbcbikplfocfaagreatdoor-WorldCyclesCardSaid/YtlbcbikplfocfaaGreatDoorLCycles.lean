/- LCycles -/
import Derived.Test.YtlbcbikplfocfaaGreatDoorLCy0
import Derived.Test.YtlbcbikplfocfaaGreatDoorLCy1
import Derived.Test.YtlbcbikplfocfaaGreatDoorLCy2
import Derived.Test.YtlbcbikplfocfaaGreatDoorLCy3
import Derived.Test.YtlbcbikplfocfaaGreatDoorLCy4
import Derived.Test.YtlbcbikplfocfaaGreatDoorLCy5
import Derived.Test.YtlbcbikplfocfaaGreatDoorEvB
import Derived.Test.YtlbcbikplfocfaaGreatDoorEvR2
import Derived.Test.YtlbcbikplfocfaaGreatDoorObjD
import Derived.Test.YtlbcbikplfocfaaGreatDoorPart0
import Derived.Test.YtlbcbikplfocfaaGreatDoorPart1
import Derived.Test.YtlbcbikplfocfaaGreatDoorPart10
import Derived.Test.YtlbcbikplfocfaaGreatDoorPart11
import Derived.Test.YtlbcbikplfocfaaGreatDoorPart12
import Derived.Test.YtlbcbikplfocfaaGreatDoorPart13
import Derived.Test.YtlbcbikplfocfaaGreatDoorPart14
import Derived.Test.YtlbcbikplfocfaaGreatDoorPart15
import Derived.Test.YtlbcbikplfocfaaGreatDoorPart16
import Derived.Test.YtlbcbikplfocfaaGreatDoorPart17
import Derived.Test.YtlbcbikplfocfaaGreatDoorPart18
import Derived.Test.YtlbcbikplfocfaaGreatDoorPart19
import Derived.Test.YtlbcbikplfocfaaGreatDoorPart2
import Derived.Test.YtlbcbikplfocfaaGreatDoorPart20
import Derived.Test.YtlbcbikplfocfaaGreatDoorPart21
import Derived.Test.YtlbcbikplfocfaaGreatDoorPart22
import Derived.Test.YtlbcbikplfocfaaGreatDoorPart24
import Derived.Test.YtlbcbikplfocfaaGreatDoorPart25
import Derived.Test.YtlbcbikplfocfaaGreatDoorPart26
import Derived.Test.YtlbcbikplfocfaaGreatDoorPart4
import Derived.Test.YtlbcbikplfocfaaGreatDoorPart6
import Derived.Test.YtlbcbikplfocfaaGreatDoorPart7
import Derived.Test.YtlbcbikplfocfaaGreatDoorPart8
import Derived.Test.YtlbcbikplfocfaaGreatDoorPart9
set_option linter.unusedVariables false
set_option linter.unusedSimpArgs false
namespace Go.Proofs.YtlbcbikplfocfaaGreatDoor.W.E
section
open Go.RowKit
theorem cycles_any (d:Int) (b:Bool):LawT 6 [.int .i64 d,.bool b]:=by
 have hm:modI d 12=0∨modI d 12=1∨modI d 12=2∨modI d 12=3∨modI d 12=4∨modI d 12=5∨modI d 12=6∨modI d 12=7∨modI d 12=8∨modI d 12=9∨modI d 12=10∨modI d 12=11:=by rw [modI_eq];omega
 cases b
 ·rcases hm with h | h | h | h | h | h | h | h | h | h | h | h
  ·exact RanC.law (rCy_0_0 d) h
  ·exact RanC.law (rCy_1_0 d) h
  ·exact RanC.law (rCy_2_0 d) h
  ·exact RanC.law (rCy_3_0 d) h
  ·exact RanC.law (rCy_4_0 d) h
  ·exact RanC.law (rCy_5_0 d) h
  ·exact RanC.law (rCy_6_0 d) h
  ·exact RanC.law (rCy_7_0 d) h
  ·exact RanC.law (rCy_8_0 d) h
  ·exact RanC.law (rCy_9_0 d) h
  ·exact RanC.law (rCy_10_0 d) h
  ·exact RanC.law (rCy_11_0 d) h
 ·rcases hm with h | h | h | h | h | h | h | h | h | h | h | h
  ·exact RanC.law (rCy_0_1 d) h
  ·exact RanC.law (rCy_1_1 d) h
  ·exact RanC.law (rCy_2_1 d) h
  ·exact RanC.law (rCy_3_1 d) h
  ·exact RanC.law (rCy_4_1 d) h
  ·exact RanC.law (rCy_5_1 d) h
  ·exact RanC.law (rCy_6_1 d) h
  ·exact RanC.law (rCy_7_1 d) h
  ·exact RanC.law (rCy_8_1 d) h
  ·exact RanC.law (rCy_9_1 d) h
  ·exact RanC.law (rCy_10_1 d) h
  ·exact RanC.law (rCy_11_1 d) h
end
end Go.Proofs.YtlbcbikplfocfaaGreatDoor.W.E
