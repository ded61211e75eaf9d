/- WnL1 -/
import Derived.Test.YtmelcflkbfhohaaGreatDoorPart12
set_option linter.unusedVariables false
set_option linter.unusedSimpArgs false
namespace Go.Proofs.YtmelcflkbfhohaaGreatDoor.W.E
section
set_option maxRecDepth 100000
theorem lev10 (b b':Int):levQ b b' 10:=by delta levQ QTF;kernel_rfl
theorem lev11 (b b':Int):levQ b b' 11:=by delta levQ QTF;kernel_rfl
theorem lev12 (b b':Int):levQ b b' 12:=by delta levQ QTF;kernel_rfl
theorem lev13 (b b':Int):levQ b b' 13:=by delta levQ QTF;kernel_rfl
theorem lev14 (b b':Int):levQ b b' 14:=by delta levQ QTF;kernel_rfl
theorem lev15 (b b':Int):levQ b b' 15:=by delta levQ QTF;kernel_rfl
theorem lev16 (b b':Int):levQ b b' 16:=by delta levQ QTF;kernel_rfl
theorem lev17 (b b':Int):levQ b b' 17:=by delta levQ QTF;kernel_rfl
theorem lev18 (b b':Int):levQ b b' 18:=by delta levQ QTF;kernel_rfl
theorem lev19 (b b':Int):levQ b b' 19:=by delta levQ QTF;kernel_rfl
end
end Go.Proofs.YtmelcflkbfhohaaGreatDoor.W.E
