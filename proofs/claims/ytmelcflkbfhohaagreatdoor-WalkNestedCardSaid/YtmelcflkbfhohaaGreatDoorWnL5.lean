/- WnL5 -/
import Derived.Test.YtmelcflkbfhohaaGreatDoorPart12
set_option linter.unusedVariables false
set_option linter.unusedSimpArgs false
namespace Go.Proofs.YtmelcflkbfhohaaGreatDoor.W.E
section
set_option maxRecDepth 100000
theorem lev50 (b b':Int):levQ b b' 50:=by delta levQ QTF;kernel_rfl
theorem lev51 (b b':Int):levQ b b' 51:=by delta levQ QTF;kernel_rfl
theorem lev52 (b b':Int):levQ b b' 52:=by delta levQ QTF;kernel_rfl
theorem lev53 (b b':Int):levQ b b' 53:=by delta levQ QTF;kernel_rfl
theorem lev54 (b b':Int):levQ b b' 54:=by delta levQ QTF;kernel_rfl
theorem lev55 (b b':Int):levQ b b' 55:=by delta levQ QTF;kernel_rfl
theorem lev56 (b b':Int):levQ b b' 56:=by delta levQ QTF;kernel_rfl
theorem lev57 (b b':Int):levQ b b' 57:=by delta levQ QTF;kernel_rfl
theorem lev58 (b b':Int):levQ b b' 58:=by delta levQ QTF;kernel_rfl
end
end Go.Proofs.YtmelcflkbfhohaaGreatDoor.W.E
