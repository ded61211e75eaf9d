/- WnL3 -/
import Derived.Test.YtmelcflkbfhohaaGreatDoorPart12
set_option linter.unusedVariables false
set_option linter.unusedSimpArgs false
namespace Go.Proofs.YtmelcflkbfhohaaGreatDoor.W.E
section
set_option maxRecDepth 100000
theorem lev30 (b b':Int):levQ b b' 30:=by delta levQ QTF;kernel_rfl
theorem lev31 (b b':Int):levQ b b' 31:=by delta levQ QTF;kernel_rfl
theorem lev32 (b b':Int):levQ b b' 32:=by delta levQ QTF;kernel_rfl
theorem lev33 (b b':Int):levQ b b' 33:=by delta levQ QTF;kernel_rfl
theorem lev34 (b b':Int):levQ b b' 34:=by delta levQ QTF;kernel_rfl
theorem lev35 (b b':Int):levQ b b' 35:=by delta levQ QTF;kernel_rfl
theorem lev36 (b b':Int):levQ b b' 36:=by delta levQ QTF;kernel_rfl
theorem lev37 (b b':Int):levQ b b' 37:=by delta levQ QTF;kernel_rfl
theorem lev38 (b b':Int):levQ b b' 38:=by delta levQ QTF;kernel_rfl
theorem lev39 (b b':Int):levQ b b' 39:=by delta levQ QTF;kernel_rfl
end
end Go.Proofs.YtmelcflkbfhohaaGreatDoor.W.E
