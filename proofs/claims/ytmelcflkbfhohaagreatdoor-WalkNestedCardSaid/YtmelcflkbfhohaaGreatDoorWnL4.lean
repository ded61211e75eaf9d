/- WnL4 -/
import Derived.Test.YtmelcflkbfhohaaGreatDoorPart12
set_option linter.unusedVariables false
set_option linter.unusedSimpArgs false
namespace Go.Proofs.YtmelcflkbfhohaaGreatDoor.W.E
section
set_option maxRecDepth 100000
theorem lev40 (b b':Int):levQ b b' 40:=by delta levQ QTF;kernel_rfl
theorem lev41 (b b':Int):levQ b b' 41:=by delta levQ QTF;kernel_rfl
theorem lev42 (b b':Int):levQ b b' 42:=by delta levQ QTF;kernel_rfl
theorem lev43 (b b':Int):levQ b b' 43:=by delta levQ QTF;kernel_rfl
theorem lev44 (b b':Int):levQ b b' 44:=by delta levQ QTF;kernel_rfl
theorem lev45 (b b':Int):levQ b b' 45:=by delta levQ QTF;kernel_rfl
theorem lev46 (b b':Int):levQ b b' 46:=by delta levQ QTF;kernel_rfl
theorem lev47 (b b':Int):levQ b b' 47:=by delta levQ QTF;kernel_rfl
theorem lev48 (b b':Int):levQ b b' 48:=by delta levQ QTF;kernel_rfl
theorem lev49 (b b':Int):levQ b b' 49:=by delta levQ QTF;kernel_rfl
end
end Go.Proofs.YtmelcflkbfhohaaGreatDoor.W.E
