/- WnL2 -/
import Derived.Test.YtmelcflkbfhohaaGreatDoorPart12
set_option linter.unusedVariables false
set_option linter.unusedSimpArgs false
namespace Go.Proofs.YtmelcflkbfhohaaGreatDoor.W.E
section
set_option maxRecDepth 100000
theorem lev20 (b b':Int):levQ b b' 20:=by delta levQ QTF;kernel_rfl
theorem lev21 (b b':Int):levQ b b' 21:=by delta levQ QTF;kernel_rfl
theorem lev22 (b b':Int):levQ b b' 22:=by delta levQ QTF;kernel_rfl
theorem lev23 (b b':Int):levQ b b' 23:=by delta levQ QTF;kernel_rfl
theorem lev24 (b b':Int):levQ b b' 24:=by delta levQ QTF;kernel_rfl
theorem lev25 (b b':Int):levQ b b' 25:=by delta levQ QTF;kernel_rfl
theorem lev26 (b b':Int):levQ b b' 26:=by delta levQ QTF;kernel_rfl
theorem lev27 (b b':Int):levQ b b' 27:=by delta levQ QTF;kernel_rfl
theorem lev28 (b b':Int):levQ b b' 28:=by delta levQ QTF;kernel_rfl
theorem lev29 (b b':Int):levQ b b' 29:=by delta levQ QTF;kernel_rfl
end
end Go.Proofs.YtmelcflkbfhohaaGreatDoor.W.E
