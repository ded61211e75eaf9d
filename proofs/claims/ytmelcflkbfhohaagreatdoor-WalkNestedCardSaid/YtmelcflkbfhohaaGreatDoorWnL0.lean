/- WnL0 -/
import Derived.Test.YtmelcflkbfhohaaGreatDoorPart12
set_option linter.unusedVariables false
set_option linter.unusedSimpArgs false
namespace Go.Proofs.YtmelcflkbfhohaaGreatDoor.W.E
section
set_option maxRecDepth 100000
theorem lev0 (b b':Int):levQ b b' 0:=by delta levQ QTF;kernel_rfl
theorem lev1 (b b':Int):levQ b b' 1:=by delta levQ QTF;kernel_rfl
theorem lev2 (b b':Int):levQ b b' 2:=by delta levQ QTF;kernel_rfl
theorem lev3 (b b':Int):levQ b b' 3:=by delta levQ QTF;kernel_rfl
theorem lev4 (b b':Int):levQ b b' 4:=by delta levQ QTF;kernel_rfl
theorem lev5 (b b':Int):levQ b b' 5:=by delta levQ QTF;kernel_rfl
theorem lev6 (b b':Int):levQ b b' 6:=by delta levQ QTF;kernel_rfl
theorem lev7 (b b':Int):levQ b b' 7:=by delta levQ QTF;kernel_rfl
theorem lev8 (b b':Int):levQ b b' 8:=by delta levQ QTF;kernel_rfl
theorem lev9 (b b':Int):levQ b b' 9:=by delta levQ QTF;kernel_rfl
end
end Go.Proofs.YtmelcflkbfhohaaGreatDoor.W.E
