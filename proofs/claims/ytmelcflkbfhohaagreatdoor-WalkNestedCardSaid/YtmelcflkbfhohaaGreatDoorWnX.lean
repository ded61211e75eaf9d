/- WnX -/
import Derived.Test.YtmelcflkbfhohaaGreatDoorPart12
set_option linter.unusedVariables false
set_option linter.unusedSimpArgs false
namespace Go.Proofs.YtmelcflkbfhohaaGreatDoor.W.E
section
set_option maxRecDepth 100000
open Go.RowKit
abbrev raiG (b:Int):Prop:=QTG extE fo0 fRun 57 (livE (nZ 59) 36) [6,10] (nZ 59) (List.replicate 2 loopR) (sZ 59 b) (eR b) (.exit 0) []
theorem rai (b:Int):raiG b:=by delta raiG QTG;kernel_rfl
theorem fiR (b:Int):fiRQ b:=by delta fiRQ QTF;kernel_rfl
end
end Go.Proofs.YtmelcflkbfhohaaGreatDoor.W.E
