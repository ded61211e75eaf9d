/- LWeakB -/
import Derived.Test.YtebdknkgplonmaaGreatDoorPart27
set_option linter.unusedVariables false
set_option linter.unusedSimpArgs false
namespace Go.Proofs.YtebdknkgplonmaaGreatDoor.W.E
section
set_option maxRecDepth 100000
open Go.RowKit
abbrev RWeak (x2 : Int) (y0 : Bool) (y1 : Bool) (t0 : Int) (s : Scr) : Prop := Ran 8 [.bool y0, .bool y1, .int .i64 x2] [tI (modI x2 11) t0] s
end
end Go.Proofs.YtebdknkgplonmaaGreatDoor.W.E
