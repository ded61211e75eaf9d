/- LInitsB -/
import Derived.Test.YtebdknkgplonmaaGreatDoorPart27
set_option linter.unusedVariables false
set_option linter.unusedSimpArgs false
namespace Go.Proofs.YtebdknkgplonmaaGreatDoor.W.E
section
set_option maxRecDepth 100000
open Go.RowKit
abbrev RInits (x0 : Int) (x1 : Int) (x2 : Int)  (t0 t1 t2 t3 t4 : Int) (s : Scr) : Prop := Ran 3 [.int .i64 x0, .int .i64 x1, .int .i64 x2] [tI (andI x0 1) t0, tI (andI (Int.fdiv x0 (2 ^ 1)) 1) t1, tI (andI x0 3) t2, tI (modI x1 6) t3, tI (modI x2 5) t4] s
end
end Go.Proofs.YtebdknkgplonmaaGreatDoor.W.E
