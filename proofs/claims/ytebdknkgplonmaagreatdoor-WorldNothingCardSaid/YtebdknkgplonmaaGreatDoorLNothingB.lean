/- LNothingB -/
import Derived.Test.YtebdknkgplonmaaGreatDoorPart27
set_option linter.unusedVariables false
set_option linter.unusedSimpArgs false
namespace Go.Proofs.YtebdknkgplonmaaGreatDoor.W.E
section
set_option maxRecDepth 100000
open Go.RowKit
abbrev vNo (x k n : Int) (s : List UInt8) : List SV := [.int .i64 x, .agg [.int .i64 k, .int .i64 n, .str s]]
abbrev tNo (x : Int) (m : Nat) : Tab := [(.bool (not (ltI x 1)), .bool true), (.bool (not (ltI 37 x)), .bool true), (.int .i64 (IntKind.i64.wrap (0 - x)), .int .i64 (Int.negSucc m))]
abbrev RNo (x k n : Int) (s : List UInt8) : Prop := Ran 6 (vNo x k n s) [] []
abbrev RNoD (x k n : Int) (s : List UInt8) (m : Nat) : Prop := Ran 6 (vNo x k n s) (tNo x m) [(36, 0), (39, 1), (43, 2)]
end
end Go.Proofs.YtebdknkgplonmaaGreatDoor.W.E
