/- LAf2 -/
import Derived.Test.YtbbokgpklihkoaaGreatDoorLAfW
set_option linter.unusedVariables false
set_option linter.unusedSimpArgs false
namespace Go.Proofs.YtbbokgpklihkoaaGreatDoor.W.E
section
set_option maxRecDepth 100000
open Go.RowKit
theorem afR7 (k n k1 n1 k2 n2:Int) (s s1 s2:List UInt8):RanB [vA 2 3 s,vA 2 n1 s1,vA k2 n2 s2] [qLess 161 n1 0 true,qLess 437 n1 0 true]:=by delta RanB;kernel_rfl
theorem afR8 (k n k1 n1 k2 n2:Int) (s s1 s2:List UInt8):RanB [vA 2 3 s,vA 2 n1 s1,vA k2 n2 s2] [qLess 161 n1 0 false,qLess 372 n1 0 false,qEq 392 2 n1 s1]:=by delta RanB;kernel_rfl
end
end Go.Proofs.YtbbokgpklihkoaaGreatDoor.W.E
