/- LAf1 -/
import Derived.Test.YtbbokgpklihkoaaGreatDoorLAfW
set_option linter.unusedVariables false
set_option linter.unusedSimpArgs false
namespace Go.Proofs.YtbbokgpklihkoaaGreatDoor.W.E
section
set_option maxRecDepth 100000
open Go.RowKit
theorem afR5 (k n k1 n1 k2 n2:Int) (s s1 s2:List UInt8):RanB [vA 2 2 s,vA k1 n1 s1,vA k2 n2 s2] [qIsn 147 k1 3 true,qIsn 419 k1 3 true]:=by delta RanB;kernel_rfl
theorem afR6 (k n k1 n1 k2 n2:Int) (s s1 s2:List UInt8):RanB [vA 2 3 s,vA k1 n1 s1,vA k2 n2 s2] [qIsn 153 k1 2 true,qIsn 427 k1 2 true]:=by delta RanB;kernel_rfl
end
end Go.Proofs.YtbbokgpklihkoaaGreatDoor.W.E
