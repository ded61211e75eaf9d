/- LAf0 -/
import Derived.Test.YtbbokgpklihkoaaGreatDoorLAfW
set_option linter.unusedVariables false
set_option linter.unusedSimpArgs false
namespace Go.Proofs.YtbbokgpklihkoaaGreatDoor.W.E
section
set_option maxRecDepth 100000
open Go.RowKit
theorem afR0 (k n k1 n1 k2 n2:Int) (s s1 s2:List UInt8):RanB [vA k n s,vA k1 n1 s1,vA k2 n2 s2] [qIs 120 k 2 false,qIs 339 k 2 false,qEq 369 k1 n1 s1]:=by delta RanB;kernel_rfl
theorem afR1 (k n k1 n1 k2 n2:Int) (s s1 s2:List UInt8):RanB [vA 2 n s,vA k1 n1 s1,vA k2 n2 s2] [qIs 134 n 1 false,qIs 140 n 1 false,qIs 144 n 2 false,qIs 150 n 3 false,qIs 156 n 3 false,qIs 355 n 1 false,qIs 358 n 2 false,qIs 361 n 3 false,qEq 382 k1 n1 s1]:=by delta RanB;kernel_rfl
theorem afR2 (k n k1 n1 k2 n2:Int) (s s1 s2:List UInt8):RanB [vA 2 1 s,vA 0 n1 s1,vA k2 n2 s2] [qEq 368 k2 n2 s2]:=by delta RanB;kernel_rfl
theorem afR3 (k n k1 n1 k2 n2:Int) (s s1 s2:List UInt8):RanB [vA 2 1 s,vA k1 n1 s1,vA k2 n2 s2] [qIs 137 k1 0 false,qIsn 410 k1 0 true]:=by delta RanB;kernel_rfl
theorem afR4 (k n k1 n1 k2 n2:Int) (s s1 s2:List UInt8):RanB [vA 2 2 s,vA 3 n1 s1,vA k2 n2 s2] [qEq 384 3 n1 s1]:=by delta RanB;kernel_rfl
end
end Go.Proofs.YtbbokgpklihkoaaGreatDoor.W.E
