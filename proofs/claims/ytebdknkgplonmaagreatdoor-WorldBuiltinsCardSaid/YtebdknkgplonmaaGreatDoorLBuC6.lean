/- LBuC6 -/
import Derived.Test.YtebdknkgplonmaaGreatDoorLBuR
set_option linter.unusedVariables false
set_option linter.unusedSimpArgs false
namespace Go.Proofs.YtebdknkgplonmaaGreatDoor.W.E
section
set_option maxRecDepth 100000
open Go.RowKit
def line6:List UInt8:=[48,32,49,32,50,32,51,32,52,32,53,10]
theorem buC6_0 (kn:Bool) (t:List UInt8):RR (inBu.drop 1) (sBu 6 0 kn t [] hBu) (sBu 6 0 kn t line6 hBu) .normal:=by delta RR;kernel_rfl
theorem buC6_1 (kn:Bool) (t out:List UInt8):RR (inBu.drop 1) (sBu 6 1 kn t out (exsBu 0)) (sBu 6 1 kn t out (exsBu 1)) .normal:=by delta RR;kernel_rfl
theorem buC6_2 (kn:Bool) (t out:List UInt8):RR (inBu.drop 1) (sBu 6 2 kn t out (exsBu 1)) (sBu 6 2 kn t out (exsBu 2)) .normal:=by delta RR;kernel_rfl
theorem buC6_3 (kn:Bool) (t out:List UInt8):RR (inBu.drop 1) (sBu 6 3 kn t out (exsBu 2)) (sBu 6 3 kn t out (exsBu 3)) .normal:=by delta RR;kernel_rfl
theorem buC6_4 (kn:Bool) (t out:List UInt8):RR (inBu.drop 1) (sBu 6 4 kn t out (exsBu 3)) (sBu 6 4 kn t out (exsBu 4)) .normal:=by delta RR;kernel_rfl
theorem buC6_5 (kn:Bool) (t out:List UInt8):RR (inBu.drop 1) (sBu 6 5 kn t out (exsBu 4)) (sBu 6 5 kn t out (exsBu 5)) .normal:=by delta RR;kernel_rfl
theorem buC6_6 (kn:Bool) (t out:List UInt8):RR (inBu.drop 1) (sBu 6 6 kn t out (exsBu 5)) (sBu 6 6 kn t out (exsBu 6)) .normal:=by delta RR;kernel_rfl
theorem buC6_7 (kn:Bool) (t out:List UInt8):RR (inBu.drop 1) (sBu 6 7 kn t out (exsBu 6)) (sBu 6 7 kn t out (exsBu 7)) .normal:=by delta RR;kernel_rfl
theorem buC6_8 (kn:Bool) (t out:List UInt8):RR (inBu.drop 1) (sBu 6 8 kn t out (exsBu 7)) (sBu 6 8 kn t out (exsBu 8)) .normal:=by delta RR;kernel_rfl
theorem buC6_9 (kn:Bool) (t out:List UInt8):RR (inBu.drop 1) (sBu 6 9 kn t out (exsBu 8)) (sBu 6 9 kn t out (exsBu 9)) .normal:=by delta RR;kernel_rfl
theorem buC6_10 (kn:Bool) (t out:List UInt8):RR (inBu.drop 1) (sBu 6 10 kn t out (exsBu 9)) (sBu 6 10 kn t out (exsBu 10)) .normal:=by delta RR;kernel_rfl
theorem buC6_11 (kn:Bool) (t out:List UInt8):RR (inBu.drop 1) (sBu 6 11 kn t out (exsBu 10)) (sBu 6 11 kn t out (exsBu 11)) .normal:=by delta RR;kernel_rfl
theorem buC6_12 (kn:Bool) (t out:List UInt8):RR (inBu.drop 1) (sBu 6 12 kn t out (exsBu 11)) (sBu 6 12 kn t out (exsBu 12)) .normal:=by delta RR;kernel_rfl
theorem buC6_13 (kn:Bool) (t out:List UInt8):RR (inBu.drop 1) (sBu 6 13 kn t out (exsBu 12)) (sBu 6 13 kn t out (exsBu 13)) .normal:=by delta RR;kernel_rfl
theorem buC6_14 (kn:Bool) (t out:List UInt8):RR (inBu.drop 1) (sBu 6 14 kn t out (exsBu 13)) (sBu 6 14 kn t out (exsBu 14)) .normal:=by delta RR;kernel_rfl
theorem buC6_15 (kn:Bool) (t out:List UInt8):RR (inBu.drop 1) (sBu 6 15 kn t out (exsBu 14)) (sBu 6 15 kn t out (exsBu 15)) .normal:=by delta RR;kernel_rfl
end
end Go.Proofs.YtebdknkgplonmaaGreatDoor.W.E
