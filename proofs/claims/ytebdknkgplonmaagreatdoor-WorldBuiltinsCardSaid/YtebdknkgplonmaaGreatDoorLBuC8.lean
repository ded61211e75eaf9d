/- LBuC8 -/
import Derived.Test.YtebdknkgplonmaaGreatDoorLBuR
set_option linter.unusedVariables false
set_option linter.unusedSimpArgs false
namespace Go.Proofs.YtebdknkgplonmaaGreatDoor.W.E
section
set_option maxRecDepth 100000
open Go.RowKit
def line8:List UInt8:=[48,32,49,32,50,32,51,32,52,32,53,32,54,32,55,10]
theorem buC8_0 (kn:Bool) (t:List UInt8):RR (inBu.drop 1) (sBu 8 0 kn t [] hBu) (sBu 8 0 kn t line8 hBu) .normal:=by delta RR;kernel_rfl
theorem buC8_1 (kn:Bool) (t out:List UInt8):RR (inBu.drop 1) (sBu 8 1 kn t out (exsBu 0)) (sBu 8 1 kn t out (exsBu 1)) .normal:=by delta RR;kernel_rfl
theorem buC8_2 (kn:Bool) (t out:List UInt8):RR (inBu.drop 1) (sBu 8 2 kn t out (exsBu 1)) (sBu 8 2 kn t out (exsBu 2)) .normal:=by delta RR;kernel_rfl
theorem buC8_3 (kn:Bool) (t out:List UInt8):RR (inBu.drop 1) (sBu 8 3 kn t out (exsBu 2)) (sBu 8 3 kn t out (exsBu 3)) .normal:=by delta RR;kernel_rfl
theorem buC8_4 (kn:Bool) (t out:List UInt8):RR (inBu.drop 1) (sBu 8 4 kn t out (exsBu 3)) (sBu 8 4 kn t out (exsBu 4)) .normal:=by delta RR;kernel_rfl
theorem buC8_5 (kn:Bool) (t out:List UInt8):RR (inBu.drop 1) (sBu 8 5 kn t out (exsBu 4)) (sBu 8 5 kn t out (exsBu 5)) .normal:=by delta RR;kernel_rfl
theorem buC8_6 (kn:Bool) (t out:List UInt8):RR (inBu.drop 1) (sBu 8 6 kn t out (exsBu 5)) (sBu 8 6 kn t out (exsBu 6)) .normal:=by delta RR;kernel_rfl
theorem buC8_7 (kn:Bool) (t out:List UInt8):RR (inBu.drop 1) (sBu 8 7 kn t out (exsBu 6)) (sBu 8 7 kn t out (exsBu 7)) .normal:=by delta RR;kernel_rfl
theorem buC8_8 (kn:Bool) (t out:List UInt8):RR (inBu.drop 1) (sBu 8 8 kn t out (exsBu 7)) (sBu 8 8 kn t out (exsBu 8)) .normal:=by delta RR;kernel_rfl
theorem buC8_9 (kn:Bool) (t out:List UInt8):RR (inBu.drop 1) (sBu 8 9 kn t out (exsBu 8)) (sBu 8 9 kn t out (exsBu 9)) .normal:=by delta RR;kernel_rfl
theorem buC8_10 (kn:Bool) (t out:List UInt8):RR (inBu.drop 1) (sBu 8 10 kn t out (exsBu 9)) (sBu 8 10 kn t out (exsBu 10)) .normal:=by delta RR;kernel_rfl
theorem buC8_11 (kn:Bool) (t out:List UInt8):RR (inBu.drop 1) (sBu 8 11 kn t out (exsBu 10)) (sBu 8 11 kn t out (exsBu 11)) .normal:=by delta RR;kernel_rfl
theorem buC8_12 (kn:Bool) (t out:List UInt8):RR (inBu.drop 1) (sBu 8 12 kn t out (exsBu 11)) (sBu 8 12 kn t out (exsBu 12)) .normal:=by delta RR;kernel_rfl
theorem buC8_13 (kn:Bool) (t out:List UInt8):RR (inBu.drop 1) (sBu 8 13 kn t out (exsBu 12)) (sBu 8 13 kn t out (exsBu 13)) .normal:=by delta RR;kernel_rfl
theorem buC8_14 (kn:Bool) (t out:List UInt8):RR (inBu.drop 1) (sBu 8 14 kn t out (exsBu 13)) (sBu 8 14 kn t out (exsBu 14)) .normal:=by delta RR;kernel_rfl
theorem buC8_15 (kn:Bool) (t out:List UInt8):RR (inBu.drop 1) (sBu 8 15 kn t out (exsBu 14)) (sBu 8 15 kn t out (exsBu 15)) .normal:=by delta RR;kernel_rfl
end
end Go.Proofs.YtebdknkgplonmaaGreatDoor.W.E
