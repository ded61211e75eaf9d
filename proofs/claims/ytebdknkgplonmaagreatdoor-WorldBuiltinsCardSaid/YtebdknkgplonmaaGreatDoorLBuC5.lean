/- LBuC5 -/
import Derived.Test.YtebdknkgplonmaaGreatDoorLBuR
set_option linter.unusedVariables false
set_option linter.unusedSimpArgs false
namespace Go.Proofs.YtebdknkgplonmaaGreatDoor.W.E
section
set_option maxRecDepth 100000
open Go.RowKit
def line5:List UInt8:=[48,32,49,32,50,32,51,32,52,10]
theorem buC5_0 (kn:Bool) (t:List UInt8):RR (inBu.drop 1) (sBu 5 0 kn t [] hBu) (sBu 5 0 kn t line5 hBu) .normal:=by delta RR;kernel_rfl
theorem buC5_1 (kn:Bool) (t out:List UInt8):RR (inBu.drop 1) (sBu 5 1 kn t out (exsBu 0)) (sBu 5 1 kn t out (exsBu 1)) .normal:=by delta RR;kernel_rfl
theorem buC5_2 (kn:Bool) (t out:List UInt8):RR (inBu.drop 1) (sBu 5 2 kn t out (exsBu 1)) (sBu 5 2 kn t out (exsBu 2)) .normal:=by delta RR;kernel_rfl
theorem buC5_3 (kn:Bool) (t out:List UInt8):RR (inBu.drop 1) (sBu 5 3 kn t out (exsBu 2)) (sBu 5 3 kn t out (exsBu 3)) .normal:=by delta RR;kernel_rfl
theorem buC5_4 (kn:Bool) (t out:List UInt8):RR (inBu.drop 1) (sBu 5 4 kn t out (exsBu 3)) (sBu 5 4 kn t out (exsBu 4)) .normal:=by delta RR;kernel_rfl
theorem buC5_5 (kn:Bool) (t out:List UInt8):RR (inBu.drop 1) (sBu 5 5 kn t out (exsBu 4)) (sBu 5 5 kn t out (exsBu 5)) .normal:=by delta RR;kernel_rfl
theorem buC5_6 (kn:Bool) (t out:List UInt8):RR (inBu.drop 1) (sBu 5 6 kn t out (exsBu 5)) (sBu 5 6 kn t out (exsBu 6)) .normal:=by delta RR;kernel_rfl
theorem buC5_7 (kn:Bool) (t out:List UInt8):RR (inBu.drop 1) (sBu 5 7 kn t out (exsBu 6)) (sBu 5 7 kn t out (exsBu 7)) .normal:=by delta RR;kernel_rfl
theorem buC5_8 (kn:Bool) (t out:List UInt8):RR (inBu.drop 1) (sBu 5 8 kn t out (exsBu 7)) (sBu 5 8 kn t out (exsBu 8)) .normal:=by delta RR;kernel_rfl
theorem buC5_9 (kn:Bool) (t out:List UInt8):RR (inBu.drop 1) (sBu 5 9 kn t out (exsBu 8)) (sBu 5 9 kn t out (exsBu 9)) .normal:=by delta RR;kernel_rfl
theorem buC5_10 (kn:Bool) (t out:List UInt8):RR (inBu.drop 1) (sBu 5 10 kn t out (exsBu 9)) (sBu 5 10 kn t out (exsBu 10)) .normal:=by delta RR;kernel_rfl
theorem buC5_11 (kn:Bool) (t out:List UInt8):RR (inBu.drop 1) (sBu 5 11 kn t out (exsBu 10)) (sBu 5 11 kn t out (exsBu 11)) .normal:=by delta RR;kernel_rfl
theorem buC5_12 (kn:Bool) (t out:List UInt8):RR (inBu.drop 1) (sBu 5 12 kn t out (exsBu 11)) (sBu 5 12 kn t out (exsBu 12)) .normal:=by delta RR;kernel_rfl
theorem buC5_13 (kn:Bool) (t out:List UInt8):RR (inBu.drop 1) (sBu 5 13 kn t out (exsBu 12)) (sBu 5 13 kn t out (exsBu 13)) .normal:=by delta RR;kernel_rfl
theorem buC5_14 (kn:Bool) (t out:List UInt8):RR (inBu.drop 1) (sBu 5 14 kn t out (exsBu 13)) (sBu 5 14 kn t out (exsBu 14)) .normal:=by delta RR;kernel_rfl
theorem buC5_15 (kn:Bool) (t out:List UInt8):RR (inBu.drop 1) (sBu 5 15 kn t out (exsBu 14)) (sBu 5 15 kn t out (exsBu 15)) .normal:=by delta RR;kernel_rfl
end
end Go.Proofs.YtebdknkgplonmaaGreatDoor.W.E
