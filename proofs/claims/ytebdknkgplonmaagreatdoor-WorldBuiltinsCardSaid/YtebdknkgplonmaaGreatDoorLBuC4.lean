/- LBuC4 -/
import Derived.Test.YtebdknkgplonmaaGreatDoorLBuR
set_option linter.unusedVariables false
set_option linter.unusedSimpArgs false
namespace Go.Proofs.YtebdknkgplonmaaGreatDoor.W.E
section
set_option maxRecDepth 100000
open Go.RowKit
def line4:List UInt8:=[48,32,49,32,50,32,51,10]
theorem buC4_0 (kn:Bool) (t:List UInt8):RR (inBu.drop 1) (sBu 4 0 kn t [] hBu) (sBu 4 0 kn t line4 hBu) .normal:=by delta RR;kernel_rfl
theorem buC4_1 (kn:Bool) (t out:List UInt8):RR (inBu.drop 1) (sBu 4 1 kn t out (exsBu 0)) (sBu 4 1 kn t out (exsBu 1)) .normal:=by delta RR;kernel_rfl
theorem buC4_2 (kn:Bool) (t out:List UInt8):RR (inBu.drop 1) (sBu 4 2 kn t out (exsBu 1)) (sBu 4 2 kn t out (exsBu 2)) .normal:=by delta RR;kernel_rfl
theorem buC4_3 (kn:Bool) (t out:List UInt8):RR (inBu.drop 1) (sBu 4 3 kn t out (exsBu 2)) (sBu 4 3 kn t out (exsBu 3)) .normal:=by delta RR;kernel_rfl
theorem buC4_4 (kn:Bool) (t out:List UInt8):RR (inBu.drop 1) (sBu 4 4 kn t out (exsBu 3)) (sBu 4 4 kn t out (exsBu 4)) .normal:=by delta RR;kernel_rfl
theorem buC4_5 (kn:Bool) (t out:List UInt8):RR (inBu.drop 1) (sBu 4 5 kn t out (exsBu 4)) (sBu 4 5 kn t out (exsBu 5)) .normal:=by delta RR;kernel_rfl
theorem buC4_6 (kn:Bool) (t out:List UInt8):RR (inBu.drop 1) (sBu 4 6 kn t out (exsBu 5)) (sBu 4 6 kn t out (exsBu 6)) .normal:=by delta RR;kernel_rfl
theorem buC4_7 (kn:Bool) (t out:List UInt8):RR (inBu.drop 1) (sBu 4 7 kn t out (exsBu 6)) (sBu 4 7 kn t out (exsBu 7)) .normal:=by delta RR;kernel_rfl
theorem buC4_8 (kn:Bool) (t out:List UInt8):RR (inBu.drop 1) (sBu 4 8 kn t out (exsBu 7)) (sBu 4 8 kn t out (exsBu 8)) .normal:=by delta RR;kernel_rfl
theorem buC4_9 (kn:Bool) (t out:List UInt8):RR (inBu.drop 1) (sBu 4 9 kn t out (exsBu 8)) (sBu 4 9 kn t out (exsBu 9)) .normal:=by delta RR;kernel_rfl
theorem buC4_10 (kn:Bool) (t out:List UInt8):RR (inBu.drop 1) (sBu 4 10 kn t out (exsBu 9)) (sBu 4 10 kn t out (exsBu 10)) .normal:=by delta RR;kernel_rfl
theorem buC4_11 (kn:Bool) (t out:List UInt8):RR (inBu.drop 1) (sBu 4 11 kn t out (exsBu 10)) (sBu 4 11 kn t out (exsBu 11)) .normal:=by delta RR;kernel_rfl
theorem buC4_12 (kn:Bool) (t out:List UInt8):RR (inBu.drop 1) (sBu 4 12 kn t out (exsBu 11)) (sBu 4 12 kn t out (exsBu 12)) .normal:=by delta RR;kernel_rfl
theorem buC4_13 (kn:Bool) (t out:List UInt8):RR (inBu.drop 1) (sBu 4 13 kn t out (exsBu 12)) (sBu 4 13 kn t out (exsBu 13)) .normal:=by delta RR;kernel_rfl
theorem buC4_14 (kn:Bool) (t out:List UInt8):RR (inBu.drop 1) (sBu 4 14 kn t out (exsBu 13)) (sBu 4 14 kn t out (exsBu 14)) .normal:=by delta RR;kernel_rfl
theorem buC4_15 (kn:Bool) (t out:List UInt8):RR (inBu.drop 1) (sBu 4 15 kn t out (exsBu 14)) (sBu 4 15 kn t out (exsBu 15)) .normal:=by delta RR;kernel_rfl
end
end Go.Proofs.YtebdknkgplonmaaGreatDoor.W.E
