/- LBuC7 -/
import Derived.Test.YtebdknkgplonmaaGreatDoorLBuR
set_option linter.unusedVariables false
set_option linter.unusedSimpArgs false
namespace Go.Proofs.YtebdknkgplonmaaGreatDoor.W.E
section
set_option maxRecDepth 100000
open Go.RowKit
def line7:List UInt8:=[48,32,49,32,50,32,51,32,52,32,53,32,54,10]
theorem buC7_0 (kn:Bool) (t:List UInt8):RR (inBu.drop 1) (sBu 7 0 kn t [] hBu) (sBu 7 0 kn t line7 hBu) .normal:=by delta RR;kernel_rfl
theorem buC7_1 (kn:Bool) (t out:List UInt8):RR (inBu.drop 1) (sBu 7 1 kn t out (exsBu 0)) (sBu 7 1 kn t out (exsBu 1)) .normal:=by delta RR;kernel_rfl
theorem buC7_2 (kn:Bool) (t out:List UInt8):RR (inBu.drop 1) (sBu 7 2 kn t out (exsBu 1)) (sBu 7 2 kn t out (exsBu 2)) .normal:=by delta RR;kernel_rfl
theorem buC7_3 (kn:Bool) (t out:List UInt8):RR (inBu.drop 1) (sBu 7 3 kn t out (exsBu 2)) (sBu 7 3 kn t out (exsBu 3)) .normal:=by delta RR;kernel_rfl
theorem buC7_4 (kn:Bool) (t out:List UInt8):RR (inBu.drop 1) (sBu 7 4 kn t out (exsBu 3)) (sBu 7 4 kn t out (exsBu 4)) .normal:=by delta RR;kernel_rfl
theorem buC7_5 (kn:Bool) (t out:List UInt8):RR (inBu.drop 1) (sBu 7 5 kn t out (exsBu 4)) (sBu 7 5 kn t out (exsBu 5)) .normal:=by delta RR;kernel_rfl
theorem buC7_6 (kn:Bool) (t out:List UInt8):RR (inBu.drop 1) (sBu 7 6 kn t out (exsBu 5)) (sBu 7 6 kn t out (exsBu 6)) .normal:=by delta RR;kernel_rfl
theorem buC7_7 (kn:Bool) (t out:List UInt8):RR (inBu.drop 1) (sBu 7 7 kn t out (exsBu 6)) (sBu 7 7 kn t out (exsBu 7)) .normal:=by delta RR;kernel_rfl
theorem buC7_8 (kn:Bool) (t out:List UInt8):RR (inBu.drop 1) (sBu 7 8 kn t out (exsBu 7)) (sBu 7 8 kn t out (exsBu 8)) .normal:=by delta RR;kernel_rfl
theorem buC7_9 (kn:Bool) (t out:List UInt8):RR (inBu.drop 1) (sBu 7 9 kn t out (exsBu 8)) (sBu 7 9 kn t out (exsBu 9)) .normal:=by delta RR;kernel_rfl
theorem buC7_10 (kn:Bool) (t out:List UInt8):RR (inBu.drop 1) (sBu 7 10 kn t out (exsBu 9)) (sBu 7 10 kn t out (exsBu 10)) .normal:=by delta RR;kernel_rfl
theorem buC7_11 (kn:Bool) (t out:List UInt8):RR (inBu.drop 1) (sBu 7 11 kn t out (exsBu 10)) (sBu 7 11 kn t out (exsBu 11)) .normal:=by delta RR;kernel_rfl
theorem buC7_12 (kn:Bool) (t out:List UInt8):RR (inBu.drop 1) (sBu 7 12 kn t out (exsBu 11)) (sBu 7 12 kn t out (exsBu 12)) .normal:=by delta RR;kernel_rfl
theorem buC7_13 (kn:Bool) (t out:List UInt8):RR (inBu.drop 1) (sBu 7 13 kn t out (exsBu 12)) (sBu 7 13 kn t out (exsBu 13)) .normal:=by delta RR;kernel_rfl
theorem buC7_14 (kn:Bool) (t out:List UInt8):RR (inBu.drop 1) (sBu 7 14 kn t out (exsBu 13)) (sBu 7 14 kn t out (exsBu 14)) .normal:=by delta RR;kernel_rfl
theorem buC7_15 (kn:Bool) (t out:List UInt8):RR (inBu.drop 1) (sBu 7 15 kn t out (exsBu 14)) (sBu 7 15 kn t out (exsBu 15)) .normal:=by delta RR;kernel_rfl
end
end Go.Proofs.YtebdknkgplonmaaGreatDoor.W.E
