/- LBuC12 -/
import Derived.Test.YtebdknkgplonmaaGreatDoorLBuR
set_option linter.unusedVariables false
set_option linter.unusedSimpArgs false
namespace Go.Proofs.YtebdknkgplonmaaGreatDoor.W.E
section
set_option maxRecDepth 100000
open Go.RowKit
def line12:List UInt8:=[48,32,49,32,50,32,51,32,52,32,53,32,54,32,55,32,56,32,57,32,49,48,32,49,49,10]
theorem buC12_0 (kn:Bool) (t:List UInt8):RR (inBu.drop 1) (sBu 12 0 kn t [] hBu) (sBu 12 0 kn t line12 hBu) .normal:=by delta RR;kernel_rfl
theorem buC12_1 (kn:Bool) (t out:List UInt8):RR (inBu.drop 1) (sBu 12 1 kn t out (exsBu 0)) (sBu 12 1 kn t out (exsBu 1)) .normal:=by delta RR;kernel_rfl
theorem buC12_2 (kn:Bool) (t out:List UInt8):RR (inBu.drop 1) (sBu 12 2 kn t out (exsBu 1)) (sBu 12 2 kn t out (exsBu 2)) .normal:=by delta RR;kernel_rfl
theorem buC12_3 (kn:Bool) (t out:List UInt8):RR (inBu.drop 1) (sBu 12 3 kn t out (exsBu 2)) (sBu 12 3 kn t out (exsBu 3)) .normal:=by delta RR;kernel_rfl
theorem buC12_4 (kn:Bool) (t out:List UInt8):RR (inBu.drop 1) (sBu 12 4 kn t out (exsBu 3)) (sBu 12 4 kn t out (exsBu 4)) .normal:=by delta RR;kernel_rfl
theorem buC12_5 (kn:Bool) (t out:List UInt8):RR (inBu.drop 1) (sBu 12 5 kn t out (exsBu 4)) (sBu 12 5 kn t out (exsBu 5)) .normal:=by delta RR;kernel_rfl
theorem buC12_6 (kn:Bool) (t out:List UInt8):RR (inBu.drop 1) (sBu 12 6 kn t out (exsBu 5)) (sBu 12 6 kn t out (exsBu 6)) .normal:=by delta RR;kernel_rfl
theorem buC12_7 (kn:Bool) (t out:List UInt8):RR (inBu.drop 1) (sBu 12 7 kn t out (exsBu 6)) (sBu 12 7 kn t out (exsBu 7)) .normal:=by delta RR;kernel_rfl
theorem buC12_8 (kn:Bool) (t out:List UInt8):RR (inBu.drop 1) (sBu 12 8 kn t out (exsBu 7)) (sBu 12 8 kn t out (exsBu 8)) .normal:=by delta RR;kernel_rfl
theorem buC12_9 (kn:Bool) (t out:List UInt8):RR (inBu.drop 1) (sBu 12 9 kn t out (exsBu 8)) (sBu 12 9 kn t out (exsBu 9)) .normal:=by delta RR;kernel_rfl
theorem buC12_10 (kn:Bool) (t out:List UInt8):RR (inBu.drop 1) (sBu 12 10 kn t out (exsBu 9)) (sBu 12 10 kn t out (exsBu 10)) .normal:=by delta RR;kernel_rfl
theorem buC12_11 (kn:Bool) (t out:List UInt8):RR (inBu.drop 1) (sBu 12 11 kn t out (exsBu 10)) (sBu 12 11 kn t out (exsBu 11)) .normal:=by delta RR;kernel_rfl
theorem buC12_12 (kn:Bool) (t out:List UInt8):RR (inBu.drop 1) (sBu 12 12 kn t out (exsBu 11)) (sBu 12 12 kn t out (exsBu 12)) .normal:=by delta RR;kernel_rfl
theorem buC12_13 (kn:Bool) (t out:List UInt8):RR (inBu.drop 1) (sBu 12 13 kn t out (exsBu 12)) (sBu 12 13 kn t out (exsBu 13)) .normal:=by delta RR;kernel_rfl
theorem buC12_14 (kn:Bool) (t out:List UInt8):RR (inBu.drop 1) (sBu 12 14 kn t out (exsBu 13)) (sBu 12 14 kn t out (exsBu 14)) .normal:=by delta RR;kernel_rfl
theorem buC12_15 (kn:Bool) (t out:List UInt8):RR (inBu.drop 1) (sBu 12 15 kn t out (exsBu 14)) (sBu 12 15 kn t out (exsBu 15)) .normal:=by delta RR;kernel_rfl
end
end Go.Proofs.YtebdknkgplonmaaGreatDoor.W.E
