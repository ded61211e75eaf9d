/- LBuC11 -/
import Derived.Test.YtebdknkgplonmaaGreatDoorLBuR
set_option linter.unusedVariables false
set_option linter.unusedSimpArgs false
namespace Go.Proofs.YtebdknkgplonmaaGreatDoor.W.E
section
set_option maxRecDepth 100000
open Go.RowKit
def line11:List UInt8:=[48,32,49,32,50,32,51,32,52,32,53,32,54,32,55,32,56,32,57,32,49,48,10]
theorem buC11_0 (kn:Bool) (t:List UInt8):RR (inBu.drop 1) (sBu 11 0 kn t [] hBu) (sBu 11 0 kn t line11 hBu) .normal:=by delta RR;kernel_rfl
theorem buC11_1 (kn:Bool) (t out:List UInt8):RR (inBu.drop 1) (sBu 11 1 kn t out (exsBu 0)) (sBu 11 1 kn t out (exsBu 1)) .normal:=by delta RR;kernel_rfl
theorem buC11_2 (kn:Bool) (t out:List UInt8):RR (inBu.drop 1) (sBu 11 2 kn t out (exsBu 1)) (sBu 11 2 kn t out (exsBu 2)) .normal:=by delta RR;kernel_rfl
theorem buC11_3 (kn:Bool) (t out:List UInt8):RR (inBu.drop 1) (sBu 11 3 kn t out (exsBu 2)) (sBu 11 3 kn t out (exsBu 3)) .normal:=by delta RR;kernel_rfl
theorem buC11_4 (kn:Bool) (t out:List UInt8):RR (inBu.drop 1) (sBu 11 4 kn t out (exsBu 3)) (sBu 11 4 kn t out (exsBu 4)) .normal:=by delta RR;kernel_rfl
theorem buC11_5 (kn:Bool) (t out:List UInt8):RR (inBu.drop 1) (sBu 11 5 kn t out (exsBu 4)) (sBu 11 5 kn t out (exsBu 5)) .normal:=by delta RR;kernel_rfl
theorem buC11_6 (kn:Bool) (t out:List UInt8):RR (inBu.drop 1) (sBu 11 6 kn t out (exsBu 5)) (sBu 11 6 kn t out (exsBu 6)) .normal:=by delta RR;kernel_rfl
theorem buC11_7 (kn:Bool) (t out:List UInt8):RR (inBu.drop 1) (sBu 11 7 kn t out (exsBu 6)) (sBu 11 7 kn t out (exsBu 7)) .normal:=by delta RR;kernel_rfl
theorem buC11_8 (kn:Bool) (t out:List UInt8):RR (inBu.drop 1) (sBu 11 8 kn t out (exsBu 7)) (sBu 11 8 kn t out (exsBu 8)) .normal:=by delta RR;kernel_rfl
theorem buC11_9 (kn:Bool) (t out:List UInt8):RR (inBu.drop 1) (sBu 11 9 kn t out (exsBu 8)) (sBu 11 9 kn t out (exsBu 9)) .normal:=by delta RR;kernel_rfl
theorem buC11_10 (kn:Bool) (t out:List UInt8):RR (inBu.drop 1) (sBu 11 10 kn t out (exsBu 9)) (sBu 11 10 kn t out (exsBu 10)) .normal:=by delta RR;kernel_rfl
theorem buC11_11 (kn:Bool) (t out:List UInt8):RR (inBu.drop 1) (sBu 11 11 kn t out (exsBu 10)) (sBu 11 11 kn t out (exsBu 11)) .normal:=by delta RR;kernel_rfl
theorem buC11_12 (kn:Bool) (t out:List UInt8):RR (inBu.drop 1) (sBu 11 12 kn t out (exsBu 11)) (sBu 11 12 kn t out (exsBu 12)) .normal:=by delta RR;kernel_rfl
theorem buC11_13 (kn:Bool) (t out:List UInt8):RR (inBu.drop 1) (sBu 11 13 kn t out (exsBu 12)) (sBu 11 13 kn t out (exsBu 13)) .normal:=by delta RR;kernel_rfl
theorem buC11_14 (kn:Bool) (t out:List UInt8):RR (inBu.drop 1) (sBu 11 14 kn t out (exsBu 13)) (sBu 11 14 kn t out (exsBu 14)) .normal:=by delta RR;kernel_rfl
theorem buC11_15 (kn:Bool) (t out:List UInt8):RR (inBu.drop 1) (sBu 11 15 kn t out (exsBu 14)) (sBu 11 15 kn t out (exsBu 15)) .normal:=by delta RR;kernel_rfl
end
end Go.Proofs.YtebdknkgplonmaaGreatDoor.W.E
