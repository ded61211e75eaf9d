/- LBuG12 -/
import Derived.Test.YtebdknkgplonmaaGreatDoorLBuC12
set_option linter.unusedVariables false
set_option linter.unusedSimpArgs false
namespace Go.Proofs.YtebdknkgplonmaaGreatDoor.W.E
section
set_option maxRecDepth 100000
open Go.RowKit
theorem buG12_0:REa 12 line12 0:=by delta REa;kernel_rfl
theorem buG12_1:REa 12 line12 1:=by delta REa;kernel_rfl
theorem buG12_2:REa 12 line12 2:=by delta REa;kernel_rfl
theorem buG12_3:REa 12 line12 3:=by delta REa;kernel_rfl
theorem buG12_4:REa 12 line12 4:=by delta REa;kernel_rfl
theorem buG12_5:REa 12 line12 5:=by delta REa;kernel_rfl
theorem buG12_6:REa 12 line12 6:=by delta REa;kernel_rfl
theorem buG12_7:REa 12 line12 7:=by delta REa;kernel_rfl
theorem buG12_8:REa 12 line12 8:=by delta REa;kernel_rfl
theorem buG12_9:REa 12 line12 9:=by delta REa;kernel_rfl
theorem buG12_10:REa 12 line12 10:=by delta REa;kernel_rfl
theorem buG12_11:REa 12 line12 11:=by delta REa;kernel_rfl
theorem buG12_12:REa 12 line12 12:=by delta REa;kernel_rfl
theorem buG12_13:REa 12 line12 13:=by delta REa;kernel_rfl
theorem buG12_14:REa 12 line12 14:=by delta REa;kernel_rfl
theorem buG12_15:REa 12 line12 15:=by delta REa;kernel_rfl
theorem buH12 (t:List UInt8):REb 12 line12 t:=by delta REb;kernel_rfl
theorem bu12:BuOk 100 12 8 line12 :=
 ⟨preBu12,buA12,buE12,buT12,buF12,buD12,buC12_0,fun i h1 h2=>(by
  match i,h1,h2 with
  | 1,_,_=>exact buC12_1
  | 2,_,_=>exact buC12_2
  | 3,_,_=>exact buC12_3
  | 4,_,_=>exact buC12_4
  | 5,_,_=>exact buC12_5
  | 6,_,_=>exact buC12_6
  | 7,_,_=>exact buC12_7
  | 8,_,_=>exact buC12_8
  | 9,_,_=>exact buC12_9
  | 10,_,_=>exact buC12_10
  | 11,_,_=>exact buC12_11
  | 12,_,_=>exact buC12_12
  | 13,_,_=>exact buC12_13
  | 14,_,_=>exact buC12_14
  | 15,_,_=>exact buC12_15
  | i + 16,_,h=>omega),fun j hj=>(by
  match j,hj with
  | 0,_=>exact buG12_0
  | 1,_=>exact buG12_1
  | 2,_=>exact buG12_2
  | 3,_=>exact buG12_3
  | 4,_=>exact buG12_4
  | 5,_=>exact buG12_5
  | 6,_=>exact buG12_6
  | 7,_=>exact buG12_7
  | 8,_=>exact buG12_8
  | 9,_=>exact buG12_9
  | 10,_=>exact buG12_10
  | 11,_=>exact buG12_11
  | 12,_=>exact buG12_12
  | 13,_=>exact buG12_13
  | 14,_=>exact buG12_14
  | 15,_=>exact buG12_15
  | j + 16,h=>omega),buH12⟩
end
end Go.Proofs.YtebdknkgplonmaaGreatDoor.W.E
