/- LBuG8 -/
import Derived.Test.YtebdknkgplonmaaGreatDoorLBuC8
set_option linter.unusedVariables false
set_option linter.unusedSimpArgs false
namespace Go.Proofs.YtebdknkgplonmaaGreatDoor.W.E
section
set_option maxRecDepth 100000
open Go.RowKit
theorem buG8_0:REa 8 line8 0:=by delta REa;kernel_rfl
theorem buG8_1:REa 8 line8 1:=by delta REa;kernel_rfl
theorem buG8_2:REa 8 line8 2:=by delta REa;kernel_rfl
theorem buG8_3:REa 8 line8 3:=by delta REa;kernel_rfl
theorem buG8_4:REa 8 line8 4:=by delta REa;kernel_rfl
theorem buG8_5:REa 8 line8 5:=by delta REa;kernel_rfl
theorem buG8_6:REa 8 line8 6:=by delta REa;kernel_rfl
theorem buG8_7:REa 8 line8 7:=by delta REa;kernel_rfl
theorem buG8_8:REa 8 line8 8:=by delta REa;kernel_rfl
theorem buG8_9:REa 8 line8 9:=by delta REa;kernel_rfl
theorem buG8_10:REa 8 line8 10:=by delta REa;kernel_rfl
theorem buG8_11:REa 8 line8 11:=by delta REa;kernel_rfl
theorem buG8_12:REa 8 line8 12:=by delta REa;kernel_rfl
theorem buG8_13:REa 8 line8 13:=by delta REa;kernel_rfl
theorem buG8_14:REa 8 line8 14:=by delta REa;kernel_rfl
theorem buG8_15:REa 8 line8 15:=by delta REa;kernel_rfl
theorem buH8 (t:List UInt8):REb 8 line8 t:=by delta REb;kernel_rfl
theorem bu8:BuOk 84 8 4 line8 :=
 ⟨preBu8,buA8,buE8,buT8,buF8,buD8,buC8_0,fun i h1 h2=>(by
  match i,h1,h2 with
  | 1,_,_=>exact buC8_1
  | 2,_,_=>exact buC8_2
  | 3,_,_=>exact buC8_3
  | 4,_,_=>exact buC8_4
  | 5,_,_=>exact buC8_5
  | 6,_,_=>exact buC8_6
  | 7,_,_=>exact buC8_7
  | 8,_,_=>exact buC8_8
  | 9,_,_=>exact buC8_9
  | 10,_,_=>exact buC8_10
  | 11,_,_=>exact buC8_11
  | 12,_,_=>exact buC8_12
  | 13,_,_=>exact buC8_13
  | 14,_,_=>exact buC8_14
  | 15,_,_=>exact buC8_15
  | i + 16,_,h=>omega),fun j hj=>(by
  match j,hj with
  | 0,_=>exact buG8_0
  | 1,_=>exact buG8_1
  | 2,_=>exact buG8_2
  | 3,_=>exact buG8_3
  | 4,_=>exact buG8_4
  | 5,_=>exact buG8_5
  | 6,_=>exact buG8_6
  | 7,_=>exact buG8_7
  | 8,_=>exact buG8_8
  | 9,_=>exact buG8_9
  | 10,_=>exact buG8_10
  | 11,_=>exact buG8_11
  | 12,_=>exact buG8_12
  | 13,_=>exact buG8_13
  | 14,_=>exact buG8_14
  | 15,_=>exact buG8_15
  | j + 16,h=>omega),buH8⟩
end
end Go.Proofs.YtebdknkgplonmaaGreatDoor.W.E
