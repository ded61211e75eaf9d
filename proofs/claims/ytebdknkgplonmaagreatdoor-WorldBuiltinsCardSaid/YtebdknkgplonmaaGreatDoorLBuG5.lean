/- LBuG5 -/
import Derived.Test.YtebdknkgplonmaaGreatDoorLBuC5
set_option linter.unusedVariables false
set_option linter.unusedSimpArgs false
namespace Go.Proofs.YtebdknkgplonmaaGreatDoor.W.E
section
set_option maxRecDepth 100000
open Go.RowKit
theorem buG5_0:REa 5 line5 0:=by delta REa;kernel_rfl
theorem buG5_1:REa 5 line5 1:=by delta REa;kernel_rfl
theorem buG5_2:REa 5 line5 2:=by delta REa;kernel_rfl
theorem buG5_3:REa 5 line5 3:=by delta REa;kernel_rfl
theorem buG5_4:REa 5 line5 4:=by delta REa;kernel_rfl
theorem buG5_5:REa 5 line5 5:=by delta REa;kernel_rfl
theorem buG5_6:REa 5 line5 6:=by delta REa;kernel_rfl
theorem buG5_7:REa 5 line5 7:=by delta REa;kernel_rfl
theorem buG5_8:REa 5 line5 8:=by delta REa;kernel_rfl
theorem buG5_9:REa 5 line5 9:=by delta REa;kernel_rfl
theorem buG5_10:REa 5 line5 10:=by delta REa;kernel_rfl
theorem buG5_11:REa 5 line5 11:=by delta REa;kernel_rfl
theorem buG5_12:REa 5 line5 12:=by delta REa;kernel_rfl
theorem buG5_13:REa 5 line5 13:=by delta REa;kernel_rfl
theorem buG5_14:REa 5 line5 14:=by delta REa;kernel_rfl
theorem buG5_15:REa 5 line5 15:=by delta REa;kernel_rfl
theorem buH5 (t:List UInt8):REb 5 line5 t:=by delta REb;kernel_rfl
theorem bu5:BuOk 72 5 1 line5 :=
 ⟨preBu5,buA5,buE5,buT5,buF5,buD5,buC5_0,fun i h1 h2=>(by
  match i,h1,h2 with
  | 1,_,_=>exact buC5_1
  | 2,_,_=>exact buC5_2
  | 3,_,_=>exact buC5_3
  | 4,_,_=>exact buC5_4
  | 5,_,_=>exact buC5_5
  | 6,_,_=>exact buC5_6
  | 7,_,_=>exact buC5_7
  | 8,_,_=>exact buC5_8
  | 9,_,_=>exact buC5_9
  | 10,_,_=>exact buC5_10
  | 11,_,_=>exact buC5_11
  | 12,_,_=>exact buC5_12
  | 13,_,_=>exact buC5_13
  | 14,_,_=>exact buC5_14
  | 15,_,_=>exact buC5_15
  | i + 16,_,h=>omega),fun j hj=>(by
  match j,hj with
  | 0,_=>exact buG5_0
  | 1,_=>exact buG5_1
  | 2,_=>exact buG5_2
  | 3,_=>exact buG5_3
  | 4,_=>exact buG5_4
  | 5,_=>exact buG5_5
  | 6,_=>exact buG5_6
  | 7,_=>exact buG5_7
  | 8,_=>exact buG5_8
  | 9,_=>exact buG5_9
  | 10,_=>exact buG5_10
  | 11,_=>exact buG5_11
  | 12,_=>exact buG5_12
  | 13,_=>exact buG5_13
  | 14,_=>exact buG5_14
  | 15,_=>exact buG5_15
  | j + 16,h=>omega),buH5⟩
end
end Go.Proofs.YtebdknkgplonmaaGreatDoor.W.E
