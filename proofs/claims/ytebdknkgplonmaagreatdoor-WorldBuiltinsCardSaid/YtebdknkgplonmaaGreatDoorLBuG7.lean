/- LBuG7 -/
import Derived.Test.YtebdknkgplonmaaGreatDoorLBuC7
set_option linter.unusedVariables false
set_option linter.unusedSimpArgs false
namespace Go.Proofs.YtebdknkgplonmaaGreatDoor.W.E
section
set_option maxRecDepth 100000
open Go.RowKit
theorem buG7_0:REa 7 line7 0:=by delta REa;kernel_rfl
theorem buG7_1:REa 7 line7 1:=by delta REa;kernel_rfl
theorem buG7_2:REa 7 line7 2:=by delta REa;kernel_rfl
theorem buG7_3:REa 7 line7 3:=by delta REa;kernel_rfl
theorem buG7_4:REa 7 line7 4:=by delta REa;kernel_rfl
theorem buG7_5:REa 7 line7 5:=by delta REa;kernel_rfl
theorem buG7_6:REa 7 line7 6:=by delta REa;kernel_rfl
theorem buG7_7:REa 7 line7 7:=by delta REa;kernel_rfl
theorem buG7_8:REa 7 line7 8:=by delta REa;kernel_rfl
theorem buG7_9:REa 7 line7 9:=by delta REa;kernel_rfl
theorem buG7_10:REa 7 line7 10:=by delta REa;kernel_rfl
theorem buG7_11:REa 7 line7 11:=by delta REa;kernel_rfl
theorem buG7_12:REa 7 line7 12:=by delta REa;kernel_rfl
theorem buG7_13:REa 7 line7 13:=by delta REa;kernel_rfl
theorem buG7_14:REa 7 line7 14:=by delta REa;kernel_rfl
theorem buG7_15:REa 7 line7 15:=by delta REa;kernel_rfl
theorem buH7 (t:List UInt8):REb 7 line7 t:=by delta REb;kernel_rfl
theorem bu7:BuOk 80 7 3 line7 :=
 ⟨preBu7,buA7,buE7,buT7,buF7,buD7,buC7_0,fun i h1 h2=>(by
  match i,h1,h2 with
  | 1,_,_=>exact buC7_1
  | 2,_,_=>exact buC7_2
  | 3,_,_=>exact buC7_3
  | 4,_,_=>exact buC7_4
  | 5,_,_=>exact buC7_5
  | 6,_,_=>exact buC7_6
  | 7,_,_=>exact buC7_7
  | 8,_,_=>exact buC7_8
  | 9,_,_=>exact buC7_9
  | 10,_,_=>exact buC7_10
  | 11,_,_=>exact buC7_11
  | 12,_,_=>exact buC7_12
  | 13,_,_=>exact buC7_13
  | 14,_,_=>exact buC7_14
  | 15,_,_=>exact buC7_15
  | i + 16,_,h=>omega),fun j hj=>(by
  match j,hj with
  | 0,_=>exact buG7_0
  | 1,_=>exact buG7_1
  | 2,_=>exact buG7_2
  | 3,_=>exact buG7_3
  | 4,_=>exact buG7_4
  | 5,_=>exact buG7_5
  | 6,_=>exact buG7_6
  | 7,_=>exact buG7_7
  | 8,_=>exact buG7_8
  | 9,_=>exact buG7_9
  | 10,_=>exact buG7_10
  | 11,_=>exact buG7_11
  | 12,_=>exact buG7_12
  | 13,_=>exact buG7_13
  | 14,_=>exact buG7_14
  | 15,_=>exact buG7_15
  | j + 16,h=>omega),buH7⟩
end
end Go.Proofs.YtebdknkgplonmaaGreatDoor.W.E
