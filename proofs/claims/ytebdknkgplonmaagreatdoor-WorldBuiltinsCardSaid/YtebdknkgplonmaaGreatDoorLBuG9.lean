/- LBuG9 -/
import Derived.Test.YtebdknkgplonmaaGreatDoorLBuC9
set_option linter.unusedVariables false
set_option linter.unusedSimpArgs false
namespace Go.Proofs.YtebdknkgplonmaaGreatDoor.W.E
section
set_option maxRecDepth 100000
open Go.RowKit
theorem buG9_0:REa 9 line9 0:=by delta REa;kernel_rfl
theorem buG9_1:REa 9 line9 1:=by delta REa;kernel_rfl
theorem buG9_2:REa 9 line9 2:=by delta REa;kernel_rfl
theorem buG9_3:REa 9 line9 3:=by delta REa;kernel_rfl
theorem buG9_4:REa 9 line9 4:=by delta REa;kernel_rfl
theorem buG9_5:REa 9 line9 5:=by delta REa;kernel_rfl
theorem buG9_6:REa 9 line9 6:=by delta REa;kernel_rfl
theorem buG9_7:REa 9 line9 7:=by delta REa;kernel_rfl
theorem buG9_8:REa 9 line9 8:=by delta REa;kernel_rfl
theorem buG9_9:REa 9 line9 9:=by delta REa;kernel_rfl
theorem buG9_10:REa 9 line9 10:=by delta REa;kernel_rfl
theorem buG9_11:REa 9 line9 11:=by delta REa;kernel_rfl
theorem buG9_12:REa 9 line9 12:=by delta REa;kernel_rfl
theorem buG9_13:REa 9 line9 13:=by delta REa;kernel_rfl
theorem buG9_14:REa 9 line9 14:=by delta REa;kernel_rfl
theorem buG9_15:REa 9 line9 15:=by delta REa;kernel_rfl
theorem buH9 (t:List UInt8):REb 9 line9 t:=by delta REb;kernel_rfl
theorem bu9:BuOk 88 9 5 line9 :=
 ⟨preBu9,buA9,buE9,buT9,buF9,buD9,buC9_0,fun i h1 h2=>(by
  match i,h1,h2 with
  | 1,_,_=>exact buC9_1
  | 2,_,_=>exact buC9_2
  | 3,_,_=>exact buC9_3
  | 4,_,_=>exact buC9_4
  | 5,_,_=>exact buC9_5
  | 6,_,_=>exact buC9_6
  | 7,_,_=>exact buC9_7
  | 8,_,_=>exact buC9_8
  | 9,_,_=>exact buC9_9
  | 10,_,_=>exact buC9_10
  | 11,_,_=>exact buC9_11
  | 12,_,_=>exact buC9_12
  | 13,_,_=>exact buC9_13
  | 14,_,_=>exact buC9_14
  | 15,_,_=>exact buC9_15
  | i + 16,_,h=>omega),fun j hj=>(by
  match j,hj with
  | 0,_=>exact buG9_0
  | 1,_=>exact buG9_1
  | 2,_=>exact buG9_2
  | 3,_=>exact buG9_3
  | 4,_=>exact buG9_4
  | 5,_=>exact buG9_5
  | 6,_=>exact buG9_6
  | 7,_=>exact buG9_7
  | 8,_=>exact buG9_8
  | 9,_=>exact buG9_9
  | 10,_=>exact buG9_10
  | 11,_=>exact buG9_11
  | 12,_=>exact buG9_12
  | 13,_=>exact buG9_13
  | 14,_=>exact buG9_14
  | 15,_=>exact buG9_15
  | j + 16,h=>omega),buH9⟩
end
end Go.Proofs.YtebdknkgplonmaaGreatDoor.W.E
