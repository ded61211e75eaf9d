/- LBuG6 -/
import Derived.Test.YtebdknkgplonmaaGreatDoorLBuC6
set_option linter.unusedVariables false
set_option linter.unusedSimpArgs false
namespace Go.Proofs.YtebdknkgplonmaaGreatDoor.W.E
section
set_option maxRecDepth 100000
open Go.RowKit
theorem buG6_0:REa 6 line6 0:=by delta REa;kernel_rfl
theorem buG6_1:REa 6 line6 1:=by delta REa;kernel_rfl
theorem buG6_2:REa 6 line6 2:=by delta REa;kernel_rfl
theorem buG6_3:REa 6 line6 3:=by delta REa;kernel_rfl
theorem buG6_4:REa 6 line6 4:=by delta REa;kernel_rfl
theorem buG6_5:REa 6 line6 5:=by delta REa;kernel_rfl
theorem buG6_6:REa 6 line6 6:=by delta REa;kernel_rfl
theorem buG6_7:REa 6 line6 7:=by delta REa;kernel_rfl
theorem buG6_8:REa 6 line6 8:=by delta REa;kernel_rfl
theorem buG6_9:REa 6 line6 9:=by delta REa;kernel_rfl
theorem buG6_10:REa 6 line6 10:=by delta REa;kernel_rfl
theorem buG6_11:REa 6 line6 11:=by delta REa;kernel_rfl
theorem buG6_12:REa 6 line6 12:=by delta REa;kernel_rfl
theorem buG6_13:REa 6 line6 13:=by delta REa;kernel_rfl
theorem buG6_14:REa 6 line6 14:=by delta REa;kernel_rfl
theorem buG6_15:REa 6 line6 15:=by delta REa;kernel_rfl
theorem buH6 (t:List UInt8):REb 6 line6 t:=by delta REb;kernel_rfl
theorem bu6:BuOk 76 6 2 line6 :=
 ⟨preBu6,buA6,buE6,buT6,buF6,buD6,buC6_0,fun i h1 h2=>(by
  match i,h1,h2 with
  | 1,_,_=>exact buC6_1
  | 2,_,_=>exact buC6_2
  | 3,_,_=>exact buC6_3
  | 4,_,_=>exact buC6_4
  | 5,_,_=>exact buC6_5
  | 6,_,_=>exact buC6_6
  | 7,_,_=>exact buC6_7
  | 8,_,_=>exact buC6_8
  | 9,_,_=>exact buC6_9
  | 10,_,_=>exact buC6_10
  | 11,_,_=>exact buC6_11
  | 12,_,_=>exact buC6_12
  | 13,_,_=>exact buC6_13
  | 14,_,_=>exact buC6_14
  | 15,_,_=>exact buC6_15
  | i + 16,_,h=>omega),fun j hj=>(by
  match j,hj with
  | 0,_=>exact buG6_0
  | 1,_=>exact buG6_1
  | 2,_=>exact buG6_2
  | 3,_=>exact buG6_3
  | 4,_=>exact buG6_4
  | 5,_=>exact buG6_5
  | 6,_=>exact buG6_6
  | 7,_=>exact buG6_7
  | 8,_=>exact buG6_8
  | 9,_=>exact buG6_9
  | 10,_=>exact buG6_10
  | 11,_=>exact buG6_11
  | 12,_=>exact buG6_12
  | 13,_=>exact buG6_13
  | 14,_=>exact buG6_14
  | 15,_=>exact buG6_15
  | j + 16,h=>omega),buH6⟩
end
end Go.Proofs.YtebdknkgplonmaaGreatDoor.W.E
