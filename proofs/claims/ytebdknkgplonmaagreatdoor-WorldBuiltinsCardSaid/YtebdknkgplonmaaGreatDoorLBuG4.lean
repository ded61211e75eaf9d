/- LBuG4 -/
import Derived.Test.YtebdknkgplonmaaGreatDoorLBuC4
set_option linter.unusedVariables false
set_option linter.unusedSimpArgs false
namespace Go.Proofs.YtebdknkgplonmaaGreatDoor.W.E
section
set_option maxRecDepth 100000
open Go.RowKit
theorem buG4_0:REa 4 line4 0:=by delta REa;kernel_rfl
theorem buG4_1:REa 4 line4 1:=by delta REa;kernel_rfl
theorem buG4_2:REa 4 line4 2:=by delta REa;kernel_rfl
theorem buG4_3:REa 4 line4 3:=by delta REa;kernel_rfl
theorem buG4_4:REa 4 line4 4:=by delta REa;kernel_rfl
theorem buG4_5:REa 4 line4 5:=by delta REa;kernel_rfl
theorem buG4_6:REa 4 line4 6:=by delta REa;kernel_rfl
theorem buG4_7:REa 4 line4 7:=by delta REa;kernel_rfl
theorem buG4_8:REa 4 line4 8:=by delta REa;kernel_rfl
theorem buG4_9:REa 4 line4 9:=by delta REa;kernel_rfl
theorem buG4_10:REa 4 line4 10:=by delta REa;kernel_rfl
theorem buG4_11:REa 4 line4 11:=by delta REa;kernel_rfl
theorem buG4_12:REa 4 line4 12:=by delta REa;kernel_rfl
theorem buG4_13:REa 4 line4 13:=by delta REa;kernel_rfl
theorem buG4_14:REa 4 line4 14:=by delta REa;kernel_rfl
theorem buG4_15:REa 4 line4 15:=by delta REa;kernel_rfl
theorem buH4 (t:List UInt8):REb 4 line4 t:=by delta REb;kernel_rfl
theorem bu4:BuOk 68 4 0 line4 :=
 ⟨preBu4,buA4,buE4,buT4,buF4,buD4,buC4_0,fun i h1 h2=>(by
  match i,h1,h2 with
  | 1,_,_=>exact buC4_1
  | 2,_,_=>exact buC4_2
  | 3,_,_=>exact buC4_3
  | 4,_,_=>exact buC4_4
  | 5,_,_=>exact buC4_5
  | 6,_,_=>exact buC4_6
  | 7,_,_=>exact buC4_7
  | 8,_,_=>exact buC4_8
  | 9,_,_=>exact buC4_9
  | 10,_,_=>exact buC4_10
  | 11,_,_=>exact buC4_11
  | 12,_,_=>exact buC4_12
  | 13,_,_=>exact buC4_13
  | 14,_,_=>exact buC4_14
  | 15,_,_=>exact buC4_15
  | i + 16,_,h=>omega),fun j hj=>(by
  match j,hj with
  | 0,_=>exact buG4_0
  | 1,_=>exact buG4_1
  | 2,_=>exact buG4_2
  | 3,_=>exact buG4_3
  | 4,_=>exact buG4_4
  | 5,_=>exact buG4_5
  | 6,_=>exact buG4_6
  | 7,_=>exact buG4_7
  | 8,_=>exact buG4_8
  | 9,_=>exact buG4_9
  | 10,_=>exact buG4_10
  | 11,_=>exact buG4_11
  | 12,_=>exact buG4_12
  | 13,_=>exact buG4_13
  | 14,_=>exact buG4_14
  | 15,_=>exact buG4_15
  | j + 16,h=>omega),buH4⟩
end
end Go.Proofs.YtebdknkgplonmaaGreatDoor.W.E
