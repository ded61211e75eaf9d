/- LBuG10 -/
import Derived.Test.YtebdknkgplonmaaGreatDoorLBuC10
set_option linter.unusedVariables false
set_option linter.unusedSimpArgs false
namespace Go.Proofs.YtebdknkgplonmaaGreatDoor.W.E
section
set_option maxRecDepth 100000
open Go.RowKit
theorem buG10_0:REa 10 line10 0:=by delta REa;kernel_rfl
theorem buG10_1:REa 10 line10 1:=by delta REa;kernel_rfl
theorem buG10_2:REa 10 line10 2:=by delta REa;kernel_rfl
theorem buG10_3:REa 10 line10 3:=by delta REa;kernel_rfl
theorem buG10_4:REa 10 line10 4:=by delta REa;kernel_rfl
theorem buG10_5:REa 10 line10 5:=by delta REa;kernel_rfl
theorem buG10_6:REa 10 line10 6:=by delta REa;kernel_rfl
theorem buG10_7:REa 10 line10 7:=by delta REa;kernel_rfl
theorem buG10_8:REa 10 line10 8:=by delta REa;kernel_rfl
theorem buG10_9:REa 10 line10 9:=by delta REa;kernel_rfl
theorem buG10_10:REa 10 line10 10:=by delta REa;kernel_rfl
theorem buG10_11:REa 10 line10 11:=by delta REa;kernel_rfl
theorem buG10_12:REa 10 line10 12:=by delta REa;kernel_rfl
theorem buG10_13:REa 10 line10 13:=by delta REa;kernel_rfl
theorem buG10_14:REa 10 line10 14:=by delta REa;kernel_rfl
theorem buG10_15:REa 10 line10 15:=by delta REa;kernel_rfl
theorem buH10 (t:List UInt8):REb 10 line10 t:=by delta REb;kernel_rfl
theorem bu10:BuOk 92 10 6 line10 :=
 ⟨preBu10,buA10,buE10,buT10,buF10,buD10,buC10_0,fun i h1 h2=>(by
  match i,h1,h2 with
  | 1,_,_=>exact buC10_1
  | 2,_,_=>exact buC10_2
  | 3,_,_=>exact buC10_3
  | 4,_,_=>exact buC10_4
  | 5,_,_=>exact buC10_5
  | 6,_,_=>exact buC10_6
  | 7,_,_=>exact buC10_7
  | 8,_,_=>exact buC10_8
  | 9,_,_=>exact buC10_9
  | 10,_,_=>exact buC10_10
  | 11,_,_=>exact buC10_11
  | 12,_,_=>exact buC10_12
  | 13,_,_=>exact buC10_13
  | 14,_,_=>exact buC10_14
  | 15,_,_=>exact buC10_15
  | i + 16,_,h=>omega),fun j hj=>(by
  match j,hj with
  | 0,_=>exact buG10_0
  | 1,_=>exact buG10_1
  | 2,_=>exact buG10_2
  | 3,_=>exact buG10_3
  | 4,_=>exact buG10_4
  | 5,_=>exact buG10_5
  | 6,_=>exact buG10_6
  | 7,_=>exact buG10_7
  | 8,_=>exact buG10_8
  | 9,_=>exact buG10_9
  | 10,_=>exact buG10_10
  | 11,_=>exact buG10_11
  | 12,_=>exact buG10_12
  | 13,_=>exact buG10_13
  | 14,_=>exact buG10_14
  | 15,_=>exact buG10_15
  | j + 16,h=>omega),buH10⟩
end
end Go.Proofs.YtebdknkgplonmaaGreatDoor.W.E
