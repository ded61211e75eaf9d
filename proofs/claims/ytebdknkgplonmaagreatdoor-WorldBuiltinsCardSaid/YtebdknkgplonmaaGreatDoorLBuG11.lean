/- LBuG11 -/
import Derived.Test.YtebdknkgplonmaaGreatDoorLBuC11
set_option linter.unusedVariables false
set_option linter.unusedSimpArgs false
namespace Go.Proofs.YtebdknkgplonmaaGreatDoor.W.E
section
set_option maxRecDepth 100000
open Go.RowKit
theorem buG11_0:REa 11 line11 0:=by delta REa;kernel_rfl
theorem buG11_1:REa 11 line11 1:=by delta REa;kernel_rfl
theorem buG11_2:REa 11 line11 2:=by delta REa;kernel_rfl
theorem buG11_3:REa 11 line11 3:=by delta REa;kernel_rfl
theorem buG11_4:REa 11 line11 4:=by delta REa;kernel_rfl
theorem buG11_5:REa 11 line11 5:=by delta REa;kernel_rfl
theorem buG11_6:REa 11 line11 6:=by delta REa;kernel_rfl
theorem buG11_7:REa 11 line11 7:=by delta REa;kernel_rfl
theorem buG11_8:REa 11 line11 8:=by delta REa;kernel_rfl
theorem buG11_9:REa 11 line11 9:=by delta REa;kernel_rfl
theorem buG11_10:REa 11 line11 10:=by delta REa;kernel_rfl
theorem buG11_11:REa 11 line11 11:=by delta REa;kernel_rfl
theorem buG11_12:REa 11 line11 12:=by delta REa;kernel_rfl
theorem buG11_13:REa 11 line11 13:=by delta REa;kernel_rfl
theorem buG11_14:REa 11 line11 14:=by delta REa;kernel_rfl
theorem buG11_15:REa 11 line11 15:=by delta REa;kernel_rfl
theorem buH11 (t:List UInt8):REb 11 line11 t:=by delta REb;kernel_rfl
theorem bu11:BuOk 96 11 7 line11 :=
 ⟨preBu11,buA11,buE11,buT11,buF11,buD11,buC11_0,fun i h1 h2=>(by
  match i,h1,h2 with
  | 1,_,_=>exact buC11_1
  | 2,_,_=>exact buC11_2
  | 3,_,_=>exact buC11_3
  | 4,_,_=>exact buC11_4
  | 5,_,_=>exact buC11_5
  | 6,_,_=>exact buC11_6
  | 7,_,_=>exact buC11_7
  | 8,_,_=>exact buC11_8
  | 9,_,_=>exact buC11_9
  | 10,_,_=>exact buC11_10
  | 11,_,_=>exact buC11_11
  | 12,_,_=>exact buC11_12
  | 13,_,_=>exact buC11_13
  | 14,_,_=>exact buC11_14
  | 15,_,_=>exact buC11_15
  | i + 16,_,h=>omega),fun j hj=>(by
  match j,hj with
  | 0,_=>exact buG11_0
  | 1,_=>exact buG11_1
  | 2,_=>exact buG11_2
  | 3,_=>exact buG11_3
  | 4,_=>exact buG11_4
  | 5,_=>exact buG11_5
  | 6,_=>exact buG11_6
  | 7,_=>exact buG11_7
  | 8,_=>exact buG11_8
  | 9,_=>exact buG11_9
  | 10,_=>exact buG11_10
  | 11,_=>exact buG11_11
  | 12,_=>exact buG11_12
  | 13,_=>exact buG11_13
  | 14,_=>exact buG11_14
  | 15,_=>exact buG11_15
  | j + 16,h=>omega),buH11⟩
end
end Go.Proofs.YtebdknkgplonmaaGreatDoor.W.E
