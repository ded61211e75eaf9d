/- LWeak -/
import Derived.Test.YtebdknkgplonmaaGreatDoorLWeak0
import Derived.Test.YtebdknkgplonmaaGreatDoorLWeak1
import Derived.Test.YtebdknkgplonmaaGreatDoorLWeak2
import Derived.Test.YtebdknkgplonmaaGreatDoorLWeak3
set_option linter.unusedVariables false
set_option linter.unusedSimpArgs false
namespace Go.Proofs.YtebdknkgplonmaaGreatDoor.W.E
section
open Go.RowKit
theorem weakL {x2 t0 : Int} {y0 y1 : Bool} {s : Scr} (h : RWeak x2 y0 y1 t0 s) (h0 : modI x2 11 = t0) : LawT 8 [.bool y0, .bool y1, .int .i64 x2] :=
 Ran.law h (tab_cons h0 tab_nil) (.cons (.bool _) (.cons (.bool _) (.cons (.int _ _) .nil)))
theorem weak_any (g h : Bool) (d : Int) : LawT 8 [.bool g, .bool h, .int .i64 d] := by
 have hm : modI d 11 = 0 ∨ modI d 11 = 1 ∨ modI d 11 = 2 ∨ modI d 11 = 3 ∨ modI d 11 = 4 ∨ modI d 11 = 5 ∨ modI d 11 = 6 ∨ modI d 11 = 7 ∨ modI d 11 = 8 ∨ modI d 11 = 9 ∨ modI d 11 = 10 := by rw [modI_eq]; omega
 cases g
 ·cases h
  ·rcases hm with h | h | h | h | h | h | h | h | h | h | h
   ·exact weakL (rWeak_0 d) h
   ·exact weakL (rWeak_1 d) h
   ·exact weakL (rWeak_2 d) h
   ·exact weakL (rWeak_3 d) h
   ·exact weakL (rWeak_4 d) h
   ·exact weakL (rWeak_5 d) h
   ·exact weakL (rWeak_6 d) h
   ·exact weakL (rWeak_7 d) h
   ·exact weakL (rWeak_8 d) h
   ·exact weakL (rWeak_9 d) h
   ·exact weakL (rWeak_10 d) h
  ·rcases hm with h | h | h | h | h | h | h | h | h | h | h
   ·exact weakL (rWeak_11 d) h
   ·exact weakL (rWeak_12 d) h
   ·exact weakL (rWeak_13 d) h
   ·exact weakL (rWeak_14 d) h
   ·exact weakL (rWeak_15 d) h
   ·exact weakL (rWeak_16 d) h
   ·exact weakL (rWeak_17 d) h
   ·exact weakL (rWeak_18 d) h
   ·exact weakL (rWeak_19 d) h
   ·exact weakL (rWeak_20 d) h
   ·exact weakL (rWeak_21 d) h
 ·cases h
  ·rcases hm with h | h | h | h | h | h | h | h | h | h | h
   ·exact weakL (rWeak_22 d) h
   ·exact weakL (rWeak_23 d) h
   ·exact weakL (rWeak_24 d) h
   ·exact weakL (rWeak_25 d) h
   ·exact weakL (rWeak_26 d) h
   ·exact weakL (rWeak_27 d) h
   ·exact weakL (rWeak_28 d) h
   ·exact weakL (rWeak_29 d) h
   ·exact weakL (rWeak_30 d) h
   ·exact weakL (rWeak_31 d) h
   ·exact weakL (rWeak_32 d) h
  ·rcases hm with h | h | h | h | h | h | h | h | h | h | h
   ·exact weakL (rWeak_33 d) h
   ·exact weakL (rWeak_34 d) h
   ·exact weakL (rWeak_35 d) h
   ·exact weakL (rWeak_36 d) h
   ·exact weakL (rWeak_37 d) h
   ·exact weakL (rWeak_38 d) h
   ·exact weakL (rWeak_39 d) h
   ·exact weakL (rWeak_40 d) h
   ·exact weakL (rWeak_41 d) h
   ·exact weakL (rWeak_42 d) h
   ·exact weakL (rWeak_43 d) h
end
end Go.Proofs.YtebdknkgplonmaaGreatDoor.W.E
