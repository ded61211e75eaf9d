/- LInits -/
import Derived.Test.YtebdknkgplonmaaGreatDoorLInits0
import Derived.Test.YtebdknkgplonmaaGreatDoorLInits1
import Derived.Test.YtebdknkgplonmaaGreatDoorLInits2
import Derived.Test.YtebdknkgplonmaaGreatDoorLInits3
import Derived.Test.YtebdknkgplonmaaGreatDoorLInits4
import Derived.Test.YtebdknkgplonmaaGreatDoorLInits5
import Derived.Test.YtebdknkgplonmaaGreatDoorLInits6
import Derived.Test.YtebdknkgplonmaaGreatDoorLInits7
set_option linter.unusedVariables false
set_option linter.unusedSimpArgs false
namespace Go.Proofs.YtebdknkgplonmaaGreatDoor.W.E
section
open Go.RowKit
theorem initsL {x0 x1 x2 t0 t1 t2 t3 t4 : Int} {s : Scr} (h : RInits x0 x1 x2 t0 t1 t2 t3 t4 s) (h0 : andI x0 1 = t0) (h1 : andI (Int.fdiv x0 (2 ^ 1)) 1 = t1) (h2 : andI x0 3 = t2) (h3 : modI x1 6 = t3) (h4 : modI x2 5 = t4) : LawT 3 [.int .i64 x0, .int .i64 x1, .int .i64 x2] :=
 Ran.law h (tab_cons h0 (tab_cons h1 (tab_cons h2 (tab_cons h3 (tab_cons h4 tab_nil))))) (.cons (.int _ _) (.cons (.int _ _) (.cons (.int _ _) .nil)))
theorem inits_any (x0 x1 x2 : Int) : LawT 3 [.int .i64 x0, .int .i64 x1, .int .i64 x2] := by
 have hw : x0 % 4 = 0 ∨ x0 % 4 = 1 ∨ x0 % 4 = 2 ∨ x0 % 4 = 3 := by omega
 have hn : modI x1 6 = 0 ∨ modI x1 6 = 1 ∨ modI x1 6 = 2 ∨ modI x1 6 = 3 ∨ modI x1 6 = 4 ∨ modI x1 6 = 5 := by rw [modI_eq]; omega
 have hp : modI x2 5 = 0 ∨ modI x2 5 = 1 ∨ modI x2 5 = 2 ∨ modI x2 5 = 3 ∨ modI x2 5 = 4 := by rw [modI_eq]; omega
 rcases hw with h | h | h | h
 ·have h0 : andI x0 1 = 0 := by rw [andI_1]; omega
  have h1 : andI (Int.fdiv x0 (2 ^ 1)) 1 = 0 := by rw [andI_2]; omega
  have h2 : andI x0 3 = 0 := by rw [andI_3]; omega
  rcases hn with h3 | h3 | h3 | h3 | h3 | h3
  ·rcases hp with h4 | h4 | h4 | h4 | h4
   ·exact initsL (rInits_0 x0 x1 x2) h0 h1 h2 h3 h4
   ·exact initsL (rInits_1 x0 x1 x2) h0 h1 h2 h3 h4
   ·exact initsL (rInits_2 x0 x1 x2) h0 h1 h2 h3 h4
   ·exact initsL (rInits_3 x0 x1 x2) h0 h1 h2 h3 h4
   ·exact initsL (rInits_4 x0 x1 x2) h0 h1 h2 h3 h4
  ·rcases hp with h4 | h4 | h4 | h4 | h4
   ·exact initsL (rInits_5 x0 x1 x2) h0 h1 h2 h3 h4
   ·exact initsL (rInits_6 x0 x1 x2) h0 h1 h2 h3 h4
   ·exact initsL (rInits_7 x0 x1 x2) h0 h1 h2 h3 h4
   ·exact initsL (rInits_8 x0 x1 x2) h0 h1 h2 h3 h4
   ·exact initsL (rInits_9 x0 x1 x2) h0 h1 h2 h3 h4
  ·rcases hp with h4 | h4 | h4 | h4 | h4
   ·exact initsL (rInits_10 x0 x1 x2) h0 h1 h2 h3 h4
   ·exact initsL (rInits_11 x0 x1 x2) h0 h1 h2 h3 h4
   ·exact initsL (rInits_12 x0 x1 x2) h0 h1 h2 h3 h4
   ·exact initsL (rInits_13 x0 x1 x2) h0 h1 h2 h3 h4
   ·exact initsL (rInits_14 x0 x1 x2) h0 h1 h2 h3 h4
  ·rcases hp with h4 | h4 | h4 | h4 | h4
   ·exact initsL (rInits_15 x0 x1 x2) h0 h1 h2 h3 h4
   ·exact initsL (rInits_16 x0 x1 x2) h0 h1 h2 h3 h4
   ·exact initsL (rInits_17 x0 x1 x2) h0 h1 h2 h3 h4
   ·exact initsL (rInits_18 x0 x1 x2) h0 h1 h2 h3 h4
   ·exact initsL (rInits_19 x0 x1 x2) h0 h1 h2 h3 h4
  ·rcases hp with h4 | h4 | h4 | h4 | h4
   ·exact initsL (rInits_20 x0 x1 x2) h0 h1 h2 h3 h4
   ·exact initsL (rInits_21 x0 x1 x2) h0 h1 h2 h3 h4
   ·exact initsL (rInits_22 x0 x1 x2) h0 h1 h2 h3 h4
   ·exact initsL (rInits_23 x0 x1 x2) h0 h1 h2 h3 h4
   ·exact initsL (rInits_24 x0 x1 x2) h0 h1 h2 h3 h4
  ·rcases hp with h4 | h4 | h4 | h4 | h4
   ·exact initsL (rInits_25 x0 x1 x2) h0 h1 h2 h3 h4
   ·exact initsL (rInits_26 x0 x1 x2) h0 h1 h2 h3 h4
   ·exact initsL (rInits_27 x0 x1 x2) h0 h1 h2 h3 h4
   ·exact initsL (rInits_28 x0 x1 x2) h0 h1 h2 h3 h4
   ·exact initsL (rInits_29 x0 x1 x2) h0 h1 h2 h3 h4
 ·have h0 : andI x0 1 = 1 := by rw [andI_1]; omega
  have h1 : andI (Int.fdiv x0 (2 ^ 1)) 1 = 0 := by rw [andI_2]; omega
  have h2 : andI x0 3 = 1 := by rw [andI_3]; omega
  rcases hn with h3 | h3 | h3 | h3 | h3 | h3
  ·rcases hp with h4 | h4 | h4 | h4 | h4
   ·exact initsL (rInits_30 x0 x1 x2) h0 h1 h2 h3 h4
   ·exact initsL (rInits_31 x0 x1 x2) h0 h1 h2 h3 h4
   ·exact initsL (rInits_32 x0 x1 x2) h0 h1 h2 h3 h4
   ·exact initsL (rInits_33 x0 x1 x2) h0 h1 h2 h3 h4
   ·exact initsL (rInits_34 x0 x1 x2) h0 h1 h2 h3 h4
  ·rcases hp with h4 | h4 | h4 | h4 | h4
   ·exact initsL (rInits_35 x0 x1 x2) h0 h1 h2 h3 h4
   ·exact initsL (rInits_36 x0 x1 x2) h0 h1 h2 h3 h4
   ·exact initsL (rInits_37 x0 x1 x2) h0 h1 h2 h3 h4
   ·exact initsL (rInits_38 x0 x1 x2) h0 h1 h2 h3 h4
   ·exact initsL (rInits_39 x0 x1 x2) h0 h1 h2 h3 h4
  ·rcases hp with h4 | h4 | h4 | h4 | h4
   ·exact initsL (rInits_40 x0 x1 x2) h0 h1 h2 h3 h4
   ·exact initsL (rInits_41 x0 x1 x2) h0 h1 h2 h3 h4
   ·exact initsL (rInits_42 x0 x1 x2) h0 h1 h2 h3 h4
   ·exact initsL (rInits_43 x0 x1 x2) h0 h1 h2 h3 h4
   ·exact initsL (rInits_44 x0 x1 x2) h0 h1 h2 h3 h4
  ·rcases hp with h4 | h4 | h4 | h4 | h4
   ·exact initsL (rInits_45 x0 x1 x2) h0 h1 h2 h3 h4
   ·exact initsL (rInits_46 x0 x1 x2) h0 h1 h2 h3 h4
   ·exact initsL (rInits_47 x0 x1 x2) h0 h1 h2 h3 h4
   ·exact initsL (rInits_48 x0 x1 x2) h0 h1 h2 h3 h4
   ·exact initsL (rInits_49 x0 x1 x2) h0 h1 h2 h3 h4
  ·rcases hp with h4 | h4 | h4 | h4 | h4
   ·exact initsL (rInits_50 x0 x1 x2) h0 h1 h2 h3 h4
   ·exact initsL (rInits_51 x0 x1 x2) h0 h1 h2 h3 h4
   ·exact initsL (rInits_52 x0 x1 x2) h0 h1 h2 h3 h4
   ·exact initsL (rInits_53 x0 x1 x2) h0 h1 h2 h3 h4
   ·exact initsL (rInits_54 x0 x1 x2) h0 h1 h2 h3 h4
  ·rcases hp with h4 | h4 | h4 | h4 | h4
   ·exact initsL (rInits_55 x0 x1 x2) h0 h1 h2 h3 h4
   ·exact initsL (rInits_56 x0 x1 x2) h0 h1 h2 h3 h4
   ·exact initsL (rInits_57 x0 x1 x2) h0 h1 h2 h3 h4
   ·exact initsL (rInits_58 x0 x1 x2) h0 h1 h2 h3 h4
   ·exact initsL (rInits_59 x0 x1 x2) h0 h1 h2 h3 h4
 ·have h0 : andI x0 1 = 0 := by rw [andI_1]; omega
  have h1 : andI (Int.fdiv x0 (2 ^ 1)) 1 = 1 := by rw [andI_2]; omega
  have h2 : andI x0 3 = 2 := by rw [andI_3]; omega
  rcases hn with h3 | h3 | h3 | h3 | h3 | h3
  ·rcases hp with h4 | h4 | h4 | h4 | h4
   ·exact initsL (rInits_60 x0 x1 x2) h0 h1 h2 h3 h4
   ·exact initsL (rInits_61 x0 x1 x2) h0 h1 h2 h3 h4
   ·exact initsL (rInits_62 x0 x1 x2) h0 h1 h2 h3 h4
   ·exact initsL (rInits_63 x0 x1 x2) h0 h1 h2 h3 h4
   ·exact initsL (rInits_64 x0 x1 x2) h0 h1 h2 h3 h4
  ·rcases hp with h4 | h4 | h4 | h4 | h4
   ·exact initsL (rInits_65 x0 x1 x2) h0 h1 h2 h3 h4
   ·exact initsL (rInits_66 x0 x1 x2) h0 h1 h2 h3 h4
   ·exact initsL (rInits_67 x0 x1 x2) h0 h1 h2 h3 h4
   ·exact initsL (rInits_68 x0 x1 x2) h0 h1 h2 h3 h4
   ·exact initsL (rInits_69 x0 x1 x2) h0 h1 h2 h3 h4
  ·rcases hp with h4 | h4 | h4 | h4 | h4
   ·exact initsL (rInits_70 x0 x1 x2) h0 h1 h2 h3 h4
   ·exact initsL (rInits_71 x0 x1 x2) h0 h1 h2 h3 h4
   ·exact initsL (rInits_72 x0 x1 x2) h0 h1 h2 h3 h4
   ·exact initsL (rInits_73 x0 x1 x2) h0 h1 h2 h3 h4
   ·exact initsL (rInits_74 x0 x1 x2) h0 h1 h2 h3 h4
  ·rcases hp with h4 | h4 | h4 | h4 | h4
   ·exact initsL (rInits_75 x0 x1 x2) h0 h1 h2 h3 h4
   ·exact initsL (rInits_76 x0 x1 x2) h0 h1 h2 h3 h4
   ·exact initsL (rInits_77 x0 x1 x2) h0 h1 h2 h3 h4
   ·exact initsL (rInits_78 x0 x1 x2) h0 h1 h2 h3 h4
   ·exact initsL (rInits_79 x0 x1 x2) h0 h1 h2 h3 h4
  ·rcases hp with h4 | h4 | h4 | h4 | h4
   ·exact initsL (rInits_80 x0 x1 x2) h0 h1 h2 h3 h4
   ·exact initsL (rInits_81 x0 x1 x2) h0 h1 h2 h3 h4
   ·exact initsL (rInits_82 x0 x1 x2) h0 h1 h2 h3 h4
   ·exact initsL (rInits_83 x0 x1 x2) h0 h1 h2 h3 h4
   ·exact initsL (rInits_84 x0 x1 x2) h0 h1 h2 h3 h4
  ·rcases hp with h4 | h4 | h4 | h4 | h4
   ·exact initsL (rInits_85 x0 x1 x2) h0 h1 h2 h3 h4
   ·exact initsL (rInits_86 x0 x1 x2) h0 h1 h2 h3 h4
   ·exact initsL (rInits_87 x0 x1 x2) h0 h1 h2 h3 h4
   ·exact initsL (rInits_88 x0 x1 x2) h0 h1 h2 h3 h4
   ·exact initsL (rInits_89 x0 x1 x2) h0 h1 h2 h3 h4
 ·have h0 : andI x0 1 = 1 := by rw [andI_1]; omega
  have h1 : andI (Int.fdiv x0 (2 ^ 1)) 1 = 1 := by rw [andI_2]; omega
  have h2 : andI x0 3 = 3 := by rw [andI_3]; omega
  rcases hn with h3 | h3 | h3 | h3 | h3 | h3
  ·rcases hp with h4 | h4 | h4 | h4 | h4
   ·exact initsL (rInits_90 x0 x1 x2) h0 h1 h2 h3 h4
   ·exact initsL (rInits_91 x0 x1 x2) h0 h1 h2 h3 h4
   ·exact initsL (rInits_92 x0 x1 x2) h0 h1 h2 h3 h4
   ·exact initsL (rInits_93 x0 x1 x2) h0 h1 h2 h3 h4
   ·exact initsL (rInits_94 x0 x1 x2) h0 h1 h2 h3 h4
  ·rcases hp with h4 | h4 | h4 | h4 | h4
   ·exact initsL (rInits_95 x0 x1 x2) h0 h1 h2 h3 h4
   ·exact initsL (rInits_96 x0 x1 x2) h0 h1 h2 h3 h4
   ·exact initsL (rInits_97 x0 x1 x2) h0 h1 h2 h3 h4
   ·exact initsL (rInits_98 x0 x1 x2) h0 h1 h2 h3 h4
   ·exact initsL (rInits_99 x0 x1 x2) h0 h1 h2 h3 h4
  ·rcases hp with h4 | h4 | h4 | h4 | h4
   ·exact initsL (rInits_100 x0 x1 x2) h0 h1 h2 h3 h4
   ·exact initsL (rInits_101 x0 x1 x2) h0 h1 h2 h3 h4
   ·exact initsL (rInits_102 x0 x1 x2) h0 h1 h2 h3 h4
   ·exact initsL (rInits_103 x0 x1 x2) h0 h1 h2 h3 h4
   ·exact initsL (rInits_104 x0 x1 x2) h0 h1 h2 h3 h4
  ·rcases hp with h4 | h4 | h4 | h4 | h4
   ·exact initsL (rInits_105 x0 x1 x2) h0 h1 h2 h3 h4
   ·exact initsL (rInits_106 x0 x1 x2) h0 h1 h2 h3 h4
   ·exact initsL (rInits_107 x0 x1 x2) h0 h1 h2 h3 h4
   ·exact initsL (rInits_108 x0 x1 x2) h0 h1 h2 h3 h4
   ·exact initsL (rInits_109 x0 x1 x2) h0 h1 h2 h3 h4
  ·rcases hp with h4 | h4 | h4 | h4 | h4
   ·exact initsL (rInits_110 x0 x1 x2) h0 h1 h2 h3 h4
   ·exact initsL (rInits_111 x0 x1 x2) h0 h1 h2 h3 h4
   ·exact initsL (rInits_112 x0 x1 x2) h0 h1 h2 h3 h4
   ·exact initsL (rInits_113 x0 x1 x2) h0 h1 h2 h3 h4
   ·exact initsL (rInits_114 x0 x1 x2) h0 h1 h2 h3 h4
  ·rcases hp with h4 | h4 | h4 | h4 | h4
   ·exact initsL (rInits_115 x0 x1 x2) h0 h1 h2 h3 h4
   ·exact initsL (rInits_116 x0 x1 x2) h0 h1 h2 h3 h4
   ·exact initsL (rInits_117 x0 x1 x2) h0 h1 h2 h3 h4
   ·exact initsL (rInits_118 x0 x1 x2) h0 h1 h2 h3 h4
   ·exact initsL (rInits_119 x0 x1 x2) h0 h1 h2 h3 h4
end
end Go.Proofs.YtebdknkgplonmaaGreatDoor.W.E
