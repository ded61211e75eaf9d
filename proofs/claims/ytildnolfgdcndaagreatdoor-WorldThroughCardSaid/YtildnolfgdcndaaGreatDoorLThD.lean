/- LThD -/
import Derived.Test.YtildnolfgdcndaaGreatDoorLThB
set_option linter.unusedVariables false
set_option linter.unusedSimpArgs false
namespace Go.Proofs.YtildnolfgdcndaaGreatDoor.W.E
section
set_option maxRecDepth 100000
open Go.RowKit
abbrev thSl:Nat:=16
theorem thL (k:Int) (cs rs:List SV) (r:Nat) (ck:Option Nat) (R:List V) (z:Obs) (m:Int):QTX (extC fAl extS) (foW (foC cs) 3 rs) fTh nTh [(0,0),(1,1),(2,2),(3,3),(4,4),(7,5)] [10,19,4,5,6,7] 6 ((kTh.drop 21).take 1) (s2 17 2 r ck (lI k R r r z) m) (s6 r ck (lB k R r z m) (m + 1 + 1) (m + 1 + 1)) .normal [qCall 240 fAl [.ptr 2 0,.sl thSl 0 1 3 none] [(2,some (wldAt 1 [])),(thSl,some (vM 21))] 1 (hZ (lI k R r r z) m) (actL (m + 1 + 1)) (hZ (lB k R r z m) (m + 1 + 1))]:=by delta QTX;kernel_rfl
def tThK (r:Nat) (l:Obs) (m c y0:Int):TL:=[qAt 153 1 l m c 0 (vnum y0) true,qKind 159 1 l m c 1,qKind 192 1 l m c 1,qLen 206 1 l m c (Int.ofNat r),qGe 210 (Int.ofNat r) 0 true]
theorem thK (cs rs:List SV) (r:Nat) (ck:Option Nat) (R:List V) (l:Obs) (m c y0:Int):QT (foW (foC cs) 3 rs) fTh nTh [(0,0),(1,1),(2,2),(3,3),(4,4),(5,5),(6,6)] [10,19,20,4,5,6,7] 7 ((kTh.drop 22).take 1) (s6 r ck l m c) (s7 r ck l m c) .normal (tThK r l m c y0):=by delta QT;kernel_rfl
def qNeR (o:Nat) (x y:Int):TE:=qI o (binV Tryz.prog .neq 28 false (vr x).sv (vr y).sv) (.bool true)
theorem thE (cs rs:List SV) (r:Nat) (ck:Option Nat) (R:List V) (l:Obs) (m c:Int):QE (foW (foC cs) 3 rs) fTh nTh rsTh (kTh.drop 24) (s8 r ck l m c) [qNeR 3 c 21,qEV 12 (Int.ofNat r)]:=by delta QE;kernel_rfl
theorem thE01 (cs:List SV):QE (foC cs) fTh nTh rsTh (kTh.drop 21) ((s2 17 2 0 (some 0) (e3 (e3 (lI 1 [] 0 0 []) 23 [] eStop 14) 25 [] eStop 14) 27).w3 []) []:=by delta QE;kernel_rfl
theorem thE02 (cs:List SV):QE (foC cs) fTh nTh rsTh (kTh.drop 21) ((s2 17 2 0 (some 0) (e3 (e3 (lI 2 [] 0 0 []) 23 [] eStop 14) 25 [] eStop 14) 27).w3 []) []:=by delta QE;kernel_rfl
end
end Go.Proofs.YtildnolfgdcndaaGreatDoor.W.E
