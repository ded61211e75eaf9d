/- LRoP -/
import Derived.Test.YtobooojhmgicpaaGreatDoorLRoB
set_option linter.unusedVariables false
set_option linter.unusedSimpArgs false
namespace Go.Proofs.YtobooojhmgicpaaGreatDoor.W.E
section
set_option maxRecDepth 100000
open Go.RowKit
theorem roP (cs:List SV) (n:Nat):PT (foC cs) fRo nRo [(0,0),(1,1),(2,2),(9,3),(32,4),(55,5),(56,6)] pR 7 (kRo.take 10) (SS.tell (initT [.sl 0 0 n 1 none] 0 .e,st0N 1 []) []) ((sR [] n 0 0 (some 0) (lR [] []) 23).w []) .normal []:=by delta PT;kernel_rfl
theorem roNil:PE fo0 fRo nRo rsRo kRo (SS.tell (initT [.nils] 0 .e,st0 []) []) []:=by delta PE;kernel_rfl
theorem roTT (cs rs:List SV) (n i r:Nat) (ck:Option Nat) (R:List Int) (z:Obs) (m:Int):QT (foW (foC cs) 6 rs) fRo nRo vR pR 7 (k1Ro.take 2) (sR [] n i r ck (lR R z) m) (sR [] n i r ck (lR R z) m) .normal [qLt 3 (Int.ofNat i) (Int.ofNat n) true,qLt 6 (Int.ofNat i) (200) true]:=by delta QT;kernel_rfl
theorem roTF (cs rs:List SV) (n i r:Nat) (ck:Option Nat) (R:List Int) (z:Obs) (m:Int):QT (foW (foC cs) 6 rs) fRo nRo vR pR 7 (k1Ro.take 2) (sR [] n i r ck (lR R z) m) (sR [] n i r ck (lR R z) m) (.exit 0) [qLt 3 (Int.ofNat i) (Int.ofNat n) false]:=by delta QT;kernel_rfl
theorem roTG (cs rs:List SV) (n i r:Nat) (ck:Option Nat) (R:List Int) (z:Obs) (m:Int):QT (foW (foC cs) 6 rs) fRo nRo vR pR 7 (k1Ro.take 2) (sR [] n i r ck (lR R z) m) (sR [] n i r ck (lR R z) m) (.exit 0) [qLt 3 (Int.ofNat i) (Int.ofNat n) true,qLt 6 (Int.ofNat i) (200) false]:=by delta QT;kernel_rfl
theorem roU (cs rs:List SV) (n r:Nat) (ck:Option Nat) (R:List Int) (z:Obs) (m:Int):QA (foW (foC cs) 6 rs) fRo nRo vR pR 7 (k1Ro.drop 3) (List.range 200) (fun i=>sR [] n i r ck (lR R z) m) (fun i=>sR [] n (i + 1) r ck (lR R z) m) .normal (fun _=>[]):=by delta QA;kernel_rfl
theorem roIY (cs rs:List SV) (n i r:Nat) (ck:Option Nat) (R:List Int) (z:Obs) (m:Int) (x0:Int):QT (foW (foC cs) 6 rs) fRo nRo vR (45 :: pR) 7 (kbRo.take 1) (sR [] n i r ck (lR R z) m) (sR [(45,.bool true)] n i r ck (lR R z) m) .normal [qRow1 2 n i,qCell1 3 cs i x0,qGe 4 x0 0 true]:=by delta QT;kernel_rfl
theorem roIN (cs rs:List SV) (n i r:Nat) (ck:Option Nat) (R:List Int) (z:Obs) (m:Int) (x0:Int):QT (foW (foC cs) 6 rs) fRo nRo vR (45 :: pR) 7 (kbRo.take 1) (sR [] n i r ck (lR R z) m) (sR [(45,.bool false)] n i r ck (lR R z) m) .normal [qRow1 2 n i,qCell1 3 cs i x0,qGe 4 x0 0 false]:=by delta QT;kernel_rfl
theorem roV (cs rs:List SV) (n i r:Nat) (ck:Option Nat) (R:List Int) (z:Obs) (m:Int):QT (foW (foC cs) 6 rs) fRo nRo vR (12 :: pR) 7 ((kRo.drop 11).take 1) (sR [] n i r ck (lR R z) m) (sR [(12,.int .i64 0)] n i r ck (lR R z) m) .normal []:=by delta QT;kernel_rfl
theorem roWY (cs rs:List SV) (n i r:Nat) (ck:Option Nat) (R:List Int) (z:Obs) (m:Int) (k:Nat):QT (foW (foC cs) 6 rs) fRo nRo vR (12 :: pR) 7 (k2Ro.take 2) (sR [(12,.int .i64 (Int.ofNat k))] n i r ck (lR R z) m) (sR [(12,.int .i64 (Int.ofNat k))] n i r ck (lR R z) m) .normal [qLt 3 (Int.ofNat k) (Int.ofNat r) true]:=by delta QT;kernel_rfl
theorem roWN (cs rs:List SV) (n i r:Nat) (ck:Option Nat) (R:List Int) (z:Obs) (m:Int) (k:Nat):QT (foW (foC cs) 6 rs) fRo nRo vR (12 :: pR) 7 (k2Ro.take 2) (sR [(12,.int .i64 (Int.ofNat k))] n i r ck (lR R z) m) (sR [(12,.int .i64 (Int.ofNat k))] n i r ck (lR R z) m) (.exit 2) [qLt 3 (Int.ofNat k) (Int.ofNat r) false]:=by delta QT;kernel_rfl
theorem roX (cs rs:List SV) (n i r:Nat) (ck:Option Nat) (R:List Int) (z:Obs) (m:Int):QA (foW (foC cs) 6 rs) fRo nRo vR (12 :: pR) 7 (k2Ro.drop 3) (List.range 200) (fun k=>sR [(12,.int .i64 (Int.ofNat k))] n i r ck (lR R z) m) (fun k=>sR [(12,.int .i64 (Int.ofNat (k + 1)))] n i r ck (lR R z) m) .normal (fun _=>[]):=by delta QA;kernel_rfl
def tRoZ (rs:List SV) (r k:Nat) (ck:Option Nat) (R:List Int) (z:Obs) (m y0 yk:Int):TL:=[qOwn 4 r k ck,qCell1 5 rs k yk,qAt 41 1 (lR R z) m 21 0 (vnum y0) true,qLen 115 1 (lR R z) m 21 (Int.ofNat r),qLt 119 (Int.ofNat k) 0 false,qGe 123 (Int.ofNat k) 0 true,qLt 127 (Int.ofNat k) (Int.ofNat r) true,qAt 141 1 (lR R z) m 21 (Int.ofNat k) (vnum yk) true,qNV 157 yk]
theorem roZ (cs rs:List SV) (n i r:Nat) (ck:Option Nat) (R:List Int) (z:Obs) (m:Int) (k:Nat) (y0 yk:Int):QT (foW (foC cs) 6 rs) fRo nRo vR (12 :: pR) 7 k3Ro (sR [(12,.int .i64 (Int.ofNat k))] n i r ck (lR R z) m) (sR [(12,.int .i64 (Int.ofNat k))] n i r ck (lR R z) m) .normal (tRoZ rs r k ck R z m y0 yk):=by delta QT;kernel_rfl
theorem roF (cs rs:List SV) (n i r:Nat) (ck:Option Nat) (R:List Int) (z:Obs) (m:Int) (k:Nat):QE (foC cs) fRo nRo rsRo (kRo.drop 13) ((sR [(12,.int .i64 (Int.ofNat k))] n i r ck (lR R z) m).w rs) []:=by delta QE;kernel_rfl
end
end Go.Proofs.YtobooojhmgicpaaGreatDoor.W.E
