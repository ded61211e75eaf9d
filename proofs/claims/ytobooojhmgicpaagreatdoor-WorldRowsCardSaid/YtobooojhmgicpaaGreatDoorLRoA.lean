/- LRoA -/
import Derived.Test.YtobooojhmgicpaaGreatDoorLRoB
set_option linter.unusedVariables false
set_option linter.unusedSimpArgs false
namespace Go.Proofs.YtobooojhmgicpaaGreatDoor.W.E
section
set_option maxRecDepth 100000
open Go.RowKit
def tRoA (cs:List SV) (n i:Nat) (R:List Int) (z:Obs) (m x0:Int):TL:=[qRow1 3 n i,qCell1 4 cs i x0,qLen 228 1 (lR R z) m 21 (Int.ofNat R.length),qGe 231 (Int.ofNat R.length) 4096 false,qRep 247 (lR R z) m 21 (Int.ofNat R.length) (Int.ofNat R.length) [vnum x0] (lR (R++[x0]) z)]
theorem roA (cs rs:List SV) (n i r:Nat) (ck:Option Nat) (R:List Int) (z:Obs) (m:Int) (x0:Int):QT (foW (foC cs) 6 rs) fRo nRo vR pR 7 (kARo.take 2) (sR [(45,.bool true)] n i r ck (lR R z) m) (sR [] n i r ck (lR (R++[x0]) z) m) .normal (tRoA cs n i R z m x0):=by delta QT;kernel_rfl
theorem roB (cs:List SV) (n i:Nat) (g:Nat→Int) (l:Obs) (m x0:Int):QA (foC cs) fRo nRo [(0,0),(1,1),(2,2),(3,3),(4,4),(5,5),(8,6)] pR 7 (kARo.drop 2) (List.range 200) (fun r=>(sR [] n i r none l m).w (rowC g r)) (fun r=>(sR [] n i (r + 1) none l m).w (rowC g r++[.int .i64 x0])) .normal (fun _=>[qRow1 3 n i,qCell1 4 cs i x0]):=by delta QA;kernel_rfl
theorem roB0 (cs:List SV) (n i:Nat) (l:Obs) (m x0:Int):QT (foC cs) fRo nRo [(0,0),(1,1),(2,2),(3,3),(4,4),(5,5),(8,6)] pR 7 (kARo.drop 2) ((sR [] n i 0 (some 0) l m).w []) ((sR [] n i 1 none l m).w [.int .i64 x0]) .normal [qRow1 3 n i,qCell1 4 cs i x0]:=by delta QT;kernel_rfl
def tRoP (Q:List Int) (z:Obs) (m y:Int):TL:=[qLen 252 1 (lR (Q++[y]) z) m 21 (Int.ofNat (Q.length + 1)),qAdd 260 (-1) (Int.ofNat (Q.length + 1)) (Int.ofNat Q.length),qGe 264 (Int.ofNat Q.length) 0 true,qLt 268 (Int.ofNat Q.length) (Int.ofNat (Q.length + 1)) true,qAt 282 1 (lR (Q++[y]) z) m 21 (Int.ofNat Q.length) (vnum y) true,qLen 310 1 (lR (Q++[y]) z) m 21 (Int.ofNat (Q.length + 1)),qAdd 318 (-1) (Int.ofNat (Q.length + 1)) (Int.ofNat Q.length),qGe 322 (Int.ofNat Q.length) 0 true,qLt 326 (Int.ofNat Q.length) (Int.ofNat (Q.length + 1)) true,qAdd 342 (Int.ofNat Q.length) 1 (Int.ofNat (Q.length + 1)),qRep 343 (lR (Q++[y]) z) m 21 (Int.ofNat Q.length) (Int.ofNat (Q.length + 1)) [] (lR Q z)]
abbrev actY (y:Int):List SV:=[.int .i64 1,.int .i64 0,.int .i64 0,.int .i64 2,.int .i64 y,.str [],.int .i64 0,.int .i64 0,.str [],.nils,.nils]
theorem roC (cs rs:List SV) (n i r:Nat) (ck:Option Nat) (Q:List Int) (z:Obs) (m y:Int):QT (foW (foC cs) 6 rs) fRo nRo (vR++[(60,7)]) (10 :: pR) 8 (kBRo.take 1) (sR [(45,.bool false)] n i r ck (lR (Q++[y]) z) m) (sRa [] (actY y) n i r ck (lR Q z) m) .normal (tRoP Q z m y):=by delta QT;kernel_rfl
abbrev actE (m:Int):List SV:=[.int .i64 2,.int .i64 0,.int .i64 0,.int .i64 4,.int .i64 (m + 1 + 1),.str [],.int .i64 0,.int .i64 0,.str [],.nils,.nils]
theorem roE (cs rs:List SV) (n i r:Nat) (ck:Option Nat) (z:Obs) (m:Int):QT (foW (foC cs) 6 rs) fRo nRo (vR++[(71,7)]) (10 :: pR) 8 (kBRo.take 1) (sR [(45,.bool false)] n i r ck (lR [] z) m) (sRa [] (actE m) n i r ck (e3 (lR [] z) m [] eIndex 4) (m + 1 + 1)) .normal (qRaise 328 344 355 1 (lR [] z) m [] eIndex 4):=by delta QT;kernel_rfl
theorem roGY (cs rs:List SV) (n i r:Nat) (ck:Option Nat) (m y:Int) (act:Nat→SV) (l:Obs):QT (foW (foC cs) 6 rs) fRo nRo (vR++[(7,7)]) (70 :: 10 :: pR) 8 ((kBRo.drop 1).take 1) (sRa [] (actE y) n i r ck l m) (sRa [(70,.bool true)] (actE y) n i r ck l m) .normal [qEq 2 (Int.ofNat r) 0 true]:=by delta QT;kernel_rfl
theorem roGN (cs rs:List SV) (n i r:Nat) (ck:Option Nat) (m y:Int) (act:Nat→SV) (l:Obs):QT (foW (foC cs) 6 rs) fRo nRo (vR++[(7,7)]) (70 :: 10 :: pR) 8 ((kBRo.drop 1).take 1) (sRa [] (actY y) n i r ck l m) (sRa [(70,.bool false)] (actY y) n i r ck l m) .normal [qEq 2 (Int.ofNat r) 0 false]:=by delta QT;kernel_rfl
def tRoC (z:Obs) (m:Int):TL:=[qAt 16 1 (e3 (lR [] z) m [] eIndex 4) (m + 1 + 1) (m + 1 + 1) 0 (vr 4) true,qKind 22 1 (e3 (lR [] z) m [] eIndex 4) (m + 1 + 1) (m + 1 + 1) 6,qAt 82 1 (e3 (lR [] z) m [] eIndex 4) (m + 1 + 1) (m + 1 + 1) 0 (vr 4) true,qKind 88 1 (e3 (lR [] z) m [] eIndex 4) (m + 1 + 1) (m + 1 + 1) 6,qGet 117 1 (e3 (lR [] z) m [] eIndex 4) (m + 1 + 1) (m + 1 + 1) (vstr sArgs) (vr (m + 1)) true,qAt 125 1 (e3 (lR [] z) m [] eIndex 4) (m + 1 + 1) (m + 1) 0 V.nil false]
theorem roH (cs rs:List SV) (n i r:Nat) (ck:Option Nat) (z:Obs) (m:Int):QT (foW (foC cs) 6 rs) fRo nRo vR pR 7 (flatC cCRo) (sRa [(70,.bool true)] (actE m) n i r ck (e3 (lR [] z) m [] eIndex 4) (m + 1 + 1)) (sR [] n i r ck (e3 (lR [] z) m [] eIndex 4) (m + 1 + 1)) .normal (tRoC z m):=by delta QT;kernel_rfl
def qSl (o q:Nat):TE:=qI o (sliceV Tryz.prog (mkT [(98,.int .i64 (Int.ofNat q))]) 43 (.sl 6 0 (q + 1) 1 none) none (some (.tmp 98)) none) (.sl 6 0 q 1 none)
def tRoD (rs:List SV) (q:Nat) (ck:Option Nat) (y:Int):TL:=[qSub 2 (Int.ofNat (q + 1)) 1 (Int.ofNat q),qOwn 10 (q + 1) q ck,qCell1 11 rs q y,qNV 15 y,qSl 20 q]
theorem roK (cs rs:List SV) (n i q:Nat) (l:Obs) (m y:Int):QT (foW (foC cs) 6 rs) fRo nRo vR pR 7 (flatC cDRo) (sRa [(70,.bool false)] (actY y) n i (q + 1) none l m) (sR [] n i q none l m) .normal (tRoD rs q none y):=by delta QT;kernel_rfl
def tRoL (r:Nat) (R:List Int) (z:Obs) (m y0:Int):TL:=[qAt 154 1 (lR R z) m 21 0 (vnum y0) true,qLen 207 1 (lR R z) m 21 (Int.ofNat r),qGe 211 (Int.ofNat r) 0 true,qNV 222 (Int.ofNat r)]
theorem roL (cs rs:List SV) (n i r:Nat) (ck:Option Nat) (R:List Int) (z:Obs) (m:Int) (y0:Int):QT (foW (foC cs) 6 rs) fRo nRo vR pR 7 (kbRo.drop 2) (sR [] n i r ck (lR R z) m) (sR [] n i r ck (lR R z) m) .normal (tRoL r R z m y0):=by delta QT;kernel_rfl
theorem roM (cs rs:List SV) (n i:Nat) (ck:Option Nat) (z:Obs) (m:Int):QT (foW (foC cs) 6 rs) fRo nRo vR pR 7 (kbRo.drop 2) (sR [] n i 0 ck (lR [] z) m) (sR [] n i 0 ck (lR [] z) m) .normal []:=by delta QT;kernel_rfl
end
end Go.Proofs.YtobooojhmgicpaaGreatDoor.W.E
