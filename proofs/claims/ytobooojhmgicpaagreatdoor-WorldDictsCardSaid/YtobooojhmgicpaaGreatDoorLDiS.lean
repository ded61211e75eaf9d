/- LDiS -/
import Derived.Test.YtobooojhmgicpaaGreatDoorLDiB
set_option linter.unusedVariables false
set_option linter.unusedSimpArgs false
namespace Go.Proofs.YtobooojhmgicpaaGreatDoor.W.E
section
set_option maxRecDepth 100000
open Go.RowKit
def tDiA (cs:List SV) (n i:Nat) (D:Row) (z:Obs) (m x2:Int) (k:Nat):TL:=[qRow3 3 n i,qCell3 5 cs i 2 x2,qPut 74 1 (lD D z) m 21 (vnum (Int.ofNat k)) (vnum x2) (lD (W.put D (vnum (Int.ofNat k)) (vnum x2)) z)]
theorem diA (cs rs:List SV) (n i r:Nat) (ck:Option Nat) (b:Nat→Bool) (j:Nat→Int) (D:Row) (z:Obs) (m:Int) (c x2:Int):QA (foW (foC cs) 8 rs) fDi nDi vK pK 10 (kADi.take 1) (List.range 8) (fun k=>(sK [(63,.int .i64 c),(64,.bool true)] n i r ck b j (lD D z) m k)) (fun k=>(sK [] n i r ck b j (lD (W.put D (vnum (Int.ofNat k)) (vnum x2)) z) m k)) .normal (tDiA cs n i D z m x2):=by delta QA;kernel_rfl
theorem diB (cs rs:List SV) (n i r:Nat) (ck:Option Nat) (b:Nat→Bool) (j:Nat→Int) (l:Obs) (m:Int) (x2:Int):QA (foW (foC cs) 8 rs) fDi nDi vD pD 9 (kADi.drop 1) (List.range 8) (fun k=>(sK [] n i r ck (upN b k true) j l m k)) (fun k=>(sD [] n i r ck (upN b k true) (upN j k x2) l m)) .normal (fun _=>[qRow3 9 n i,qCell3 11 cs i 2 x2]):=by delta QA;kernel_rfl
theorem diC (cs:List SV) (n i:Nat) (g:Nat→Int) (b:Nat→Bool) (j:Nat→Int) (l:Obs) (m x2:Int):QA (foC cs) fDi nDi [(0,0),(1,1),(2,2),(3,3),(4,4),(5,5),(6,6),(7,7),(11,8)] pD 9 (kADi.drop 1) (List.range 64) (fun q=>(sK [] n i (q % 8) none (upN b (q / 8) false) j l m (q / 8)).w (rowC g (q % 8))) (fun q=>(sD [] n i (q % 8 + 1) none (upN b (q / 8) true) (upN j (q / 8) x2) l m).w (rowC g (q % 8)++[.int .i64 (Int.ofNat (q / 8))])) .normal (fun _=>[qRow3 12 n i,qCell3 14 cs i 2 x2]):=by delta QA;kernel_rfl
theorem diC0 (cs:List SV) (n i:Nat) (b:Nat→Bool) (j:Nat→Int) (l:Obs) (m x2:Int):QA (foC cs) fDi nDi [(0,0),(1,1),(2,2),(3,3),(4,4),(5,5),(6,6),(7,7),(11,8)] pD 9 (kADi.drop 1) (List.range 8) (fun k=>(sK [] n i 0 (some 0) (upN b k false) j l m k).w []) (fun k=>(sD [] n i 1 none (upN b k true) (upN j k x2) l m).w [.int .i64 (Int.ofNat k)]) .normal (fun _=>[qRow3 12 n i,qCell3 14 cs i 2 x2]):=by delta QA;kernel_rfl
def tDiGY (j:Nat→Int) (D:Row) (z:Obs) (m:Int) (k:Nat):TL:=[qGet 246 1 (lD D z) m 21 (vnum (Int.ofNat k)) (vnum (j k)) true,qNV 278 (j k)]
theorem diGY (cs rs:List SV) (n i r:Nat) (ck:Option Nat) (b:Nat→Bool) (j:Nat→Int) (D:Row) (z:Obs) (m:Int):QA (foW (foC cs) 8 rs) fDi nDi vD pD 9 kBDi (List.range 8) (fun k=>(sK [(63,.int .i64 2),(64,.bool false)] n i r ck (upN b k true) j (lD D z) m k)) (fun k=>(sD [] n i r ck (upN b k true) j (lD D z) m)) .normal (tDiGY j D z m):=by delta QA;kernel_rfl
def tDiGN (j:Nat→Int) (D:Row) (z:Obs) (m:Int) (k:Nat):TL:=[qGet 246 1 (lD D z) m 21 (vnum (Int.ofNat k)) V.nil false]
theorem diGN (cs rs:List SV) (n i r:Nat) (ck:Option Nat) (b:Nat→Bool) (j:Nat→Int) (D:Row) (z:Obs) (m:Int):QA (foW (foC cs) 8 rs) fDi nDi vD pD 9 kBDi (List.range 8) (fun k=>(sK [(63,.int .i64 2),(64,.bool false)] n i r ck (upN b k false) j (lD D z) m k)) (fun k=>(sD [] n i r ck (upN b k false) j (lD D z) m)) .normal (tDiGN j D z m):=by delta QA;kernel_rfl
end
end Go.Proofs.YtobooojhmgicpaaGreatDoor.W.E
