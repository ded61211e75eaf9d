/- LNaS -/
import Derived.Test.YtobooojhmgicpaaGreatDoorLNaB
set_option linter.unusedVariables false
set_option linter.unusedSimpArgs false
namespace Go.Proofs.YtobooojhmgicpaaGreatDoor.W.E
section
set_option maxRecDepth 100000
open Go.RowKit
def tNaS (cs:List SV) (n i q:Nat) (D:Row) (z:Obs) (m x0 x1 x2:Int) (k:Nat):TL:=[qRow 2 n i q,qCell 4 cs q 0 x0,qI 5 (some (.int .i64 (andI x0 7))) (.int .i64 (Int.ofNat k)),qRow 9 n i q,qCell 11 cs q 1 x1,qI 12 (some (.int .i64 (andI x1 1))) (.int .i64 0),qRow 21 n i q,qCell 23 cs q 2 x2,qPut 63 1 (lZ D z) m 20 (vstr (nmN k)) (vnum x2) (lZ (W.put D (vstr (nmN k)) (vnum x2)) z),qRow 76 n i q,qCell 78 cs q 2 x2]
theorem naS (cs:List SV) (n i q:Nat) (b:Nat→Bool) (j:Nat→Int) (D:Row) (z:Obs) (m x0 x1 x2:Int):QA (foC cs) fNa nNa vNa pNi 6 (kbNa.take 4) (List.range 8) (fun k=>sNa n i b j (lZ D z) m) (fun k=>sNi n i (upN b k true) (upN j k x2) (lZ (W.put D (vstr (nmN k)) (vnum x2)) z) m 0) .normal (tNaS cs n i q D z m x0 x1 x2):=by delta QA;kernel_rfl
def tNaD (cs:List SV) (n i q:Nat) (D:Row) (z:Obs) (m x0 x1 x2:Int) (k:Nat):TL:=[qRow 2 n i q,qCell 4 cs q 0 x0,qI 5 (some (.int .i64 (andI x0 7))) (.int .i64 (Int.ofNat k)),qRow 9 n i q,qCell 11 cs q 1 x1,qI 12 (some (.int .i64 (andI x1 1))) (.int .i64 1),qDel 47 1 (lZ D z) m 20 (vstr (nmN k)) true (lZ (W.del D (vstr (nmN k))) z)]
theorem naD (cs:List SV) (n i q:Nat) (b:Nat→Bool) (j:Nat→Int) (D:Row) (z:Obs) (m x0 x1 x2:Int):QA (foC cs) fNa nNa vNa pNi 6 (kbNa.take 4) (List.range 8) (fun k=>sNa n i (upN b k true) j (lZ D z) m) (fun k=>sNi n i (upN b k false) j (lZ (W.del D (vstr (nmN k))) z) m 0) .normal (tNaD cs n i q D z m x0 x1 x2):=by delta QA;kernel_rfl
def tNaN (cs:List SV) (n i q:Nat) (D:Row) (z:Obs) (m x0 x1 x2:Int) (k:Nat):TL:=[qRow 2 n i q,qCell 4 cs q 0 x0,qI 5 (some (.int .i64 (andI x0 7))) (.int .i64 (Int.ofNat k)),qRow 9 n i q,qCell 11 cs q 1 x1,qI 12 (some (.int .i64 (andI x1 1))) (.int .i64 1),qDel 47 1 (lZ D z) m 20 (vstr (nmN k)) false (lZ D z)]++(qRaise 96 112 123 1 (lZ D z) m [(vstr (nmN k))] eName 11++qText [154,160,220,226,255,263,274] 1 (lZ D z) m (vstr (nmN k)) eName 11)
theorem naN (cs:List SV) (n i q:Nat) (b:Nat→Bool) (j:Nat→Int) (D:Row) (z:Obs) (m x0 x1 x2:Int):QA (foC cs) fNa nNa vNa pNi 6 (kbNa.take 4) (List.range 8) (fun k=>sNa n i (upN b k false) j (lZ D z) m) (fun k=>sNi n i (upN b k false) j (e3 (lZ D z) m [vstr (nmN k)] eName 11) (m + 1 + 1) 0) .normal (tNaN cs n i q D z m x0 x1 x2):=by delta QA;kernel_rfl
end
end Go.Proofs.YtobooojhmgicpaaGreatDoor.W.E
