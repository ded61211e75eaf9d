/- LNaG -/
import Derived.Test.YtobooojhmgicpaaGreatDoorLNaB
set_option linter.unusedVariables false
set_option linter.unusedSimpArgs false
namespace Go.Proofs.YtobooojhmgicpaaGreatDoor.W.E
section
set_option maxRecDepth 100000
open Go.RowKit
def tNaGH (j:Nat→Int) (D:Row) (z:Obs) (m:Int) (k:Nat):TL:=[qGet 36 1 (lZ D z) m 20 (vstr (nmN k)) (vnum (j k)) true,qI 57 (binV Tryz.prog .neq 26 false (vI (j k)) (vI (j k))) (.bool false)]
theorem naGH (cs:List SV) (n i:Nat) (b:Nat→Bool) (j:Nat→Int) (D:Row) (z:Obs) (m:Int):QA (foC cs) fNa nNa vNa pNi 6 k3Na (List.range 8) (fun k=>sNi n i (upN b k true) j (lZ D z) m k) (fun k=>sNi n i (upN b k true) j (lZ D z) m k) .normal (tNaGH j D z m):=by delta QA;kernel_rfl
def tNaGB1 (j:Nat→Int) (D:Row) (z:Obs) (m:Int) (k:Nat):TL:=[qGet 36 1 (lZ D z) m 20 (vstr (nmN k)) V.nil false]
theorem naGB1 (cs:List SV) (n i:Nat) (b:Nat→Bool) (j:Nat→Int) (D:Row) (z:Obs) (m:Int):QA (foC cs) fNa nNa vNa pNi 6 k3Na [1] (fun k=>sNi n i (upN b k false) j (lZ D z) m k) (fun k=>sNi n i (upN b k false) j (lZ D z) m k) .normal (tNaGB1 j D z m):=by delta QA;kernel_rfl
def tNaGB5 (j:Nat→Int) (D:Row) (z:Obs) (m:Int) (k:Nat):TL:=[qGet 36 1 (lZ D z) m 20 (vstr (nmN k)) V.nil false]
theorem naGB5 (cs:List SV) (n i:Nat) (b:Nat→Bool) (j:Nat→Int) (D:Row) (z:Obs) (m:Int):QA (foC cs) fNa nNa vNa pNi 6 k3Na [5] (fun k=>sNi n i (upN b k false) j (lZ D z) m k) (fun k=>sNi n i (upN b k false) j (lZ D z) m k) .normal (tNaGB5 j D z m):=by delta QA;kernel_rfl
def tNaGC (j:Nat→Int) (D:Row) (z:Obs) (m:Int) (k:Nat):TL:=[qGet 36 1 (lZ D z) m 20 (vstr (nmN k)) V.nil false]
theorem naGC (cs:List SV) (n i:Nat) (b:Nat→Bool) (j:Nat→Int) (D:Row) (z:Obs) (m:Int):QA (foC cs) fNa nNa vNa pNi 6 k3Na [2,6] (fun k=>sNi n i (upN b k false) j (lZ D z) m k) (fun k=>sNi n i (upN b k false) j (lZ D z) m k) .normal (tNaGC j D z m):=by delta QA;kernel_rfl
def tNaGE (j:Nat→Int) (D:Row) (z:Obs) (m:Int) (k:Nat):TL:=[qGet 36 1 (lZ D z) m 20 (vstr (nmN k)) V.nil false]++(qRaise 474 490 501 1 (lZ D z) m [(vstr (nmN k))] eName 11++qText [545,551,611,617,646,654,665] 1 (lZ D z) m (vstr (nmN k)) eName 11)
theorem naGE (cs:List SV) (n i:Nat) (b:Nat→Bool) (j:Nat→Int) (D:Row) (z:Obs) (m:Int):QA (foC cs) fNa nNa vNa pNi 6 k3Na [0,3,4,7] (fun k=>sNi n i (upN b k false) j (lZ D z) m k) (fun k=>sNi n i (upN b k false) j (e3 (lZ D z) m [vstr (nmN k)] eName 11) (m + 1 + 1) k) .normal (tNaGE j D z m):=by delta QA;kernel_rfl
end
end Go.Proofs.YtobooojhmgicpaaGreatDoor.W.E
