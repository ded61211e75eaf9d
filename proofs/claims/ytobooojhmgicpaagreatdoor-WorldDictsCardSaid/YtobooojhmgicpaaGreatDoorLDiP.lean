/- LDiP -/
import Derived.Test.YtobooojhmgicpaaGreatDoorLDiB
set_option linter.unusedVariables false
set_option linter.unusedSimpArgs false
namespace Go.Proofs.YtobooojhmgicpaaGreatDoor.W.E
section
set_option maxRecDepth 100000
open Go.RowKit
theorem diP (cs:List SV) (n:Nat):PT (foC cs) fDi nDi [(0,0),(1,1),(2,2),(9,3),(32,4),(55,5),(56,8),(57,6),(58,7)] pD 9 (kDi.take 12) (SS.tell (initT [.sl 0 0 n 3 none] 0 .e,st0N 1 []) []) ((sD [] n 0 0 (some 0) (fun _=>false) (fun _=>0) (lD [] []) 23).w []) .normal []:=by delta PT;kernel_rfl
theorem diNil:PE fo0 fDi nDi rsDi kDi (SS.tell (initT [.nils] 0 .e,st0 []) []) []:=by delta PE;kernel_rfl
theorem diTT (cs rs:List SV) (n i r:Nat) (ck:Option Nat) (b:Nat→Bool) (j:Nat→Int) (D:Row) (z:Obs) (m:Int):QT (foW (foC cs) 8 rs) fDi nDi vD pD 9 (k1Di.take 2) (sD [] n i r ck b j (lD D z) m) (sD [] n i r ck b j (lD D z) m) .normal [qLt 3 (Int.ofNat i) (Int.ofNat n) true,qLt 6 (Int.ofNat i) (80) true]:=by delta QT;kernel_rfl
theorem diTF (cs rs:List SV) (n i r:Nat) (ck:Option Nat) (b:Nat→Bool) (j:Nat→Int) (D:Row) (z:Obs) (m:Int):QT (foW (foC cs) 8 rs) fDi nDi vD pD 9 (k1Di.take 2) (sD [] n i r ck b j (lD D z) m) (sD [] n i r ck b j (lD D z) m) (.exit 0) [qLt 3 (Int.ofNat i) (Int.ofNat n) false]:=by delta QT;kernel_rfl
theorem diTG (cs rs:List SV) (n i r:Nat) (ck:Option Nat) (b:Nat→Bool) (j:Nat→Int) (D:Row) (z:Obs) (m:Int):QT (foW (foC cs) 8 rs) fDi nDi vD pD 9 (k1Di.take 2) (sD [] n i r ck b j (lD D z) m) (sD [] n i r ck b j (lD D z) m) (.exit 0) [qLt 3 (Int.ofNat i) (Int.ofNat n) true,qLt 6 (Int.ofNat i) (80) false]:=by delta QT;kernel_rfl
theorem diU (cs rs:List SV) (n r:Nat) (ck:Option Nat) (b:Nat→Bool) (j:Nat→Int) (D:Row) (z:Obs) (m:Int):QA (foW (foC cs) 8 rs) fDi nDi vD pD 9 (k1Di.drop 3) (List.range 80) (fun i=>(sD [] n i r ck b j (lD D z) m)) (fun i=>(sD [] n (i + 1) r ck b j (lD D z) m)) .normal (fun _=>[]):=by delta QA;kernel_rfl
theorem diW (cs rs:List SV) (n i r:Nat) (ck:Option Nat) (b:Nat→Bool) (j:Nat→Int) (D:Row) (z:Obs) (m:Int) (c x0 x1:Int):QA (foW (foC cs) 8 rs) fDi nDi ((11,9) :: vD) (63 :: pK) 10 (kbDi.take 3) (List.range 8) (fun k=>(sD [] n i r ck b j (lD D z) m)) (fun k=>(sK [(63,.int .i64 c)] n i r ck b j (lD D z) m k)) .normal (fun k=>[qRow3 2 n i,qCell3 4 cs i 0 x0,qAnd 5 x0 7 (Int.ofNat k),qRow3 13 n i,qCell3 15 cs i 1 x1,qAnd 16 x1 3 c]):=by delta QA;kernel_rfl
theorem diX0 (cs rs:List SV) (n i r:Nat) (ck:Option Nat) (b:Nat→Bool) (j:Nat→Int) (D:Row) (z:Obs) (m:Int) (k:Nat):QT (foW (foC cs) 8 rs) fDi nDi vK (63 :: 64 :: pK) 10 (kSDi.take 2) (sK [(63,.int .i64 0)] n i r ck b j (lD D z) m k) (sK [(63,.int .i64 0),(64,.bool true)] n i r ck b j (lD D z) m k) .normal []:=by delta QT;kernel_rfl
theorem diX3 (cs rs:List SV) (n i r:Nat) (ck:Option Nat) (b:Nat→Bool) (j:Nat→Int) (D:Row) (z:Obs) (m:Int) (k:Nat):QT (foW (foC cs) 8 rs) fDi nDi vK (63 :: 64 :: pK) 10 (kSDi.take 2) (sK [(63,.int .i64 3)] n i r ck b j (lD D z) m k) (sK [(63,.int .i64 3),(64,.bool true)] n i r ck b j (lD D z) m k) .normal []:=by delta QT;kernel_rfl
theorem diX1 (cs rs:List SV) (n i r:Nat) (ck:Option Nat) (b:Nat→Bool) (j:Nat→Int) (D:Row) (z:Obs) (m:Int) (k:Nat):QT (foW (foC cs) 8 rs) fDi nDi vK (63 :: 64 :: pK) 10 (kSDi.take 2) (sK [(63,.int .i64 1)] n i r ck b j (lD D z) m k) (sK [(63,.int .i64 1),(64,.bool false)] n i r ck b j (lD D z) m k) .normal []:=by delta QT;kernel_rfl
theorem diX2 (cs rs:List SV) (n i r:Nat) (ck:Option Nat) (b:Nat→Bool) (j:Nat→Int) (D:Row) (z:Obs) (m:Int) (k:Nat):QT (foW (foC cs) 8 rs) fDi nDi vK (63 :: 64 :: pK) 10 (kSDi.take 2) (sK [(63,.int .i64 2)] n i r ck b j (lD D z) m k) (sK [(63,.int .i64 2),(64,.bool false)] n i r ck b j (lD D z) m k) .normal []:=by delta QT;kernel_rfl
theorem diY (cs rs:List SV) (n i r:Nat) (ck:Option Nat) (b:Nat→Bool) (j:Nat→Int) (D:Row) (z:Obs) (m:Int) (k:Nat):QT (foW (foC cs) 8 rs) fDi nDi vK (95 :: pK) 10 (kBDi.take 1) (sK [(63,.int .i64 1),(64,.bool false)] n i r ck b j (lD D z) m k) (sK [(95,.bool true)] n i r ck b j (lD D z) m k) .normal []:=by delta QT;kernel_rfl
end
end Go.Proofs.YtobooojhmgicpaaGreatDoor.W.E
