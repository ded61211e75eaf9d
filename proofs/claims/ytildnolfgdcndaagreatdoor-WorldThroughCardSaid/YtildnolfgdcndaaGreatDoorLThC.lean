/- LThC -/
import Derived.Test.YtildnolfgdcndaaGreatDoorLThB
set_option linter.unusedVariables false
set_option linter.unusedSimpArgs false
namespace Go.Proofs.YtildnolfgdcndaaGreatDoor.W.E
section
set_option maxRecDepth 100000
open Go.RowKit
theorem thC0 (cs:List SV) (g:Nat→Int) (l:Obs) (m:Int):QA (foC cs) fTh nTh [(0,0),(1,1),(2,2),(3,3),(4,4),(5,5),(6,6)] [14,10,11,12,4,5,6,7] 7 (kbTh.drop 2) (prs 1 20) (fun q=>(s2b (q % 64) (q / 64) none l m (g (q % 64))).w3 (rwV g (q / 64))) (fun q=>(s2 14 (q % 64) (q / 64) none l m).w3 (rwV g (q / 64))) .normal (fun q=>[qNV 7 (g (q % 64)),qNV 18 (g (q % 64))]):=by delta QA;kernel_rfl
theorem thC1 (cs:List SV) (g:Nat→Int) (l:Obs) (m:Int):QA (foC cs) fTh nTh [(0,0),(1,1),(2,2),(3,3),(4,4),(5,5),(6,6)] [14,10,11,12,4,5,6,7] 7 (kbTh.drop 2) (prs 21 9) (fun q=>(s2b (q % 64) (q / 64) none l m (g (q % 64))).w3 (rwV g (q / 64))) (fun q=>(s2 14 (q % 64) (q / 64) none l m).w3 (rwV g (q / 64))) .normal (fun q=>[qNV 7 (g (q % 64)),qNV 18 (g (q % 64))]):=by delta QA;kernel_rfl
theorem thC2 (cs:List SV) (g:Nat→Int) (l:Obs) (m:Int):QA (foC cs) fTh nTh [(0,0),(1,1),(2,2),(3,3),(4,4),(5,5),(6,6)] [14,10,11,12,4,5,6,7] 7 (kbTh.drop 2) (prs 30 6) (fun q=>(s2b (q % 64) (q / 64) none l m (g (q % 64))).w3 (rwV g (q / 64))) (fun q=>(s2 14 (q % 64) (q / 64) none l m).w3 (rwV g (q / 64))) .normal (fun q=>[qNV 7 (g (q % 64)),qNV 18 (g (q % 64))]):=by delta QA;kernel_rfl
theorem thC3 (cs:List SV) (g:Nat→Int) (l:Obs) (m:Int):QA (foC cs) fTh nTh [(0,0),(1,1),(2,2),(3,3),(4,4),(5,5),(6,6)] [14,10,11,12,4,5,6,7] 7 (kbTh.drop 2) (prs 36 5) (fun q=>(s2b (q % 64) (q / 64) none l m (g (q % 64))).w3 (rwV g (q / 64))) (fun q=>(s2 14 (q % 64) (q / 64) none l m).w3 (rwV g (q / 64))) .normal (fun q=>[qNV 7 (g (q % 64)),qNV 18 (g (q % 64))]):=by delta QA;kernel_rfl
theorem thC4 (cs:List SV) (g:Nat→Int) (l:Obs) (m:Int):QA (foC cs) fTh nTh [(0,0),(1,1),(2,2),(3,3),(4,4),(5,5),(6,6)] [14,10,11,12,4,5,6,7] 7 (kbTh.drop 2) (prs 41 5) (fun q=>(s2b (q % 64) (q / 64) none l m (g (q % 64))).w3 (rwV g (q / 64))) (fun q=>(s2 14 (q % 64) (q / 64) none l m).w3 (rwV g (q / 64))) .normal (fun q=>[qNV 7 (g (q % 64)),qNV 18 (g (q % 64))]):=by delta QA;kernel_rfl
theorem thC5 (cs:List SV) (g:Nat→Int) (l:Obs) (m:Int):QA (foC cs) fTh nTh [(0,0),(1,1),(2,2),(3,3),(4,4),(5,5),(6,6)] [14,10,11,12,4,5,6,7] 7 (kbTh.drop 2) (prs 46 4) (fun q=>(s2b (q % 64) (q / 64) none l m (g (q % 64))).w3 (rwV g (q / 64))) (fun q=>(s2 14 (q % 64) (q / 64) none l m).w3 (rwV g (q / 64))) .normal (fun q=>[qNV 7 (g (q % 64)),qNV 18 (g (q % 64))]):=by delta QA;kernel_rfl
theorem thC6 (cs:List SV) (g:Nat→Int) (l:Obs) (m:Int):QA (foC cs) fTh nTh [(0,0),(1,1),(2,2),(3,3),(4,4),(5,5),(6,6)] [14,10,11,12,4,5,6,7] 7 (kbTh.drop 2) (prs 50 4) (fun q=>(s2b (q % 64) (q / 64) none l m (g (q % 64))).w3 (rwV g (q / 64))) (fun q=>(s2 14 (q % 64) (q / 64) none l m).w3 (rwV g (q / 64))) .normal (fun q=>[qNV 7 (g (q % 64)),qNV 18 (g (q % 64))]):=by delta QA;kernel_rfl
theorem thC7 (cs:List SV) (g:Nat→Int) (l:Obs) (m:Int):QA (foC cs) fTh nTh [(0,0),(1,1),(2,2),(3,3),(4,4),(5,5),(6,6)] [14,10,11,12,4,5,6,7] 7 (kbTh.drop 2) (prs 54 4) (fun q=>(s2b (q % 64) (q / 64) none l m (g (q % 64))).w3 (rwV g (q / 64))) (fun q=>(s2 14 (q % 64) (q / 64) none l m).w3 (rwV g (q / 64))) .normal (fun q=>[qNV 7 (g (q % 64)),qNV 18 (g (q % 64))]):=by delta QA;kernel_rfl
theorem thC8 (cs:List SV) (g:Nat→Int) (l:Obs) (m:Int):QA (foC cs) fTh nTh [(0,0),(1,1),(2,2),(3,3),(4,4),(5,5),(6,6)] [14,10,11,12,4,5,6,7] 7 (kbTh.drop 2) (prs 58 3) (fun q=>(s2b (q % 64) (q / 64) none l m (g (q % 64))).w3 (rwV g (q / 64))) (fun q=>(s2 14 (q % 64) (q / 64) none l m).w3 (rwV g (q / 64))) .normal (fun q=>[qNV 7 (g (q % 64)),qNV 18 (g (q % 64))]):=by delta QA;kernel_rfl
end
end Go.Proofs.YtildnolfgdcndaaGreatDoor.W.E
