/- LThP -/
import Derived.Test.YtildnolfgdcndaaGreatDoorLThB
set_option linter.unusedVariables false
set_option linter.unusedSimpArgs false
namespace Go.Proofs.YtildnolfgdcndaaGreatDoor.W.E
section
set_option maxRecDepth 100000
open Go.RowKit
theorem thNil (tu:Bool):PE fo0 fTh nTh rsTh kTh (SS.tell (initT [.nils,.bool tu] 0 .e,st0 []) []) []:=by cases tu<;>(delta PE;kernel_rfl)
theorem thP (cs:List SV) (n:Nat) (tu:Bool):PT (foC cs) fTh nTh v1 p1 4 (kTh.take 7) (SS.tell (initT [.sl 0 0 n 1 none,.bool tu] 0 .e,st0N 1 []) []) ((s1 n tu 0 0 (some 0)).w3 []) .normal []:=by delta PT;kernel_rfl
theorem thA (cs:List SV) (n:Nat) (tu:Bool) (g:Nat→Int) (x:Int):QA (foC cs) fTh nTh [(0,0),(1,1),(2,2),(7,3)] p1 4 k1Th (List.range' 1 59) (fun r=>(s1 n tu r r none).w3 (rwV g r)) (fun r=>(s1 n tu (r + 1) (r + 1) none).w3 (rwV g r++[.int .i64 2,.int .i64 x,.str []])) .normal (fun r=>[qLt 3 (Int.ofNat r) (Int.ofNat n) true,qRow1 12 n r,qCell1 13 cs r x]):=by delta QA;kernel_rfl
theorem thA0 (cs:List SV) (n:Nat) (tu:Bool) (x:Int):QT (foC cs) fTh nTh [(0,0),(1,1),(2,2),(7,3)] p1 4 k1Th ((s1 n tu 0 0 (some 0)).w3 []) ((s1 n tu 1 1 none).w3 [.int .i64 2,.int .i64 x,.str []]) .normal [qLt 3 0 (Int.ofNat n) true,qRow1 12 n 0,qCell1 13 cs 0 x]:=by delta QT;kernel_rfl
theorem thF (cs:List SV) (n:Nat) (tu:Bool) (g:Nat→Int):QA (foC cs) fTh nTh v1 p1 4 k1Th (List.range 61) (fun r=>(s1 n tu r r (ckT r)).w3 (rwV g r)) (fun r=>(s1 n tu r r (ckT r)).w3 (rwV g r)) (.exit 0) (fun r=>[qLt 3 (Int.ofNat r) (Int.ofNat n) false]):=by delta QA;kernel_rfl
theorem thG (cs:List SV) (n:Nat) (tu:Bool) (g:Nat→Int):QT (foC cs) fTh nTh v1 p1 4 k1Th ((s1 n tu 60 60 none).w3 (rwV g 60)) ((s1 n tu 60 60 none).w3 (rwV g 60)) (.exit 0) [qLt 3 60 (Int.ofNat n) true]:=by delta QT;kernel_rfl
theorem thM1 (cs:List SV) (n:Nat) (g:Nat→Int):QA (foC cs) fTh nTh [(0,0),(1,1),(2,2),(3,3),(10,4)] [10,4,5,6,7] 5 ((kTh.drop 8).take 4) (List.range 61) (fun r=>(s1 n false r r (ckT r)).w3 (rwV g r)) (fun r=>(s3 r (ckT r) 1 (rwL g r)).w3 (rwV g r)) .normal (fun r=>[qMk 33 (lZ [] []) 20 1 [] 0 (rwL g r)]):=by delta QA;kernel_rfl
theorem thM2 (cs:List SV) (n:Nat) (g:Nat→Int):QA (foC cs) fTh nTh [(0,0),(1,1),(2,2),(3,3),(10,4)] [10,4,5,6,7] 5 ((kTh.drop 8).take 4) (List.range 61) (fun r=>(s1 n true r r (ckT r)).w3 (rwV g r)) (fun r=>(s3 r (ckT r) 2 (rwL g r)).w3 (rwV g r)) .normal (fun r=>[qMk 34 (lZ [] []) 20 2 [] 0 (rwL g r)]):=by delta QA;kernel_rfl
end
end Go.Proofs.YtildnolfgdcndaaGreatDoor.W.E
