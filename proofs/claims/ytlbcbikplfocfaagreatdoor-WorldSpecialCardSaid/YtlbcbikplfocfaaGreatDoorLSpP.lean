/- LSpP -/
import Derived.Test.YtlbcbikplfocfaaGreatDoorLSpB
set_option linter.unusedVariables false
set_option linter.unusedSimpArgs false
namespace Go.Proofs.YtlbcbikplfocfaaGreatDoor.W.E
section
set_option maxRecDepth 100000
open Go.RowKit
theorem spP (x:Int):PT fo0 fSp nSp [(0,1),(1,2),(2,12),(3,3),(4,4)] [0,5,8,2,3,4,6,7] 13 (kSp.take 9) (SS.tell (initT [.int .i64 x] 0 .e,st0 []) []) ((s1 x 0 0 (fun _=>0)).w3 []) .normal []:=by delta PT;kernel_rfl
section
variable (x:Int) (cd:Nat→Int) (g:Nat→List UInt8)
theorem spA:QA fo0 fSp nSp [(1,1),(2,2),(4,4),(12,12),(14,3)] [0,5,8,2,3,4,6,7] 13 k1Sp prA (fun q=>(s1 x (q / 16) (q % 16) cd).w3 (rwS g (q % 16))) (fun q=>(s1 x (q / 16 + 1) (q % 16 + 1) (updS cd (q / 16) (Int.ofNat (q % 16 + 1)))).w3 (rwS g (q % 16)++[.str (nmS (q / 16))])) .normal (fun q=>[qBit 6 x (q / 16) 1]):=by delta QA;kernel_rfl
theorem spU:QA fo0 fSp nSp [(1,1),(2,2),(4,4),(12,12),(3,3)] [0,5,8,2,3,4,6,7] 13 k1Sp prA (fun q=>(s1 x (q / 16) (q % 16) cd).w3 (rwS g (q % 16))) (fun q=>(s1 x (q / 16 + 1) (q % 16) cd).w3 (rwS g (q % 16))) .normal (fun q=>[qBit 6 x (q / 16) 0]):=by delta QA;kernel_rfl
theorem spX:QA fo0 fSp nSp [(1,1),(2,2),(4,4),(12,12),(3,3)] [0,5,8,2,3,4,6,7] 13 k1Sp (List.range 9) (fun r=>(s1 x 8 r cd).w3 (rwS g r)) (fun r=>(s1 x 8 r cd).w3 (rwS g r)) (.exit 0) (fun _=>[]):=by delta QA;kernel_rfl
theorem spI:QA fo0 fSp nSp v4 k6 40 ((kSp.drop 10).take 1) (List.range 9) (fun r=>(s1 x 8 r cd).w3 (rwS g r)) (fun r=>(sT 1 r (ckT r) cd (lZ [] []) 20).w3 (rwS g r)) .normal (fun _=>[]):=by delta QA;kernel_rfl
end
section
variable (rs:List SV) (r:Nat) (ck:Option Nat) (cd:Nat→Int) (l:Obs) (m:Int)
theorem spT1:QT (foW fo0 3 rs) fSp nSp v4 k6 40 (k2Sp.take 2) (sT 1 r ck cd l m) (sT 1 r ck cd l m) .normal []:=by delta QT;kernel_rfl
theorem spN1:QT (foW fo0 3 rs) fSp nSp v4 k6 40 (k2Sp.drop 3) (sT 1 r ck cd l m) (sT 2 r ck cd l m) .normal []:=by delta QT;kernel_rfl
theorem spT2:QT (foW fo0 3 rs) fSp nSp v4 k6 40 (k2Sp.take 2) (sT 2 r ck cd l m) (sT 2 r ck cd l m) .normal []:=by delta QT;kernel_rfl
theorem spN2:QT (foW fo0 3 rs) fSp nSp v4 k6 40 (k2Sp.drop 3) (sT 2 r ck cd l m) (sT 3 r ck cd l m) .normal []:=by delta QT;kernel_rfl
theorem spT3:QT (foW fo0 3 rs) fSp nSp v4 k6 40 (k2Sp.take 2) (sT 3 r ck cd l m) (sT 3 r ck cd l m) (.exit 2) []:=by delta QT;kernel_rfl
theorem spE:QE (foW fo0 3 rs) fSp nSp rsSp (kSp.drop 12) (sT 3 r ck cd l m) []:=by delta QE;kernel_rfl
end
theorem spC (p:Int) (g:Nat→List UInt8) (cd:Nat→Int) (l l':Obs) (m m' c:Int):QAX (extC fCl extS) fo0 fSp nSp (v4++[(40,5)]) (10 :: k6) 40 (kbSp.take 1) (List.range 9) (fun r=>(sT p r (ckT r) cd l m).w3 (rwS g r)) (fun r=>(sCl p r (ckT r) cd l' m' c).w3 (rwS g r)) .normal (fun r=>[qCall 3 fCl [.ptr 2 0,.str sC1,.nils,.sl 3 0 r 1 (ckT r),.int .i64 p] [(2,some (wldAt 1 [])),(3,some (.row (rwS g r) (some 9)))] 1 (hZ l m) (vr c).sv (hZ l' m')]):=by delta QAX;kernel_rfl
theorem spO (p:Nat) (rs:List SV) (w:Lt) {z:Obs} {n c:Int} {u:Nat} {d:Row} (Y:Fc z n c u d) (h2:c≠2) (hi:Wn d sIni):QT (foW fo0 3 rs) fSp nSp (v4++[(70,6),(71,7)]) kA 40 ((kbSp.drop 1).take 2) (sCl (Int.ofNat p) w.r w.ck w.cd (lZ [] z) n c) (sA w p 0 0 (lZ [] z++[(n + 1,oIn c)]) (n + 1) (n + 1)) .normal (plT ([pCi Y 47,pC Y 52,pC Y 75,pU Y 87 hi,pCs Y 128 h2,pC Y 149,pCn Y 156,pM Y 159])):=by delta QT;kernel_rfl
end
end Go.Proofs.YtlbcbikplfocfaaGreatDoor.W.E
