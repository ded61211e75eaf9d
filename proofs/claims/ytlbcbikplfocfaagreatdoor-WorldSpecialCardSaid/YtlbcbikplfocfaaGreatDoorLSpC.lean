/- LSpC -/
import Derived.Test.YtlbcbikplfocfaaGreatDoorLSpB
set_option linter.unusedVariables false
set_option linter.unusedSimpArgs false
namespace Go.Proofs.YtlbcbikplfocfaaGreatDoor.W.E
section
set_option maxRecDepth 100000
open Go.RowKit
section
variable {rs:List SV} {w:Lt} {l:Obs} {m o:Int}
theorem spK1:QY rs (vS 1 8++[(40,8),(41,9)]) kK ((kbSp.drop 12).take 3) (mks 1 8) (fun k=>sA w 1 8 k l m o) (fun k=>sK w 1 0 k l m o) []:=by delta QY QA;kernel_rfl
theorem sk10r (hc:0 < w.cd 0):QL rs w 1 0 true l m o [pgt 9 hc,pne 28 (w.cd 0),pnv 50 o]:=by delta QL QY QA;kernel_rfl
theorem sk10u (hk:¬ w.kk 0=3) (hc:¬ 0 < w.cd 0):QL rs w 1 0 false l m o [pq 6 hk,pgf 9 hc,pq 17 hk]:=by delta QL QY QA;kernel_rfl
theorem sk11w (hk:¬ w.kk 1=3) (hc:0 < w.cd 1):QL rs w 1 1 false l m o [pq 6 hk,pgt 9 hc,pq 21 hk]:=by delta QL QY QA;kernel_rfl
theorem sk11u (hk:¬ w.kk 1=3) (hc:¬ 0 < w.cd 1):QL rs w 1 1 false l m o [pq 6 hk,pgf 9 hc,pq 17 hk]:=by delta QL QY QA;kernel_rfl
theorem sk12w (hk:¬ w.kk 2=3) (hc:0 < w.cd 2):QL rs w 1 2 false l m o [pq 6 hk,pgt 9 hc,pq 21 hk]:=by delta QL QY QA;kernel_rfl
theorem sk12u (hk:¬ w.kk 2=3) (hc:¬ 0 < w.cd 2):QL rs w 1 2 false l m o [pq 6 hk,pgf 9 hc,pq 17 hk]:=by delta QL QY QA;kernel_rfl
theorem sk13r (hc:0 < w.cd 3):QL rs w 1 3 true l m o [pgt 9 hc,pne 28 (w.cd 3),pnv 50 o]:=by delta QL QY QA;kernel_rfl
theorem sk13u (hk:¬ w.kk 3=3) (hc:¬ 0 < w.cd 3):QL rs w 1 3 false l m o [pq 6 hk,pgf 9 hc,pq 17 hk]:=by delta QL QY QA;kernel_rfl
theorem sk14w (hk:¬ w.kk 4=3) (hc:0 < w.cd 4):QL rs w 1 4 false l m o [pq 6 hk,pgt 9 hc,pq 21 hk]:=by delta QL QY QA;kernel_rfl
theorem sk14u (hk:¬ w.kk 4=3) (hc:¬ 0 < w.cd 4):QL rs w 1 4 false l m o [pq 6 hk,pgf 9 hc,pq 17 hk]:=by delta QL QY QA;kernel_rfl
theorem sk15r (hc:0 < w.cd 5):QL rs w 1 5 true l m o [pgt 9 hc,pne 28 (w.cd 5),pnv 50 o]:=by delta QL QY QA;kernel_rfl
theorem sk15u (hk:¬ w.kk 5=3) (hc:¬ 0 < w.cd 5):QL rs w 1 5 false l m o [pq 6 hk,pgf 9 hc,pq 17 hk]:=by delta QL QY QA;kernel_rfl
theorem sk16r (hc:0 < w.cd 6):QL rs w 1 6 true l m o [pgt 9 hc,pne 28 (w.cd 6),pnv 50 o]:=by delta QL QY QA;kernel_rfl
theorem sk16u (hk:¬ w.kk 6=3) (hc:¬ 0 < w.cd 6):QL rs w 1 6 false l m o [pq 6 hk,pgf 9 hc,pq 17 hk]:=by delta QL QY QA;kernel_rfl
theorem sk17r (hc:0 < w.cd 7):QL rs w 1 7 true l m o [pgt 9 hc,pne 28 (w.cd 7),pnv 50 o]:=by delta QL QY QA;kernel_rfl
theorem sk17u (hk:¬ w.kk 7=3) (hc:¬ 0 < w.cd 7):QL rs w 1 7 false l m o [pq 6 hk,pgf 9 hc,pq 17 hk]:=by delta QL QY QA;kernel_rfl
theorem skX1:QA (foW fo0 3 rs) fSp nSp (v4++[(6,6)]) (11 :: k6) 40 k4Sp (mks 1 8) (fun k=>sK w 1 8 k l m o) (fun _=>sZ 1 w.r w.ck w.cd [] [] l m o) (.exit 4) (fun _=>[]):=by delta QA;kernel_rfl
theorem spK2:QY rs (vS 2 8++[(40,8),(41,9)]) kK ((kbSp.drop 12).take 3) (mks 2 8) (fun k=>sA w 2 8 k l m o) (fun k=>sK w 2 0 k l m o) []:=by delta QY QA;kernel_rfl
theorem sk20w (hk:¬ w.kk 0=3) (hc:0 < w.cd 0):QL rs w 2 0 false l m o [pq 6 hk,pgt 9 hc,pq 21 hk]:=by delta QL QY QA;kernel_rfl
theorem sk20u (hk:¬ w.kk 0=3) (hc:¬ 0 < w.cd 0):QL rs w 2 0 false l m o [pq 6 hk,pgf 9 hc,pq 17 hk]:=by delta QL QY QA;kernel_rfl
theorem sk21r (hc:0 < w.cd 1):QL rs w 2 1 true l m o [pgt 9 hc,pne 28 (w.cd 1),pnv 50 o]:=by delta QL QY QA;kernel_rfl
theorem sk21u (hk:¬ w.kk 1=3) (hc:¬ 0 < w.cd 1):QL rs w 2 1 false l m o [pq 6 hk,pgf 9 hc,pq 17 hk]:=by delta QL QY QA;kernel_rfl
theorem sk22r (hc:0 < w.cd 2):QL rs w 2 2 true l m o [pgt 9 hc,pne 28 (w.cd 2),pnv 50 o]:=by delta QL QY QA;kernel_rfl
theorem sk22u (hk:¬ w.kk 2=3) (hc:¬ 0 < w.cd 2):QL rs w 2 2 false l m o [pq 6 hk,pgf 9 hc,pq 17 hk]:=by delta QL QY QA;kernel_rfl
theorem sk23w (hk:¬ w.kk 3=3) (hc:0 < w.cd 3):QL rs w 2 3 false l m o [pq 6 hk,pgt 9 hc,pq 21 hk]:=by delta QL QY QA;kernel_rfl
theorem sk23u (hk:¬ w.kk 3=3) (hc:¬ 0 < w.cd 3):QL rs w 2 3 false l m o [pq 6 hk,pgf 9 hc,pq 17 hk]:=by delta QL QY QA;kernel_rfl
theorem sk24r (hc:0 < w.cd 4):QL rs w 2 4 true l m o [pgt 9 hc,pne 28 (w.cd 4),pnv 50 o]:=by delta QL QY QA;kernel_rfl
theorem sk24u (hk:¬ w.kk 4=3) (hc:¬ 0 < w.cd 4):QL rs w 2 4 false l m o [pq 6 hk,pgf 9 hc,pq 17 hk]:=by delta QL QY QA;kernel_rfl
theorem sk25r (hc:0 < w.cd 5):QL rs w 2 5 true l m o [pgt 9 hc,pne 28 (w.cd 5),pnv 50 o]:=by delta QL QY QA;kernel_rfl
theorem sk25u (hk:¬ w.kk 5=3) (hc:¬ 0 < w.cd 5):QL rs w 2 5 false l m o [pq 6 hk,pgf 9 hc,pq 17 hk]:=by delta QL QY QA;kernel_rfl
theorem sk26w (hk:¬ w.kk 6=3) (hc:0 < w.cd 6):QL rs w 2 6 false l m o [pq 6 hk,pgt 9 hc,pq 21 hk]:=by delta QL QY QA;kernel_rfl
theorem sk26u (hk:¬ w.kk 6=3) (hc:¬ 0 < w.cd 6):QL rs w 2 6 false l m o [pq 6 hk,pgf 9 hc,pq 17 hk]:=by delta QL QY QA;kernel_rfl
theorem sk27w (hk:¬ w.kk 7=3) (hc:0 < w.cd 7):QL rs w 2 7 false l m o [pq 6 hk,pgt 9 hc,pq 21 hk]:=by delta QL QY QA;kernel_rfl
theorem sk27u (hk:¬ w.kk 7=3) (hc:¬ 0 < w.cd 7):QL rs w 2 7 false l m o [pq 6 hk,pgf 9 hc,pq 17 hk]:=by delta QL QY QA;kernel_rfl
theorem skX2:QA (foW fo0 3 rs) fSp nSp (v4++[(6,6)]) (11 :: k6) 40 k4Sp (mks 2 8) (fun k=>sK w 2 8 k l m o) (fun _=>sZ 2 w.r w.ck w.cd [] [] l m o) (.exit 4) (fun _=>[]):=by delta QA;kernel_rfl
end
section
variable {rs:List SV} {w:Lt} {z:Obs} {n c o f q:Int} {u:Nat} {d:Row} (X:Fx z n c o u d)
include X
variable {p:Int} {r:Nat} {ck:Option Nat} {cd:Nat→Int}
abbrev QP (rs:List SV) (live:Live) (keep:List Nat) (l:List Code) (s s2:SS) (pl:List EP):Prop:=QT (foW fo0 3 rs) fSp nSp live keep 40 l s s2 .normal (plT pl)
theorem spFs (hw:Wy d 1 f) (hf:Fy z f p q):QP rs (v4++[(6,6),(40,10)]) (16 :: 11 :: k6) ((kbSp.drop 16).take 1) (sZ p r ck cd [] [] (lZ [] z) n o) (sZ p r ck cd [(16,.ptr 10 0)] [(10,actV 1 1 1)] (lZ [] z) n o) ([pA X 36,pO X 42,pC X.1 48,pF X.1 68 hw,pG X.1 78 hf,pO X 157,pO X 163,pO X 180,pO X 191,pO X 201]):=by delta QP QT;kernel_rfl
theorem spGs (hw:Wy d 2 f) (hf:Fy z f p q):QP rs (v4++[(6,6),(10,10),(40,11)]) (16 :: 17 :: 11 :: k6) ((kbSp.drop 17).take 1) (sZ p r ck cd [(16,.ptr 10 0)] [(10,actV 1 1 1)] (lZ [] z) n o) (sZ p r ck cd [(16,.ptr 10 0),(17,.ptr 11 0)] [(10,actV 1 1 1),(11,actV 2 4 (n + 1 + 1))] (lZ [] (zE z n)) (n + 1 + 1) o) ([pA X 36,pO X 42,pC X.1 48,pF X.1 68 hw,pG X.1 78 hf]++pR X.1 174 190 201):=by delta QP QT;kernel_rfl
theorem spH (h2:c≠2) (y:Int):QP rs v4 k6 (kbSp.drop 18) (sZ p r ck cd [(16,.ptr 10 0),(17,.ptr 11 0)] [(10,actV 1 1 1),(11,actV 2 4 y)] (lZ [] z) n o) (sT p r ck cd (lZ [] z) n) ([pA X 22,pO X 28,pC X.1 34,pCs X.1 76 h2,pO X 102,pO X 113,pO X 143,pOn X 154]):=by delta QP QT;kernel_rfl
theorem spFu (hw:Wn d (nmS 1)):QP rs (v4++[(6,6),(40,10)]) (16 :: 11 :: k6) ((kbSp.drop 16).take 1) (sZ p r ck cd [] [] (lZ [] z) n o) (sZ p r ck cd [(16,.ptr 10 0)] [(10,actV 1 1 1)] (lZ [] z) n o) ([pA X 36,pO X 42,pC X.1 48,pU X.1 68 hw,pO X 150,pO X 156,pO X 173,pO X 184,pO X 194]):=by delta QP QT;kernel_rfl
theorem spGu (hw:Wn d (nmS 2)):QP rs (v4++[(6,6),(10,10),(40,11)]) (16 :: 17 :: 11 :: k6) ((kbSp.drop 17).take 1) (sZ p r ck cd [(16,.ptr 10 0)] [(10,actV 1 1 1)] (lZ [] z) n o) (sZ p r ck cd [(16,.ptr 10 0),(17,.ptr 11 0)] [(10,actV 1 1 1),(11,actV 2 4 (n + 1 + 1))] (lZ [] (zE z n)) (n + 1 + 1) o) ([pA X 36,pO X 42,pC X.1 48,pU X.1 68 hw]++pR X.1 167 183 194):=by delta QP QT;kernel_rfl
end
end
end Go.Proofs.YtlbcbikplfocfaaGreatDoor.W.E
