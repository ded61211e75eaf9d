/- LSpA2 -/
import Derived.Test.YtlbcbikplfocfaaGreatDoorLSpB
set_option linter.unusedVariables false
set_option linter.unusedSimpArgs false
namespace Go.Proofs.YtlbcbikplfocfaaGreatDoor.W.E
section
set_option maxRecDepth 100000
open Go.RowKit
section
variable {rs:List SV} {w:Lt} {z:Obs} {n c o f q:Int} {u:Nat} {d:Row} (X:Fx z n c o u d)
include X
theorem sp20w (hw:Wy d 0 f) (hf:Fy z f 2 q):QN rs w 2 0 z n o (zE z n) (n + 1 + 1) 2 4 (n + 1 + 1) [] ([pA X 182,pO X 188,pC X.1 194,pF X.1 214 hw,pG X.1 224 hf,pI X.1 250 hf,pG X.1 255 hf]++pR X.1 377 393 404):=by delta QN QY QA;kernel_rfl
theorem sp20u (hw:Wn d (nmS 0)):QN rs w 2 0 z n o z n 1 3 0 [60,67,62] ([pA X 182,pO X 188,pC X.1 194,pU X.1 214 hw,pO X 262,pO X 273,pO X 303,pOn X 314]):=by delta QN QY QA;kernel_rfl
theorem sp21r (hw:Wy d 1 f) (hf:Fy z f 2 (w.cd 1)):QR rs w 2 1 [(68,22),(65,23)] z n o ([pA X 36,pO X 42,pC X.1 48,pF X.1 68 hw,pG X.1 78 hf,pI X.1 116 hf,pG X.1 121 hf,pN X.1 215 hf]):=by delta QR QY QA;kernel_rfl
theorem sp21u (hw:Wn d (nmS 1)):QN rs w 2 1 z n o z n 1 1 0 [] ([pA X 36,pO X 42,pC X.1 48,pU X.1 68 hw,pO X 150,pO X 156,pO X 173,pO X 184,pO X 194]):=by delta QN QY QA;kernel_rfl
theorem sp22r (hw:Wy d 2 f) (hf:Fy z f 2 (w.cd 2)):QR rs w 2 2 [(68,24),(65,25)] z n o ([pA X 36,pO X 42,pC X.1 48,pF X.1 68 hw,pG X.1 78 hf,pI X.1 116 hf,pG X.1 121 hf,pN X.1 215 hf]):=by delta QR QY QA;kernel_rfl
theorem sp22u (hw:Wn d (nmS 2)):QN rs w 2 2 z n o (zE z n) (n + 1 + 1) 2 4 (n + 1 + 1) [] ([pA X 36,pO X 42,pC X.1 48,pU X.1 68 hw,pO X 130]++pR X.1 193 209 220):=by delta QN QY QA;kernel_rfl
theorem sp23w (hw:Wy d 3 f) (hf:Fy z f 2 q):QN rs w 2 3 z n o (zE z n) (n + 1 + 1) 2 4 (n + 1 + 1) [] ([pA X 152,pO X 158,pC X.1 164,pF X.1 184 hw,pG X.1 194 hf,pI X.1 210 hf,pG X.1 215 hf]++pR X.1 337 353 364):=by delta QN QY QA;kernel_rfl
theorem sp23u (hw:Wn d (nmS 3)):QN rs w 2 3 z n o (zE z n) (n + 1 + 1) 2 4 (n + 1 + 1) [] ([pA X 152,pO X 158,pC X.1 164,pU X.1 184 hw,pO X 210,pO X 217,pO X 231,pO X 243]++pR X.1 289 305 316):=by delta QN QY QA;kernel_rfl
theorem sp24r (hw:Wy d 4 f) (hf:Fy z f 2 (w.cd 4)):QR rs w 2 4 [(68,28),(65,29)] z n o ([pA X 36,pO X 42,pC X.1 48,pF X.1 68 hw,pG X.1 78 hf,pI X.1 112 hf,pG X.1 117 hf,pN X.1 211 hf]):=by delta QR QY QA;kernel_rfl
theorem sp24u (hw:Wn d (nmS 4)):QN rs w 2 4 z n o (zE z n) (n + 1 + 1) 2 4 (n + 1 + 1) [] ([pA X 36,pO X 42,pC X.1 48,pU X.1 68 hw,pO X 114,pO X 128]++pR X.1 182 198 209):=by delta QN QY QA;kernel_rfl
theorem sp25r (hw:Wy d 5 f) (hf:Fy z f 2 (w.cd 5)):QR rs w 2 5 [(76,30),(73,31)] z n o ([pOi X 53,pO X 58,pO X 81,pA X 95,pO X 101,pC X.1 107,pF X.1 127 hw,pG X.1 137 hf,pI X.1 158 hf,pG X.1 163 hf,pN X.1 257 hf]):=by delta QR QY QA;kernel_rfl
theorem sp25u (hw:Wn d (nmS 5)):QN rs w 2 5 z n o (zE z n) (n + 1 + 1) 2 4 (n + 1 + 1) [] ([pOi X 53,pO X 58,pO X 81,pA X 95,pO X 101,pC X.1 107,pU X.1 127 hw]++pR X.1 184 200 211):=by delta QN QY QA;kernel_rfl
theorem sp26w (hw:Wy d 6 f) (hf:Fy z f 2 q):QN rs w 2 6 z n o (zE z n) (n + 1 + 1) 2 4 (n + 1 + 1) [] ([pO X 39,pO X 46,pO X 60,pO X 69,pOi X 82,pO X 88,pOi X 124,pO X 130,pOi X 163,pO X 169,pO X 214,pA X 224,pO X 230,pC X.1 236,pF X.1 256 hw,pG X.1 266 hf,pI X.1 282 hf,pG X.1 287 hf]++pR X.1 409 425 436):=by delta QN QY QA;kernel_rfl
theorem sp26u (hw:Wn d (nmS 6)):QN rs w 2 6 z n o (zE z n) (n + 1 + 1) 2 4 (n + 1 + 1) [] ([pO X 39,pO X 46,pO X 60,pO X 69,pOi X 82,pO X 88,pOi X 124,pO X 130,pOi X 163,pO X 169,pO X 214,pA X 224,pO X 230,pC X.1 236,pU X.1 256 hw]++pR X.1 313 329 340):=by delta QN QY QA;kernel_rfl
theorem sp27w (hw:Wy d 7 f) (hf:Fy z f 2 q):QN rs w 2 7 z n o (zE z n) (n + 1 + 1) 2 4 (n + 1 + 1) [] ([pOi X 36,pO X 42,pOi X 77,pO X 83,pO X 116,pA X 126,pO X 132,pC X.1 138,pF X.1 158 hw,pG X.1 168 hf,pI X.1 184 hf,pG X.1 189 hf]++pR X.1 311 327 338):=by delta QN QY QA;kernel_rfl
theorem sp27u (hw:Wn d (nmS 7)):QN rs w 2 7 z n o (zE z n) (n + 1 + 1) 2 4 (n + 1 + 1) [] ([pOi X 36,pO X 42,pOi X 77,pO X 83,pO X 116,pA X 126,pO X 132,pC X.1 138,pU X.1 158 hw]++pR X.1 215 231 242):=by delta QN QY QA;kernel_rfl
end
end
end Go.Proofs.YtlbcbikplfocfaaGreatDoor.W.E
