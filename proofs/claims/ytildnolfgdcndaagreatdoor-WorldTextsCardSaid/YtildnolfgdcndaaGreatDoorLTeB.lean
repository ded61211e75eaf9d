/- LTeB -/
import Derived.Test.YtildnolfgdcndaaGreatDoorPart29
set_option linter.unusedVariables false
set_option linter.unusedSimpArgs false
namespace Go.Proofs.YtildnolfgdcndaaGreatDoor.W.E
section
set_option maxRecDepth 100000
open Go.RowKit
abbrev fTe:Nat:=5
noncomputable abbrev nTe:Nat:=Tryz.f5.ntmps
noncomputable abbrev rsTe:Array ResultVar:=Tryz.f5.results
noncomputable def cTe:Code:=match Tryz.f5.body with
 | some c=>c
 | none=>.skip
noncomputable def kTe:List Code:=flatC cTe
theorem kTe_eq:flatC cTe=kTe.take 5++((kTe.drop 5).take 2++([atC kTe 7]++kTe.drop 8)):=by kernel_rfl
def mTe:T SB:=mkT [(2,wldAt 1 [])]
def tTe (n:Int) (s:List UInt8) (b:Int):List (Nat × SV):=[(0,.int .i64 n),(1,.str s),(2,.int .i64 b),(6,.bool false),(7,.bool true),(8,.ptr 2 0)]
def sTe (n:Int) (s:List UInt8) (b:Int):SS:=(mkT (tTe n s b),⟨mTe,3,⟨some (1,hZ (lZ [] []) 20),0,[],[],[]⟩⟩)
def sTf (n:Int) (s:List UInt8) (b:Int) (t:List UInt8):SS:=(mkT ((9,.ptr 3 0) :: tTe n s b),⟨mkT [(2,wldAt 1 []),(3,.cells [.int .i64 3,.int .i64 0,.str t] false [] (some 28))],4,⟨some (1,hZ (lZ [] []) 20),0,[],[],[]⟩⟩)
abbrev pTe:List Nat:=[0,1,2,6,7,8]
abbrev vTe:Live:=[(0,1),(1,2)]
abbrev eVal:List UInt8:=[86,97,108,117,101,69,114,114,111,114]
def tx (c:Nat→UInt8) (L:Nat):List UInt8:=(List.range L).map c
def minT (s:List UInt8):SV:=.int .i64 (if (50:Int) < Int.ofNat s.length then 50 else Int.ofNat s.length)
def sliceT (s:List UInt8) (q:Nat):Option SV:=match bounds3 ((T.e:T SV).upd 0 (some (.int .i64 (Int.ofNat q)))) s.length (some s.length) none (some (.tmp 0)) none with
 | some (a,b,_)=>some (.str ((s.drop a).take (b - a)))
 | none=>none
def vS (t:List UInt8):SV:=.agg [.int .i64 3,.int .i64 0,.str t]
def byB (k:Nat):UInt8:=UInt8.ofNat (wrapF .u8 (Int.ofNat k)).toNat
def tTeA (s t:List UInt8) (b:Int) (q k:Nat):TL:=[qI 3 (some (minT s)) (.int .i64 (Int.ofNat q)),qI 4 (sliceT s q) (.str t),qI 7 (some (.int .i64 (andI b 255))) (.int .i64 (Int.ofNat k))]
def tTeB (n:Int) (c:Nat→UInt8) (L:Nat):TL:=[qText1 277 1 (lZ [] []) 20 n (tx c L),qStr 327 L (byteS (tx c L)) (tx c L)]
abbrev l2:Obs:=e3 (lZ [] []) 20 [] eVal 10
def tTeC (n:Int) (t T:List UInt8) (k:Nat):TL:=[qParse 208 1 (lZ [] []) 20 T n true,qI 750 (some (.bool (ltI (Int.ofNat k) 0))) (.bool false),qI 753 (some (.bool (ltI 255 (Int.ofNat k)))) (.bool false),qI 1033 (some (.int .u8 (Int.ofNat (byB k).toNat))) (.int .u8 (Int.ofNat k)),qI 1042 (some (.int .i64 (wrapF .i64 (Int.add (Int.ofNat k) 256)))) (.int .i64 (Int.ofNat (k + 256))),qI 1322 (some (.bool (ltI (Int.ofNat (k + 256)) 0))) (.bool false),qI 1325 (some (.bool (ltI 255 (Int.ofNat (k + 256))))) (.bool true)]
def tTeD (n:Int) (t:List UInt8):TL:=[qI 1407 (binS .add [120] t) (.str (120 :: t)),qParse 1615 1 l2 (20 + 1 + 1) (120 :: t) 0 false]
def tTeE (n:Int) (t:List UInt8) (k:Nat):TL:=[qI 1895 (some (.bool (not (ltI (Int.ofNat t.length) 0)))) (.bool true),qI 1909 (binV Tryz.prog .eql 28 false (vI n) (vI n)) (.bool true),qI 1917 (binV Tryz.prog .eql 28 false (vS t) (vS t)) (.bool true),qI 1925 (binV Tryz.prog .eql 28 false (vI (wrapF .i64 (Int.ofNat k))) (vI (Int.ofNat k))) (.bool true),qI 2216 (binV Tryz.prog .eql 28 false (vI (Int.ofNat t.length)) (vI (Int.ofNat t.length))) (.bool true)]
def tTeZ (n:Int) (t T:List UInt8) (k:Nat):TL:=tTeC n t T k++(qRaise 1370 1386 1397 1 (lZ [] []) 20 [] eVal 10++(tTeD n t++(qRaise 1665 1681 1692 1 l2 (20 + 1 + 1) [] eVal 10++tTeE n t k)))
end
end Go.Proofs.YtildnolfgdcndaaGreatDoor.W.E
