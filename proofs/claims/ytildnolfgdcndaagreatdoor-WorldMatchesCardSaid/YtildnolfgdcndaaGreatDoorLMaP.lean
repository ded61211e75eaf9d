/- LMaP -/
import Derived.Test.YtildnolfgdcndaaGreatDoorLMaB
set_option linter.unusedVariables false
set_option linter.unusedSimpArgs false
namespace Go.Proofs.YtildnolfgdcndaaGreatDoor.W.E
section
set_option maxRecDepth 100000
open Go.RowKit
theorem maP (wh how by_:Int):PT fo0 fMa nMa [(0,1),(1,2),(2,3)] [9,0,1,2,6,7,8] 4 (kMa.take 6) (SS.tell (initT [.int .i64 wh,.int .i64 how,.int .i64 by_] 0 .e,st0 []) []) (sMn wh how by_) .normal []:=by delta PT;kernel_rfl
theorem maS (wh how by_:Int) (y:Nat):QAX extMt fo0 fMa nMa [(1,1),(2,2),(3,3)] [9,10,0,1,2,6,7,8] 4 [atC kMa 6] (List.range 17) (fun _=>sMn wh how by_) (fun i=>sMs wh how by_ (nmC i)) .normal (fun i=>tMi wh y i):=by delta QAX;kernel_rfl
theorem maT (wh how by_:Int) (S:List UInt8) (y:Nat):QAX extMt fo0 fMa nMa [(1,1),(2,2)] pM1 3 [atC kMa 7] (List.range 17) (fun _=>sMs wh how by_ S) (fun i=>sMb how S (nmC i)) .normal (fun i=>tMi by_ y i):=by delta QAX;kernel_rfl
def tMaC (i:Nat):TL:=qRaise 136 152 163 1 (lZ [] []) 20 [vnum 7] (nmC i) (clC i)
theorem maC (how:Int) (T:List UInt8):QAX extMt fo0 fMa nMa [(1,1),(2,2),(15,3),(44,4)] (12 :: pMd) 5 ((kMa.drop 8).take 2) (List.range 17) (fun i=>sMb how (nmC i) T) (fun i=>sMc how (nmC i) T (clC i)) .normal tMaC:=by delta QAX;kernel_rfl
def tMaW0 (how:Int) (c:Nat):TL:=[qI 1 (some (.int .i64 (andI how 3))) (.int .i64 (Int.ofNat c))]
theorem maW0 (how:Int) (S T:List UInt8) (n:Int):QAX extMt fo0 fMa nMa [(1,1),(2,2),(4,3)] pMd 4 ((kMa.drop 10).take 2) [0,3] (fun _=>sMc how S T n) (fun _=>sMd how S T 22 (l1M S n) 22) .normal (tMaW0 how):=by delta QAX;kernel_rfl
def tMaW1 (how:Int) (i:Nat):TL:=qI 1 (some (.int .i64 (andI how 3))) (.int .i64 1) :: qInst 120 135 136 1 (l1M (nmC i) (clC i)) 22 [] (nmC i) (clC i)
theorem maW1 (how:Int) (T:List UInt8):QAX extMt fo0 fMa nMa [(1,1),(2,2),(4,3)] pMd 4 ((kMa.drop 10).take 2) (List.range 17) (fun i=>sMc how (nmC i) T (clC i)) (fun i=>sMd how (nmC i) T 23 (l2M [] (nmC i) (clC i)) 24) .normal (tMaW1 how):=by delta QAX;kernel_rfl
def tMaW2 (how:Int) (i:Nat):TL:=qI 1 (some (.int .i64 (andI how 3))) (.int .i64 2) :: qInst 164 179 180 1 (l1M (nmC i) (clC i)) 22 [vnum 7] (nmC i) (clC i)
theorem maW2 (how:Int) (T:List UInt8):QAX extMt fo0 fMa nMa [(1,1),(2,2),(4,3)] pMd 4 ((kMa.drop 10).take 2) (List.range 17) (fun i=>sMc how (nmC i) T (clC i)) (fun i=>sMd how (nmC i) T 23 (l2M [vnum 7] (nmC i) (clC i)) 24) .normal (tMaW2 how):=by delta QAX;kernel_rfl
theorem maA (how:Int) (S T:List UInt8) (m:Int) (l:Obs) (q:Int):QTX extMt fo0 fMa nMa [(1,1),(2,2),(3,3)] pMe 4 ((kMa.drop 12).take 4) (sMd how S T m l q) (sMe how S T m l q S false) .normal []:=by delta QTX;kernel_rfl
def tMaL (T:List UInt8) (b:Bool) (e:Nat):TL:=[qI 9 (binS .eql (nmC e) T) (.bool b)]
theorem maL (how:Int) (S T:List UInt8) (m:Int) (l:Obs) (q:Int) (b:Bool):QAX extMt fo0 fMa nMa [(1,1),(2,2),(3,3)] pMe 4 k1Ma (List.range 17) (fun e=>sMe how S T m l q (nmC e) false) (fun e=>sMe how S T m l q (nmC (bsC e)) b) .normal (tMaL T b):=by delta QAX;kernel_rfl
theorem maX (how:Int) (S T:List UInt8) (m:Int) (l:Obs) (q:Int):QAX extMt fo0 fMa nMa [(1,1),(2,2),(3,3)] pMe 4 k1Ma (List.range 18) (fun e=>sMe how S T m l q (nmC e) true) (fun e=>sMe how S T m l q (nmC e) true) (.exit 1) (fun _=>[]):=by delta QAX;kernel_rfl
theorem maY (how:Int) (S T:List UInt8) (m:Int) (l:Obs) (q:Int):QTX extMt fo0 fMa nMa [(1,1),(2,2),(3,3)] pMe 4 k1Ma (sMe how S T m l q (nmC 17) false) (sMe how S T m l q (nmC 17) false) (.exit 1) []:=by delta QTX;kernel_rfl
end
end Go.Proofs.YtildnolfgdcndaaGreatDoor.W.E
