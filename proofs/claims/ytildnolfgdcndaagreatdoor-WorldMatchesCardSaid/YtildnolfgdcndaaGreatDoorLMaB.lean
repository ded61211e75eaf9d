/- LMaB -/
import Derived.Test.YtildnolfgdcndaaGreatDoorPart30
set_option linter.unusedVariables false
set_option linter.unusedSimpArgs false
namespace Go.Proofs.YtildnolfgdcndaaGreatDoor.W.E
section
set_option maxRecDepth 100000
open Go.RowKit
abbrev fMa:Nat:=8
noncomputable abbrev nMa:Nat:=Tryz.f8.ntmps
noncomputable abbrev rsMa:Array ResultVar:=Tryz.f8.results
noncomputable def cMa:Code:=match Tryz.f8.body with
 | some c=>c
 | none=>.skip
noncomputable def kMa:List Code:=flatC cMa
noncomputable def bMa:Code:=unLoop (atC kMa 16)
noncomputable def k1Ma:List Code:=flatC bMa
theorem kMa_eq:flatC cMa=kMa.take 6++([atC kMa 6]++([atC kMa 7]++((kMa.drop 8).take 2++((kMa.drop 10).take 2++((kMa.drop 12).take 4++([.block 1 (.loop bMa)]++kMa.drop 17)))))):=by kernel_rfl
def actM (k n:Int):SB:=.cells [.int .i64 k,.int .i64 0,.int .i64 0,.int .i64 4,.int .i64 n,.str [],.int .i64 0,.int .i64 0,.str [],.nils,.nils] false [] (some 31)
def namesM:SB:=.cells [.str (nmC 0),.str (nmC 1),.str (nmC 2),.str (nmC 3),.str (nmC 4),.str (nmC 5),.str (nmC 6),.str (nmC 7),.str (nmC 8),.str (nmC 9),.str (nmC 10),.str (nmC 11),.str (nmC 12),.str (nmC 13),.str (nmC 14),.str (nmC 15),.str (nmC 16)] false [] (some 9)
def tM0 (how:Int):List (Nat × SV):=[(1,.int .i64 how),(6,.bool false),(7,.bool true),(8,.ptr 2 0)]
def hM0:Hp:=hZ (lZ [] []) 20
def sMn (wh how by_:Int):SS:=(mkT ((0,.int .i64 wh) :: (2,.int .i64 by_) :: (9,.sl 3 0 17 1 (some 17)) :: tM0 how),⟨mkT [(2,wldAt 1 []),(3,namesM)],4,⟨some (1,hM0),0,[],[],[]⟩⟩)
def sMs (wh how by_:Int) (S:List UInt8):SS:=(mkT ((0,.int .i64 wh) :: (2,.int .i64 by_) :: (9,.sl 3 0 17 1 (some 17)) :: (10,.str S) :: tM0 how),⟨mkT [(2,wldAt 1 []),(3,namesM)],4,⟨some (1,hM0),0,[],[],[]⟩⟩)
def tM1 (how:Int) (S T:List UInt8):List (Nat × SV):=(10,.str S) :: (11,.str T) :: tM0 how
def sMb (how:Int) (S T:List UInt8):SS:=(mkT (tM1 how S T),⟨mkT [(2,wldAt 1 [])],3,⟨some (1,hM0),0,[],[],[]⟩⟩)
abbrev l1M (S:List UInt8) (n:Int):Obs:=e3 (lZ [] []) 20 [vnum 7] S n
def sMc (how:Int) (S T:List UInt8) (n:Int):SS:=(mkT ((12,.ptr 3 0) :: (13,.ptr 4 0) :: tM1 how S T),⟨mkT [(2,wldAt 1 []),(3,actM 1 n),(4,actM 2 22)],5,⟨some (1,hZ (l1M S n) 22),0,[],[],[]⟩⟩)
def g1 (l:Obs) (n:Int) (nm:List UInt8) (c:Int) (d:Row):Obs:=l++[(n + 1,o2 nm c d)]
def g2 (l:Obs) (n:Int) (arg:List V) (nm:List UInt8) (c:Int) (d:Row):Obs:=g1 l n nm c d++[(n + 1 + 1,o1 arg)]
abbrev g3 (l:Obs) (n:Int) (arg:List V) (nm:List UInt8) (c:Int):Obs:=g2 l n arg nm c [(vstr sArgs,vr (n + 1 + 1))]
def qInst (o p q b:Nat) (l:Obs) (n:Int) (arg:List V) (nm:List UInt8) (c:Int):TL :=
  [(o,.res (vr (n + 1)).sv (hZ (g1 l n nm c []) (n + 1)),mkP (hZ l n) 6 nm 0 [vr c] (vr (n + 1)).sv (hZ (g1 l n nm c []) (n + 1))),
   (p,.res (vr (n + 1 + 1)).sv (hZ (g2 l n arg nm c []) (n + 1 + 1)),mkP (hZ (g1 l n nm c []) (n + 1)) 2 [] 0 arg (vr (n + 1 + 1)).sv (hZ (g2 l n arg nm c []) (n + 1 + 1))),
   qPut q b (g2 l n arg nm c []) (n + 1 + 1) (n + 1) (vstr sArgs) (vr (n + 1 + 1)) (g3 l n arg nm c)]
theorem qInst_ok {o p q b:Nat} {l:Obs} {n:Int} {u:Nat} {arg:List V} {nm:List UInt8} {c:Int} (H:HJ l n u) (hu:u + 5≤uMax) (ha:arg.length≤1):(qInst o p q b l n arg nm c).ok:=by
 have H1:HJ (g1 l n nm c []) (n + 1) (u + 2):=H.add _ (by simp only [o2,List.length_cons,List.length_nil];omega)
 have H2:HJ (g2 l n arg nm c []) (n + 1 + 1) (u + 4):=H1.add _ (by simp only [o1,List.length_nil];omega)
 have e:get (g2 l n arg nm c []) (n + 1)=some (o2 nm c []):=get_app_l (get_last H _)
 refine And.intro (tMk H (by omega) ⟨by decide,by decide⟩ (by simp [uMax])) (And.intro (tMk H1 (by omega) ⟨by decide,by decide⟩ (by simp only [uMax];omega)) (And.intro (zPut H2 (by omega) e (by rfl) ?_) trivial))
 show put ((l++[(n + 1,o2 nm c [])])++[(n + 1 + 1,o1 arg)]) (n + 1) (o2 nm c [(vstr sArgs,vr (n + 1 + 1))])=_
 rw [put_app_l (get_last H _),put_last H]
 rfl
def tMd (how:Int) (S T:List UInt8):List (Nat × SV):=(13,.ptr 3 0) :: tM1 how S T
def sMd (how:Int) (S T:List UInt8) (m:Int) (l:Obs) (q:Int):SS:=(mkT (tMd how S T),⟨mkT [(2,wldAt 1 []),(3,actM 2 m)],4,⟨some (1,hZ l q),0,[],[],[]⟩⟩)
def sMe (how:Int) (S T:List UInt8) (m:Int) (l:Obs) (q:Int) (X:List UInt8) (b:Bool):SS:=(mkT ((15,.bool b) :: (16,.str X) :: tMd how S T),⟨mkT [(2,wldAt 1 []),(3,actM 2 m)],4,⟨some (1,hZ l q),0,[],[],[]⟩⟩)
abbrev pM1:List Nat:=[10,11,1,6,7,8]
abbrev pMd:List Nat:=[13,10,11,1,6,7,8]
abbrev pMe:List Nat:=[15,16,13,10,11,1,6,7,8]
abbrev c7:List UInt8:=[58,32,55]
abbrev sAssert:List UInt8:=[65,115,115,101,114,116,105,111,110,69,114,114,111,114]
abbrev l2M (arg:List V) (S:List UInt8) (n:Int):Obs:=g3 (l1M S n) 22 arg S n
abbrev ltM2 (l:Obs) (q k:Int):Obs:=l++[(q + 1,⟨2,[],0,[vr k,vr 17],[]⟩)]
def qSub (o b:Nat) (l:Obs) (n x y:Int):TE:=(o,.res (.bool true) (hZ l n),tRes xSub b (hZ l n) [(vr x).sv,(vr y).sv] (.bool true) (hZ l n))
def tMi (x:Int) (y i:Nat):TL:=[qI 2 (some (.int .i64 (andI x 65535))) (.int .i64 (Int.ofNat y)),qI 5 (some (.int .i64 (Int.tmod (Int.ofNat y) 17))) (.int .i64 (Int.ofNat i))]
end
end Go.Proofs.YtildnolfgdcndaaGreatDoor.W.E
