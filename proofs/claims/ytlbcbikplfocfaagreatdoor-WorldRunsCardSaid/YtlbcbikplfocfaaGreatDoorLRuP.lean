/- LRuP -/
import Derived.Test.YtlbcbikplfocfaaGreatDoorLRuB
set_option linter.unusedVariables false
set_option linter.unusedSimpArgs false
namespace Go.Proofs.YtlbcbikplfocfaaGreatDoor.W.E
section
set_option maxRecDepth 100000
open Go.RowKit
section
variable (p d c:Int) (g:Nat→V) (l:Obs) (m:Int)
theorem fuA:QT fo0 fFu nFu [(0,0),(1,1),(2,2),(3,3),(10,4)] [12,0,3,4,10,11] 5 (kFu.take 3) (fI p d c (hZ l m)) (f1 d c 3 0 ((vnum 5).svc++((vnum p).svc++(vnum d).svc)) l m) .normal []:=by delta QT;kernel_rfl
theorem fuL:QA fo0 fFu nFu [(0,0),(1,1),(2,2),(3,3),(8,4)] [12,0,3,4,10,11] 5 k1Fu (List.range' 3 9) (fun r=>f1 d c r (r - 3) (rwV g r) l m) (fun r=>f1 d c (r + 1) (r - 2) (rwV g r++(vnum (Int.ofNat (97 + r))).svc) l m) .normal (fun r=>[qLt 2 (Int.ofNat (r - 3)) d true]):=by delta QA;kernel_rfl
theorem fuX:QA fo0 fFu nFu [(0,0),(1,1),(2,2),(3,3),(4,4)] [0,3,4,10,11] 5 k1Fu (List.range' 3 10) (fun r=>f1 d c r (r - 3) (rwV g r) l m) (fun r=>fX d c r (rwV g r) l m) (.exit 0) (fun r=>[qLt 2 (Int.ofNat (r - 3)) d false]):=by delta QA;kernel_rfl
theorem fuI:QA fo0 fFu nFu [(0,0),(1,1),(2,2),(3,3),(4,4)] [13,0,3,4,10,11] 5 ((kFu.drop 4).take 1) (List.range' 3 10) (fun r=>fX d c r (rwV g r) l m) (fun r=>f2 d c r 0 (rwV g r) l m) .normal (fun _=>[]):=by delta QA;kernel_rfl
theorem fuC (j:Nat):QA fo0 fFu nFu [(0,0),(1,1),(2,2),(3,3),(14,4)] [13,0,3,4,10,11] 5 k2Fu (List.range' 3 13) (fun r=>f2 d c r j (rwV g r) l m) (fun r=>f2 d c (r + 1) (j + 1) (rwV g r++(vr (m + 1)).svc) (l++[(m + 1,oCe (Int.ofNat j))]) (m + 1)) .normal (fun _=>[qLt 2 (Int.ofNat j) c true,qMk 34 l m 10 [] 0 [vnum (Int.ofNat j)],qInc 39 j]):=by delta QA;kernel_rfl
theorem fuY (j:Nat):QA fo0 fFu nFu [(0,0),(1,1),(2,2),(3,3),(4,4)] [0,3,4,10,11] 5 k2Fu (List.range' 3 14) (fun r=>f2 d c r j (rwV g r) l m) (fun r=>fX d c r (rwV g r) l m) (.exit 2) (fun _=>[qLt 2 (Int.ofNat j) c false]):=by delta QA;kernel_rfl
theorem fuE:QA fo0 fFu nFu [(0,0),(1,1),(2,2),(3,3)] [10] 4 (kFu.drop 6) (List.range' 3 14) (fun r=>fX d c r (rwV g r) l m) (fun r=>fZ (l++[(m + 1,oFn (g 0).n (rwL (fun j=>g (j + 1)) (r - 1)))]) (m + 1) (m + 1)) .ret (fun r=>[qMk 47 l m 4 [102] (g 0).n (rwL (fun j=>g (j + 1)) (r - 1))]):=by delta QA;kernel_rfl
end
theorem ruP (x y0 y1 y2:Int) (b:Bool):PT fo0 fRu nRu [(0,3),(0 + 1,1),(2,2)] [0,2,4,7,8] 4 (kRu.take 5) (SS.tell (initT [.int .i64 x,.agg [.int .i64 y0,.int .i64 y1,.int .i64 y2],.bool b] 0 .e,st0 []) []) (s0 x y0 y1 y2 b) .normal []:=by delta PT;kernel_rfl
theorem ruN (x y0 y1 y2:Int) (b:Bool) (a0 a1 a2 a3 p d c n:Nat):QT fo0 fRu nRu [(1,1),(2,2)] [2,0,7,8,9,10,11] 3 ((kRu.drop 5).take 4) (s0 x y0 y1 y2 b) (s1 (Int.ofNat p) (Int.ofNat d) (Int.ofNat c) (Int.ofNat n) b) .normal [qI 1 (some (.int .i64 (andI x 65535))) (.int .i64 (Int.ofNat a0)),qI 2 (some (.int .i64 (Int.tmod (Int.ofNat a0) 10))) (.int .i64 (Int.ofNat p)),qI 5 (some (.int .i64 (andI y0 65535))) (.int .i64 (Int.ofNat a1)),qInc 7 p,qI 8 (some (.int .i64 (Int.tmod (Int.ofNat a1) (Int.ofNat (p + 1))))) (.int .i64 (Int.ofNat d)),qI 11 (some (.int .i64 (andI y1 65535))) (.int .i64 (Int.ofNat a2)),qI 12 (some (.int .i64 (Int.tmod (Int.ofNat a2) 5))) (.int .i64 (Int.ofNat c)),qI 15 (some (.int .i64 (andI y2 65535))) (.int .i64 (Int.ofNat a3)),qI 16 (some (.int .i64 (Int.tmod (Int.ofNat a3) 13))) (.int .i64 (Int.ofNat n))]:=by delta QT;kernel_rfl
theorem ruF (p d c n:Int) (b:Bool) (F:Int) (l l':Obs) (m m':Int):QTX (extC fFu extS) fo0 fRu nRu [(1,1),(2,2),(3,3)] [12,2,0,7,8,9,10,11] 4 ((kRu.drop 9).take 1) (s1 p d c n b) (s2 p d c n b F l' m') .normal [qCall 4 fFu [.ptr 2 0,.int .i64 5,.int .i64 p,.int .i64 d,.int .i64 c] [(2,some (wldAt 1 []))] 1 (hZ (lZ [] []) 20) (vr F).sv (hZ l' m')]:=by delta QTX;kernel_rfl
theorem ruI (p d c:Int) (b:Bool) (F:Int) (l:Obs) (m:Int):QOB extS fo0 (fun n=>[(1,1),(2,2),(3,3),((4 + 4 * n),4),((5 + 4 * n),5)]) [12,13,14,2,0,7,8,9,10,11] 6 (fun _=>[]) (fun _=>[]) ((kRu.drop 10).take 2) (List.range 13) (fun n=>s2 p d c (Int.ofNat n) b F l m) (fun n=>(s3 [] p d c (Int.ofNat n) b n (ckN n) F l m).wR 4 (rwV gN n) tyV) .normal (fun _=>[]):=by delta QOB;kernel_rfl
section
variable (rs:List SV) (p d c n:Int) (r:Nat) (ck:Option Nat) (F:Int) (l:Obs) (m:Int)
theorem ruU:QTX extS (foW fo0 4 rs) fRu nRu [(1,1),(2,2),(4,4),(5,5)] [13,14,0,7,8,9,10,11] 6 ((kRu.drop 12).take 2) (s3 [] p d c n false r ck F l m) (s4 p d c n r ck F l m) .normal []:=by delta QTX;kernel_rfl
theorem ruB:QTX extS (foW fo0 4 rs) fRu nRu [(1,1),(2,2),(3,3),(4,4),(5,5)] [49,12,13,14,2,0,7,8,9,10,11] 6 ((kRu.drop 12).take 1) (s3 [] p d c n true r ck F l m) (s3 [(49,.bool true)] p d c n true r ck F l m) .normal []:=by delta QTX;kernel_rfl
end
abbrev sC1:List UInt8:=[67]
abbrev sM:List UInt8:=[109]
abbrev oTu:Ob:=⟨2,[],0,[],[]⟩
abbrev oSpR:Ob:=⟨3,[],0,[],[]⟩
abbrev oInR (c:Int):Ob:=⟨6,sC1,0,[vr c],[]⟩
abbrev oBo (o F:Int):Ob:=⟨7,[102],0,[vr o,vr F],[]⟩
abbrev r1 (z:Obs) (m:Int):Obs:=lZ [] z++[(m + 1,oTu)]
abbrev r2 (z:Obs) (m:Int):Obs:=r1 z m++[(m + 1 + 1,oSpR)]
abbrev r3 (z:Obs) (m:Int):Obs:=r2 z m++[(m + 1 + 1 + 1,oCl sC1 [])]
abbrev r4 (z:Obs) (m F:Int):Obs:=r2 z m++[(m + 1 + 1 + 1,oCl sC1 [(vstr sM,vr F)])]
abbrev r5 (z:Obs) (m F:Int):Obs:=r4 z m F++[(m + 1 + 1 + 1 + 1,oInR (m + 1 + 1 + 1))]
abbrev r6 (z:Obs) (m F:Int):Obs:=r5 z m F++[(m + 1 + 1 + 1 + 1 + 1,oBo (m + 1 + 1 + 1 + 1) F)]
def qFindR (o b:Nat) (l:Obs) (n m:Int) (s:List UInt8) (x:V) (t:Bool):TE:=(o,.res (vt x t) (hZ l n),tRes xFind b (hZ l n) [(vr m).sv,.str s] (vt x t) (hZ l n))
def qSubR (o b:Nat) (l:Obs) (n x y:Int):TE:=(o,.res (.bool false) (hZ l n),tRes xSub b (hZ l n) [(vr x).sv,(vr y).sv] (.bool false) (hZ l n))
theorem zItems' {l:Obs} {n m:Int} {o:Ob} (e:get l m=some o) {xs:List V} (h:o.items=xs):(hZ l n).items (vr m)=xs:=by unfold Hp.items;rw [of_vr,e];exact h
def tRuM (z:Obs) (m F:Int):TL:=[qMk 29 (lZ [] z) m 2 [] 0 [],
 qMk 52 (r1 z m) (m + 1) 3 [] 0 [],
 qKind 83 1 (r2 z m) (m + 1 + 1) (m + 1) 2,
 qItems 104 (r2 z m) (m + 1 + 1) (m + 1) [],
 qCls 113 (r2 z m) (m + 1 + 1) sC1 (m + 1 + 1) [],
 qAt 166 1 (r3 z m) (m + 1 + 1 + 1) (m + 1 + 1 + 1) 0 V.nil false,
 qKind 172 1 (r3 z m) (m + 1 + 1 + 1) (m + 1 + 1 + 1) 5,
 qKind 188 1 (r3 z m) (m + 1 + 1 + 1) (m + 1 + 1 + 1) 5,
 qPut 200 1 (r3 z m) (m + 1 + 1 + 1) (m + 1 + 1 + 1) (vstr sM) (vr F) (r4 z m F),
 qItems 258 (r4 z m F) (m + 1 + 1 + 1) (m + 1 + 1 + 1) [],
 qKind 263 1 (r4 z m F) (m + 1 + 1 + 1) (m + 1 + 1 + 1) 5,
 qKind 286 1 (r4 z m F) (m + 1 + 1 + 1) (m + 1 + 1 + 1) 5,
 qFindR 298 1 (r4 z m F) (m + 1 + 1 + 1) (m + 1 + 1 + 1) [95,95,105,110,105,116,95,95] V.nil false,
 qSubR 339 1 (r4 z m F) (m + 1 + 1 + 1) (m + 1 + 1 + 1) 2,
 qKind 360 1 (r4 z m F) (m + 1 + 1 + 1) (m + 1 + 1 + 1) 5,
 qName 367 1 (r4 z m F) (m + 1 + 1 + 1) (m + 1 + 1 + 1) sC1,
 qMk 370 (r4 z m F) (m + 1 + 1 + 1) 6 sC1 0 [vr (m + 1 + 1 + 1)],
 qKind 415 1 (r5 z m F) (m + 1 + 1 + 1 + 1) (m + 1 + 1 + 1 + 1) 6,
 qKind 422 1 (r5 z m F) (m + 1 + 1 + 1 + 1) (m + 1 + 1 + 1 + 1) 6,
 qKind 518 1 (r5 z m F) (m + 1 + 1 + 1 + 1) (m + 1 + 1 + 1 + 1) 6,
 qAt 525 1 (r5 z m F) (m + 1 + 1 + 1 + 1) (m + 1 + 1 + 1 + 1) 0 (vr (m + 1 + 1 + 1)) true,
 qKind 531 1 (r5 z m F) (m + 1 + 1 + 1 + 1) (m + 1 + 1 + 1 + 1) 6,
 qKind 537 1 (r5 z m F) (m + 1 + 1 + 1 + 1) (m + 1 + 1 + 1) 5,
 qGet 556 1 (r5 z m F) (m + 1 + 1 + 1 + 1) (m + 1 + 1 + 1 + 1) (vstr sM) V.nil false,
 qAt 569 1 (r5 z m F) (m + 1 + 1 + 1 + 1) (m + 1 + 1 + 1 + 1) 0 (vr (m + 1 + 1 + 1)) true,
 qKind 575 1 (r5 z m F) (m + 1 + 1 + 1 + 1) (m + 1 + 1 + 1 + 1) 6,
 qKind 581 1 (r5 z m F) (m + 1 + 1 + 1 + 1) (m + 1 + 1 + 1) 5,
 qFindR 599 1 (r5 z m F) (m + 1 + 1 + 1 + 1) (m + 1 + 1 + 1) sM (vr F) true,
 qKind 609 1 (r5 z m F) (m + 1 + 1 + 1 + 1) F 4,
 qName 614 1 (r5 z m F) (m + 1 + 1 + 1 + 1) F [102],
 qMk 619 (r5 z m F) (m + 1 + 1 + 1 + 1) 7 [102] 0 [vr (m + 1 + 1 + 1 + 1),vr F]]
theorem tRuM_ok {z:Obs} {m F:Int} {u:Nat} {xs:List V} (H0:HJ (lZ [] z) m u) (hu:u + 300≤uMax) (eF0:get (lZ [] z) F=some (oFn 5 xs)):(tRuM z m F).ok:=by
 have H1:HJ (r1 z m) (m + 1) (u + 1):=H0.add _ (by simp)
 have H2:HJ (r2 z m) (m + 1 + 1) (u + 2):=H1.add _ (by simp)
 have H3:HJ (r3 z m) (m + 1 + 1 + 1) (u + 3):=H2.add _ (by simp)
 have H4:HJ (r4 z m F) (m + 1 + 1 + 1) (u + 4):=H2.add _ (by simp)
 have H5:HJ (r5 z m F) (m + 1 + 1 + 1 + 1) (u + 6):=H4.add _ (by simp)
 have eT1:=get_last H0 oTu
 have eS2:=get_last H1 oSpR
 have eC3:=get_last H2 (oCl sC1 [])
 have eC4:=get_last H2 (oCl sC1 [(vstr sM,vr F)])
 have eO5:=get_last H4 (oInR (m + 1 + 1 + 1))
 have eT2:=get_app_l (t:=[(m + 1 + 1,oSpR)]) eT1
 have eC5:=get_app_l (t:=[(m + 1 + 1 + 1 + 1,oInR (m + 1 + 1 + 1))]) eC4
 have eF1:=get_app_l (t:=[(m + 1,oTu)]) eF0
 have eF2:=get_app_l (t:=[(m + 1 + 1,oSpR)]) eF1
 have eF4:=get_app_l (t:=[(m + 1 + 1 + 1,oCl sC1 [(vstr sM,vr F)])]) eF2
 have eF5:=get_app_l (t:=[(m + 1 + 1 + 1 + 1,oInR (m + 1 + 1 + 1))]) eF4
 unfold tRuM
 exact And.intro (tMk H0 (by omega) ⟨by decide,by decide⟩ (by simp [uMax])) (And.intro (tMk H1 (by omega) ⟨by decide,by decide⟩ (by simp [uMax])) (And.intro (zKind eT2 rfl) (And.intro (zItems' eT2 rfl) (And.intro (zClass H2 (by omega) eS2 rfl (fun p hp=>by cases hp) (by simp) (by decide) sC1 rfl) (And.intro (zAtN eC3 (.inr (by decide))) (And.intro (zKind eC3 rfl) (And.intro (zKind eC3 rfl) (And.intro (zPut H3 (by omega) eC3 rfl (put_last H2 _ _)) (And.intro (zItems' eC4 rfl) (And.intro (zKind eC4 rfl) (And.intro (zKind eC4 rfl) (And.intro (zFindN eC4 rfl) (And.intro (zSubN eC4 (by have:=H0.lo;omega)) (And.intro (zKind eC4 rfl) (And.intro (zName eC4 rfl) (And.intro (tMk H4 (by omega) ⟨by decide,by decide⟩ (by simp [uMax])) (And.intro (zKind eO5 rfl) (And.intro (zKind eO5 rfl) (And.intro (zKind eO5 rfl) (And.intro (zAt eO5 (i:=0) rfl) (And.intro (zKind eO5 rfl) (And.intro (zKind eC5 rfl) (And.intro (zGetN eO5 rfl) (And.intro (zAt eO5 (i:=0) rfl) (And.intro (zKind eO5 rfl) (And.intro (zKind eC5 rfl) (And.intro (zFind eC5 rfl) (And.intro (zKind eF5 rfl) (And.intro (zName eF5 rfl) (And.intro (tMk H5 (by omega) ⟨by decide,by decide⟩ (by simp [uMax])) (trivial)))))))))))))))))))))))))))))))
theorem ruM (rs:List SV) (p d c n:Int) (r:Nat) (ck:Option Nat) (F:Int) (z:Obs) (m:Int):QTX extCl (foW fo0 4 rs) fRu nRu [(1,1),(2,2),(84,3),(4,4),(5,5)] [13,14,16,0,7,8,9,10,11] 6 (kbRu.take 4) (s3 [(49,.bool true)] p d c n true r ck F (lZ [] z) m) (s3b p d c n r ck (m + 1 + 1 + 1 + 1) (m + 1 + 1 + 1 + 1 + 1) (r6 z m F) (m + 1 + 1 + 1 + 1 + 1)) .normal (tRuM z m F):=by delta QTX;kernel_rfl
theorem ruA (p d c:Int) (O Bo:Int) (l:Obs) (m:Int):QOB extS fo0 (fun n=>[(1,1),(2,2),((bif Nat.beq n 0 then 6 else 7),4),(5,5)]) [13,14,0,7,8,9,10,11] 6 (fun _=>[]) (fun _=>[]) (kbRu.drop 4) (List.range 13) (fun n=>(s3b p d c (Int.ofNat n) n (ckN n) O Bo l m).wR 4 (rwV gN n) tyV) (fun n=>(s4 p d c (Int.ofNat n) (n + 1) (ckB n) Bo l m).wR 4 (rwV (gB O) (n + 1)) tyV) .normal (fun _=>[]):=by delta QOB;kernel_rfl
end
end Go.Proofs.YtlbcbikplfocfaaGreatDoor.W.E
