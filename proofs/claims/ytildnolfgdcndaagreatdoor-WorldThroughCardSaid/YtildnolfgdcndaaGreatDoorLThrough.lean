/- LThrough -/
import Derived.Test.YtildnolfgdcndaaGreatDoorLThP
import Derived.Test.YtildnolfgdcndaaGreatDoorLThQ
import Derived.Test.YtildnolfgdcndaaGreatDoorLThA
import Derived.Test.YtildnolfgdcndaaGreatDoorLThC
import Derived.Test.YtildnolfgdcndaaGreatDoorLThD
import Derived.Test.YtildnolfgdcndaaGreatDoorLThG
import Derived.Test.YtildnolfgdcndaaGreatDoorPart27
set_option linter.unusedVariables false
set_option linter.unusedSimpArgs false
namespace Go.Proofs.YtildnolfgdcndaaGreatDoor.W.E
section
set_option maxRecDepth 100000
open Go.RowKit
abbrev okTh (l:List Code):Prop:=(l.all fun c=>planOkC (plan fTh) c)=true
abbrev okAl (l:List Code):Prop:=(l.all fun c=>planOkC (plan fAl) c)=true
theorem thPlP:okTh (kTh.take 7):=by delta okTh;kernel_rfl
theorem thPlN:okTh (kTh):=by delta okTh;kernel_rfl
theorem thPl1:okTh (k1Th):=by delta okTh;kernel_rfl
theorem thPlM:okTh ((kTh.drop 8).take 4):=by delta okTh;kernel_rfl
theorem thPlI:okTh ((kTh.drop 12).take 6):=by delta okTh;kernel_rfl
theorem thPlT:okTh (k2Th.take 2):=by delta okTh;kernel_rfl
theorem thPlB:okTh (kbTh.take 2):=by delta okTh;kernel_rfl
theorem thPlC:okTh (kbTh.drop 2):=by delta okTh;kernel_rfl
theorem thPlU:okTh (k2Th.drop 3):=by delta okTh;kernel_rfl
theorem thPlV:okTh ((kTh.drop 19).take 1):=by delta okTh;kernel_rfl
theorem thPl3:okTh (k3Th):=by delta okTh;kernel_rfl
theorem thPlZ:okTh (kTh.drop 21):=by delta okTh;kernel_rfl
theorem thPlL:okTh ((kTh.drop 21).take 1):=by delta okTh;kernel_rfl
theorem thPlK:okTh ((kTh.drop 22).take 1):=by delta okTh;kernel_rfl
theorem thPlG:okTh ((kTh.drop 23).take 1):=by delta okTh;kernel_rfl
theorem thPlE:okTh (kTh.drop 24):=by delta okTh;kernel_rfl
theorem alPlA:okAl (kAl.take 7):=by delta okAl;kernel_rfl
theorem alPlN:okAl ((kAl.drop 7).take 1):=by delta okAl;kernel_rfl
theorem alPl1:okAl (k1Al):=by delta okAl;kernel_rfl
theorem alPlZ:okAl (kAl.drop 9):=by delta okAl;kernel_rfl
theorem kT21:(kTh.drop 21).take 1++((kTh.drop 22).take 1++((kTh.drop 23).take 1++kTh.drop 24))=kTh.drop 21:=by kernel_rfl
theorem rowEq64 (b n i:Nat) (ck:Option Nat):indexAddrV Tryz.prog 22 (.sl b 0 n 1 ck) (.int .i64 (Int.ofNat i))=(match natIx (Int.ofNat i) n with
  | some k=>(match szT Tryz.prog 2 with
   | some s=>bif Nat.beq s 1 then some (SV.ptr b (0 + k * 1)) else none
   | none=>none)
  | none=>none):=by kernel_rfl
theorem rowAt64 (b:Nat) {n i:Nat} (ck:Option Nat) (hi:i < n):indexAddrV Tryz.prog 22 (.sl b 0 n 1 ck) (.int .i64 (Int.ofNat i))=some (.ptr b i):=by
 have hs:szT Tryz.prog 2=some 1:=by kernel_rfl
 rw [rowEq64,natIx_lt hi]
 simp only [hs]
 simp
theorem thEV (x:Int):binV Tryz.prog .eql 28 false (vI x) (vI x)=some (.bool true):=by
 have key:∃ F:Bool→Option SV,binV Tryz.prog .eql 28 false (vI x) (vI x)=F (x == x)∧F true=some (.bool true) :=
  ⟨fun b=>match (match some b with | some true=>some true | some false=>some false | none=>none) with | some r=>some (.bool r) | none=>none,by kernel_rfl,rfl⟩
 obtain ⟨F,h1,h2⟩:=key
 rw [h1,beq_iff_eq.2 rfl,h2]
theorem thNR {x y:Int} (h:¬ x=y):binV Tryz.prog .neq 28 false (vr x).sv (vr y).sv=some (.bool true):=by
 have key:∃ F:Bool→Option SV,binV Tryz.prog .neq 28 false (vr x).sv (vr y).sv=F (x == y)∧F false=some (.bool true) :=
  ⟨fun b=>match (match some b with | some true=>some true | some false=>some false | none=>none) with | some r=>some (.bool (!r)) | none=>none,by kernel_rfl,rfl⟩
 obtain ⟨F,h1,h2⟩:=key
 rw [h1,beq_eq_false_iff_ne.2 h,h2]
theorem TL.ok_map {α:Type} (f:α→TE) (h:∀ a,(f a).2.2):∀ l:List α,TL.ok (l.map f)
 | []=>trivial
 | a :: t=>And.intro (h a) (TL.ok_map f h t)
theorem rwV_succ (g:Nat→Int) (r:Nat):rwV g (r + 1)=rwV g r++[.int .i64 2,.int .i64 (g r),.str []]:=by
 unfold rwV;rw [List.range_succ,List.flatMap_append];rfl
theorem rwV_plain (g:Nat→Int) (r:Nat):∀ v∈rwV g r,v.plain=true:=fun v hv=>by
 obtain ⟨j,-,hj⟩:=List.mem_flatMap.1 hv
 simp only [List.mem_cons,List.mem_nil_iff,or_false] at hj
 rcases hj with rfl | rfl | rfl<;>rfl
theorem rwL_len (g:Nat→Int) (r:Nat):(rwL g r).length=r:=by simp [rwL]
theorem rwL_at (g:Nat→Int) {r i:Nat} (h:i < r):(rwL g r)[i]?=some (vnum (g i)):=by
 unfold rwL;rw [List.getElem?_map,List.getElem?_range h];rfl
theorem ofN_lt {a b:Nat} (h:a < b):Int.ofNat a < Int.ofNat b:=by simp only [Int.ofNat_eq_natCast];omega
theorem ofN_nlt {a b:Nat} (h:b≤a):¬ Int.ofNat a < Int.ofNat b:=by simp only [Int.ofNat_eq_natCast];omega
theorem ofN_0 (a:Nat):¬ Int.ofNat a < 0:=by simp only [Int.ofNat_eq_natCast];omega
theorem thInc {i:Nat} (h:i≤1000):some (SV.int .i64 (wrapF .i64 (Int.add (Int.ofNat i) 1)))=some (SV.int .i64 (Int.ofNat (i + 1))):=o_add (by simp only [Int.ofNat_eq_natCast];omega)
theorem zItems {l:Obs} {n m:Int} {o:Ob} (e:get l m=some o) {xs:List V} (h:o.items=xs):(hZ l n).items (vr m)=xs:=by unfold Hp.items;rw [of_vr,e];exact h
section
variable {k:Int} {R:List V} {a b:Nat} {z y:Obs}
theorem lI_21:get (lI k R a b z) 21=some ⟨k,[],0,R,[]⟩:=by kernel_rfl
theorem lI_22:get (lI k R a b z) 22=some (wk a):=by kernel_rfl
theorem lI_23:get (lI k R a b z) 23=some (wk b):=by kernel_rfl
theorem lI_p22 (c:Nat):put (lI k R a b z) 22 (wk c)=lI k R c b z:=by kernel_rfl
theorem lI_p23 (c:Nat):put (lI k R a b z) 23 (wk c)=lI k R a c z:=by kernel_rfl
theorem lI_app:lI k R a b z++y=lI k R a b (z++y):=by
 unfold lI;rw [List.append_assoc];rfl
theorem HJ.p22 {m:Int} {u:Nat} (H:HJ (lI k R a b z) m u) (c:Nat):HJ (lI k R c b z) m u:=by
 rw [← lI_p22 (a:=a)];exact H.set lI_22 _ (by simp [wk]) (Nat.le_refl _)
theorem HJ.p23 {m:Int} {u:Nat} (H:HJ (lI k R a b z) m u) (c:Nat):HJ (lI k R a c z) m u:=by
 rw [← lI_p23 (b:=b)];exact H.set lI_23 _ (by simp [wk]) (Nat.le_refl _)
theorem HJ.lT (h:R.length≤60):HJ (E.lT k R) 21 161:=HJ.zero.add (⟨k,[],0,R,[]⟩:Ob) (by simp only [List.length_nil];omega)
theorem HJ.lI0 (h:R.length≤60):HJ (lI k R 0 0 []) 23 200:=by
 have H:=HJ.lT (k:=k) h
 have H1:HJ (E.lT k R++[(21 + 1,wk 0)]) (21 + 1) 170:=H.add _ (by simp [wk])
 have H2:HJ (E.lT k R++[(21 + 1,wk 0)]++[(21 + 1 + 1,wk 0)]) (21 + 1 + 1) 200:=H1.add _ (by simp [wk])
 exact H2
theorem lA_it {n:Nat} {m:Int} {u:Nat} (H:HJ (lI k R n n z) m u):get (lA k R n z m a) (m + 1)=some (wk a):=get_last H _
theorem lA_21 {n:Nat} {m:Int}:get (lA k R n z m a) 21=some ⟨k,[],0,R,[]⟩:=get_app_l lI_21
theorem lA_put {n:Nat} {m:Int} {u:Nat} (H:HJ (lI k R n n z) m u) (c:Nat):put (lA k R n z m a) (m + 1) (wk c)=lA k R n z m c:=put_last H _ _
theorem HJ.lA {n:Nat} {m:Int} {u:Nat} (H:HJ (lI k R n n z) m u) (a:Nat):HJ (E.lA k R n z m a) (m + 1) (u + 3):=H.add _ (by simp [wk])
end
section
variable {w0:B0} {cs:List Int} (hH:Hd w0 (foC (csV cs)) 1) {g:Nat→Int} {r:Nat}
include hH in
theorem thFr {live:Live} {keep:List Nat} {nx:Nat} {l:List Code} {s s2:SS} {x:Ex} {tl:TL} (h:QT (foW (foC (csV cs)) 3 (rwV g r)) fTh nTh live keep nx l s s2 x tl) (hp:okTh l) (ht:tl.ok)
  (h0:(0,0)∈live) (h3:(3,3)∈live) (hm:s.2.m.get 3=none) {q:Nat} {ck:Option Nat} (ht0:s.1.get 7=some (.sl 3 0 q 3 ck)) :
  CodeL w0 nTh l (s.w3 (rwV g r)).1 (s.w3 (rwV g r)).2 (fun x' tm' st'=>x'=x∧tm'=(s2.w3 (rwV g r)).1∧st'=(s2.w3 (rwV g r)).2) :=
 QT.frame hH _ h hp ht (hidC h0) h3 (rwV_plain g r) hm (by omega) ht0
include hH in
theorem thFrX {ext:ExtT} (hx:∀ f h,ext f=some h→extP f h) {live:Live} {keep:List Nat} {nx:Nat} {l:List Code} {s s2:SS} {x:Ex} {tl:TL} (h:QTX ext (foW (foC (csV cs)) 3 (rwV g r)) fTh nTh live keep nx l s s2 x tl) (hp:okTh l) (ht:tl.ok)
  (h0:(0,0)∈live) (h3:(3,3)∈live) (hm:s.2.m.get 3=none) {q:Nat} {ck:Option Nat} (ht0:s.1.get 7=some (.sl 3 0 q 3 ck)) :
  CodeL w0 nTh l (s.w3 (rwV g r)).1 (s.w3 (rwV g r)).2 (fun x' tm' st'=>x'=x∧tm'=(s2.w3 (rwV g r)).1∧st'=(s2.w3 (rwV g r)).2):=by
 obtain ⟨tm,m,nx0,hx1⟩:=s
 obtain ⟨tm2,m2,nx2,hx2⟩:=s2
 have hnx:nx=nx2:=by
  have h2:=h
  unfold QTX outC outD at h2
  split at h2
  ·injection h2 with h2
   injection h2 with h3 h2
   injection h2 with h4 h5
   unfold E.gc at h4
   cases hl:liveOk nx live with
   | false=>rw [hl] at h4;cases h4
   | true =>
    rw [hl,cond_true] at h4
    split at h4
    ·split at h4
     ·split at h4
      ·cases h4;rfl
      ·cases h4
     ·cases h4
    ·cases h4
  ·cases h2
 subst hnx
 exact CodeL.sc (x':=⟨hx1.h,0,tl.sc,[],[]⟩) rfl (CodeL.frame hH hx hp h (TL.ps_all tl [] ht trivial) (hidC h0) h3 (rwV_plain g r) hm (by omega) ht0)
end
section
variable {w0:B0} {cs:List Int} (hH:Hd w0 (foC (csV cs)) 1) {n:Nat} (hn:n * 1≤cs.length)
abbrev gT (cs:List Int) (j:Nat):Int:=cs.getD j 0
theorem gT_at {cs:List Int} {j:Nat} (h:j < cs.length):cs[j]?=some (gT cs j):=by
 rw [List.getElem?_eq_getElem h];simp [gT,List.getD,h]
include hH hn in
theorem thLoop1 (tu:Bool):CodeQ w0 nTh (.loop b1Th) ((s1 n tu 0 0 (some 0)).w3 []).1 ((s1 n tu 0 0 (some 0)).w3 []).2 fun x tm st=>x=.exit 0∧∃ r,r≤60∧tm=((s1 n tu r r (ckT r)).w3 (rwV (gT cs) r)).1∧st=((s1 n tu r r (ckT r)).w3 (rwV (gT cs) r)).2:=by
 refine CodeQ.loop (α:=Nat) (S:=fun r=>(s1 n tu r r (ckT r)).w3 (rwV (gT cs) r)) (Inv:=fun r=>r≤60) (μ:=fun r=>60 - r) (fun r hr=>?_) 0 (Nat.zero_le _)
 replace hr:r≤60:=hr
 refine CodeL.code ?_
 show CodeL w0 nTh k1Th _ _ _
 by_cases hi:r < n
 ·have t1:=o_lt (ofN_lt hi)
  have a:=rowAt64 0 none hi
  have d:=csV_at (gT_at (cs:=cs) (j:=r) (by omega))
  by_cases h60:r=60
  ·subst h60
   refine (QT.code hH (thG (csV cs) n tu (gT cs)) thPl1 (And.intro t1 trivial) (hidC (by simp))).mono ?_
   rintro x tm st ⟨rfl,rfl,rfl⟩
   exact .inr ⟨by simp,rfl,60,Nat.le_refl _,rfl,rfl⟩
  ·cases r with
   | zero =>
    refine (QT.code hH (thA0 (csV cs) n tu (gT cs 0)) thPl1 (And.intro t1 (And.intro a (And.intro d trivial))) (hidC (by simp))).mono ?_
    rintro x tm st ⟨rfl,rfl,rfl⟩
    exact .inl ⟨rfl,1,by show 1≤60;omega,by show 60 - 1 < 60 - 0;omega,rfl,rfl⟩
   | succ q =>
    refine (QT.code hH ((thA (csV cs) n tu (gT cs) (gT cs (q + 1))).at (List.mem_range'_1.2 ⟨by omega,by omega⟩)) thPl1 (And.intro t1 (And.intro a (And.intro d trivial))) (hidC (by simp))).mono ?_
    rintro x tm st ⟨rfl,rfl,rfl⟩
    refine .inl ⟨rfl,q + 1 + 1,by show q + 1 + 1≤60;omega,by show 60 - (q + 1 + 1) < 60 - (q + 1);omega,?_,?_⟩
    ·show ((s1 n tu (q + 1 + 1) (q + 1 + 1) none).w3 _).1=((s1 n tu (q + 1 + 1) (q + 1 + 1) none).w3 _).1
     rfl
    ·show ((s1 n tu (q + 1 + 1) (q + 1 + 1) none).w3 _).2=((s1 n tu (q + 1 + 1) (q + 1 + 1) none).w3 _).2
     rw [rwV_succ (gT cs) (q + 1)]
 ·have t1:=o_nlt (fun h=>hi (Int.ofNat_lt.1 h))
  refine (QT.code hH ((thF (csV cs) n tu (gT cs)).at (List.mem_range.2 (Nat.lt_succ_of_le hr))) thPl1 (And.intro t1 trivial) (hidC (by simp))).mono ?_
  rintro x tm st ⟨rfl,rfl,rfl⟩
  exact .inr ⟨by simp,rfl,r,hr,rfl,rfl⟩
end
theorem prs_mem {lo n r i:Nat} (h1:lo≤r) (h2:r < lo + n) (hi:i < r):r * 64 + i∈prs lo n :=
 List.mem_flatMap.2 ⟨r,List.mem_range'_1.2 ⟨h1,h2⟩,List.mem_map.2 ⟨i,List.mem_range.2 hi,rfl⟩⟩
theorem thC {cs:List SV} {g:Nat→Int} {l:Obs} {m:Int} {r i:Nat} (h60:r≤60) (hi:i < r):QT (foC cs) fTh nTh [(0,0),(1,1),(2,2),(3,3),(4,4),(5,5),(6,6)] [14,10,11,12,4,5,6,7] 7 (kbTh.drop 2) ((s2b i r none l m (g i)).w3 (rwV g r)) ((s2 14 i r none l m).w3 (rwV g r)) .normal [qNV 7 (g i),qNV 18 (g i)]:=by
 have e1:(r * 64 + i) % 64=i:=by omega
 have e2:(r * 64 + i) / 64=r:=by omega
 rcases (by omega:r < 21∨(21≤r∧r < 30)∨(30≤r∧r < 36)∨(36≤r∧r < 41)∨(41≤r∧r < 46)∨(46≤r∧r < 50)∨(50≤r∧r < 54)∨(54≤r∧r < 58)∨(58≤r∧r < 61)) with h | h | h | h | h | h | h | h | h
 ·have q:=(thC0 cs g l m).at (prs_mem (lo:=1) (n:=20) (by omega) (by omega) hi)
  simp only [e1,e2] at q;exact q
 ·have q:=(thC1 cs g l m).at (prs_mem (lo:=21) (n:=9) (by omega) (by omega) hi)
  simp only [e1,e2] at q;exact q
 ·have q:=(thC2 cs g l m).at (prs_mem (lo:=30) (n:=6) (by omega) (by omega) hi)
  simp only [e1,e2] at q;exact q
 ·have q:=(thC3 cs g l m).at (prs_mem (lo:=36) (n:=5) (by omega) (by omega) hi)
  simp only [e1,e2] at q;exact q
 ·have q:=(thC4 cs g l m).at (prs_mem (lo:=41) (n:=5) (by omega) (by omega) hi)
  simp only [e1,e2] at q;exact q
 ·have q:=(thC5 cs g l m).at (prs_mem (lo:=46) (n:=4) (by omega) (by omega) hi)
  simp only [e1,e2] at q;exact q
 ·have q:=(thC6 cs g l m).at (prs_mem (lo:=50) (n:=4) (by omega) (by omega) hi)
  simp only [e1,e2] at q;exact q
 ·have q:=(thC7 cs g l m).at (prs_mem (lo:=54) (n:=4) (by omega) (by omega) hi)
  simp only [e1,e2] at q;exact q
 ·have q:=(thC8 cs g l m).at (prs_mem (lo:=58) (n:=3) (by omega) (by omega) hi)
  simp only [e1,e2] at q;exact q
theorem thG' {cs:List SV} {g:Nat→Int} {l:Obs} {m c:Int} {r:Nat} (h1:1≤r) (h60:r≤60):QT (foC cs) fTh nTh [(0,0),(1,1),(2,2),(3,3),(4,4),(5,5),(6,6),(7,7)] [10,19,20,21,4,5,6,7] 8 ((kTh.drop 23).take 1) ((s7 r none l m c).w3 (rwV g r)) ((s8 r none (ltH g l m r) (m + 1) c).w3 (rwV g r)) .normal (tThG g l m c r):=by
 rcases (by omega:r < 8∨(8≤r∧r < 13)∨(13≤r∧r < 17)∨(17≤r∧r < 20)∨(20≤r∧r < 23)∨(23≤r∧r < 26)∨(26≤r∧r < 29)∨(29≤r∧r < 31)∨(31≤r∧r < 33)∨(33≤r∧r < 35)∨(35≤r∧r < 37)∨(37≤r∧r < 39)∨(39≤r∧r < 41)∨(41≤r∧r < 43)∨(43≤r∧r < 45)∨(45≤r∧r < 47)∨(47≤r∧r < 48)∨(48≤r∧r < 49)∨(49≤r∧r < 50)∨(50≤r∧r < 51)∨(51≤r∧r < 52)∨(52≤r∧r < 53)∨(53≤r∧r < 54)∨(54≤r∧r < 55)∨(55≤r∧r < 56)∨(56≤r∧r < 57)∨(57≤r∧r < 58)∨(58≤r∧r < 59)∨(59≤r∧r < 60)∨(60≤r∧r < 61)) with h | h | h | h | h | h | h | h | h | h | h | h | h | h | h | h | h | h | h | h | h | h | h | h | h | h | h | h | h | h
 ·exact (thG0 cs g l m c).at (List.mem_range'_1.2 ⟨by omega,by omega⟩)
 ·exact (thG1 cs g l m c).at (List.mem_range'_1.2 ⟨by omega,by omega⟩)
 ·exact (thG2 cs g l m c).at (List.mem_range'_1.2 ⟨by omega,by omega⟩)
 ·exact (thG3 cs g l m c).at (List.mem_range'_1.2 ⟨by omega,by omega⟩)
 ·exact (thG4 cs g l m c).at (List.mem_range'_1.2 ⟨by omega,by omega⟩)
 ·exact (thG5 cs g l m c).at (List.mem_range'_1.2 ⟨by omega,by omega⟩)
 ·exact (thG6 cs g l m c).at (List.mem_range'_1.2 ⟨by omega,by omega⟩)
 ·exact (thG7 cs g l m c).at (List.mem_range'_1.2 ⟨by omega,by omega⟩)
 ·exact (thG8 cs g l m c).at (List.mem_range'_1.2 ⟨by omega,by omega⟩)
 ·exact (thG9 cs g l m c).at (List.mem_range'_1.2 ⟨by omega,by omega⟩)
 ·exact (thG10 cs g l m c).at (List.mem_range'_1.2 ⟨by omega,by omega⟩)
 ·exact (thG11 cs g l m c).at (List.mem_range'_1.2 ⟨by omega,by omega⟩)
 ·exact (thG12 cs g l m c).at (List.mem_range'_1.2 ⟨by omega,by omega⟩)
 ·exact (thG13 cs g l m c).at (List.mem_range'_1.2 ⟨by omega,by omega⟩)
 ·exact (thG14 cs g l m c).at (List.mem_range'_1.2 ⟨by omega,by omega⟩)
 ·exact (thG15 cs g l m c).at (List.mem_range'_1.2 ⟨by omega,by omega⟩)
 ·exact (thG16 cs g l m c).at (List.mem_range'_1.2 ⟨by omega,by omega⟩)
 ·exact (thG17 cs g l m c).at (List.mem_range'_1.2 ⟨by omega,by omega⟩)
 ·exact (thG18 cs g l m c).at (List.mem_range'_1.2 ⟨by omega,by omega⟩)
 ·exact (thG19 cs g l m c).at (List.mem_range'_1.2 ⟨by omega,by omega⟩)
 ·exact (thG20 cs g l m c).at (List.mem_range'_1.2 ⟨by omega,by omega⟩)
 ·exact (thG21 cs g l m c).at (List.mem_range'_1.2 ⟨by omega,by omega⟩)
 ·exact (thG22 cs g l m c).at (List.mem_range'_1.2 ⟨by omega,by omega⟩)
 ·exact (thG23 cs g l m c).at (List.mem_range'_1.2 ⟨by omega,by omega⟩)
 ·exact (thG24 cs g l m c).at (List.mem_range'_1.2 ⟨by omega,by omega⟩)
 ·exact (thG25 cs g l m c).at (List.mem_range'_1.2 ⟨by omega,by omega⟩)
 ·exact (thG26 cs g l m c).at (List.mem_range'_1.2 ⟨by omega,by omega⟩)
 ·exact (thG27 cs g l m c).at (List.mem_range'_1.2 ⟨by omega,by omega⟩)
 ·exact (thG28 cs g l m c).at (List.mem_range'_1.2 ⟨by omega,by omega⟩)
 ·exact (thG29 cs g l m c).at (List.mem_range'_1.2 ⟨by omega,by omega⟩)
theorem hid3 {live:Live} (h0:(0,0)∈live) (h1:(1,1)∈live) (h2:(2,2)∈live):∀ b,b < 3→(b,b)∈live:=fun b hb=>by
 rcases (by omega:b=0∨b=1∨b=2) with rfl | rfl | rfl<;>assumption
def alS (k:Int) (R:List V) (r:Nat) (z:Obs) (m:Int) (g:Nat→Int):Nat→Nat→SS
 | 0,_=>aH0 (actT 1 2 (g 0)) (lA k R r z m 1) (m + 1)
 | 1,j=>aH j (rwV g j) (actT 1 2 (g j)) (lA k R r z m (j + 1)) (m + 1)
 | _,j=>aH j (rwV g j) (actT 5 0 0) (lA k R r z m r) (m + 1)
section
variable {g:Nat→Int} {r:Nat} {z:Obs} {m:Int} {u:Nat} (h1:1≤r) (h60:r≤60) (H:HJ (lI 1 (rwL g r) r r z) m u) (hu:u + 10≤uMax)
include H in
theorem alGet1 (a:Nat):(hZ (lA 1 (rwL g r) r z m a) (m + 1)).items (vr (m + 1))=[vr 21,vnum (Int.ofNat a)]∧tRes xKind 1 (hZ (lA 1 (rwL g r) r z m a) (m + 1)) [(vr (m + 1)).sv] (.int .i64 9) (hZ (lA 1 (rwL g r) r z m a) (m + 1)) ∧
  tRes xName 1 (hZ (lA 1 (rwL g r) r z m a) (m + 1)) [(vr (m + 1)).sv] (.str sWalk) (hZ (lA 1 (rwL g r) r z m a) (m + 1))∧tRes xLen 1 (hZ (lA 1 (rwL g r) r z m a) (m + 1)) [(vr 21).sv] (.int .i64 (Int.ofNat r)) (hZ (lA 1 (rwL g r) r z m a) (m + 1)) :=
 ⟨zItems (lA_it H) rfl,zKind (lA_it H) rfl,zName (lA_it H) rfl,zLen lA_21 (by show ((rwL g r).length:Int)=Int.ofNat r;rw [rwL_len];rfl)⟩
include H hu in
theorem alSet1 (a c:Nat):tRes xSetAt 1 (hZ (lA 1 (rwL g r) r z m a) (m + 1)) [(vr (m + 1)).sv,.int .i64 1,(vnum (Int.ofNat c)).sv] (.bool true) (hZ (lA 1 (rwL g r) r z m c) (m + 1)) :=
 zSetAt (i:=1) (H.lA a) (by omega) (lA_it H) (by simp [wk]) (lA_put H c)
theorem alAt1 (a:Nat) {i:Nat} (hi:i < r):tRes xAt 1 (hZ (lA 1 (rwL g r) r z m a) (m + 1)) [(vr 21).sv,.int .i64 (Int.ofNat i)] (vt (vnum (g i)) true) (hZ (lA 1 (rwL g r) r z m a) (m + 1)):=zAt lA_21 (rwL_at g hi)
include h1 h60 H hu in
theorem alAll1 {w0:B0} (hH:Hd w0 fo0 3):CodeQ w0 nAl cAl (aI (hZ (lI 1 (rwL g r) r r z) m)).1 (aI (hZ (lI 1 (rwL g r) r r z) m)).2 fun x tm st=>x=.ret∧tm=(aZ (lB 1 (rwL g r) r z m) (m + 1 + 1) (m + 1 + 1)).1∧st=(aZ (lB 1 (rwL g r) r z m) (m + 1 + 1) (m + 1 + 1)).2:=by
 have gr:some (SV.bool (not (ltI (Int.ofNat r) 0)))=some (SV.bool true):=o_ge (ofN_0 r)
 have ln:((rwL g r).length:Int)=Int.ofNat r:=by rw [rwL_len];rfl
 refine CodeL.code ?_
 rw [kAl_eq]
 refine CodeL.app (QTX.code hH extS_ok (alA1 r (rwL g r) z m) alPlA ?_ (hid3 (by simp) (by simp) (by simp))) ?_ (fun x tm st hx h=>absurd h.1 hx)
 ·unfold tAlA1
  exact And.intro (zLen lI_21 ln) (And.intro gr (And.intro (tMk H (by omega) ⟨by decide,by decide⟩ (by simp [uMax])) trivial))
 rintro tm st ⟨-,rfl,rfl⟩
 refine CodeL.app (QTX.code hH extS_ok (alN1 r (rwL g r) z m (g 0)) alPlN ?_ (hid3 (by simp) (by simp) (by simp))) ?_ (fun x tm st hx h=>absurd h.1 hx)
 ·obtain ⟨f1,f2,f3,f4⟩:=alGet1 H 0
  unfold tAlN1
  exact And.intro f1 (And.intro f2 (And.intro f3 (And.intro f1 (And.intro f2 (And.intro f3 (And.intro f4 (And.intro gr (And.intro f4 (And.intro (o_nge (ofN_lt (show 0 < r by omega))) (And.intro (alSet1 H hu 0 1) (And.intro (alAt1 1 (i:=0) (by omega)) trivial)))))))))))
 rintro tm st ⟨-,rfl,rfl⟩
 refine CodeL.app (P1:=fun x tm st=>x=.normal∧tm=(alS 1 (rwL g r) r z m g 2 r).1∧st=(alS 1 (rwL g r) r z m g 2 r).2) (CodeQ.row (CodeQ.block (CodeQ.mono (P1:=fun x tm st=>x=.exit 0∧tm=(alS 1 (rwL g r) r z m g 2 r).1∧st=(alS 1 (rwL g r) r z m g 2 r).2) ?_ ?_))) ?_ (fun x tm st hx h=>absurd h.1 hx)
 ·refine CodeQ.loop (α:=Nat × Nat) (S:=fun p=>alS 1 (rwL g r) r z m g p.1 p.2) (Inv:=fun p=>(p.1=0∧p.2=0)∨(p.1=1∧1≤p.2∧p.2 < r)∨(p.1=2∧p.2=r)) (μ:=fun p=>bif Nat.beq p.1 2 then 0 else r + 1 - p.2) (fun p hp=>?_) (0,0) (.inl ⟨rfl,rfl⟩)
  obtain ⟨t,j⟩:=p
  refine CodeL.code ?_
  show CodeL w0 nAl k1Al _ _ _
  rcases hp with ⟨rfl,rfl⟩ | ⟨rfl,hj1,hj2⟩ | ⟨rfl,rfl⟩
  ·by_cases h2:1 < r
   ·refine (QTX.code hH extS_ok (alS1 r (rwL g r) z m (g 0) (g 1)) alPl1 ?_ (hid3 (by simp) (by simp) (by simp))).mono ?_
    ·obtain ⟨f1,f2,f3,f4⟩:=alGet1 H 1
     unfold tAlR1
     exact And.intro f1 (And.intro f2 (And.intro f3 (And.intro f1 (And.intro f2 (And.intro f3 (And.intro f4 (And.intro gr (And.intro f4 (And.intro (o_nge (ofN_lt h2)) (And.intro (alSet1 H hu 1 2) (And.intro (alAt1 2 (i:=1) h2) trivial)))))))))))
    ·rintro x tm st ⟨rfl,rfl,rfl⟩
     exact .inl ⟨rfl,(1,1),.inr (.inl ⟨rfl,Nat.le_refl _,h2⟩),by show r + 1 - 1 < r + 1 - 0;omega,rfl,rfl⟩
   ·obtain rfl:r=1:=by omega
    refine (QTX.code hH extS_ok (alF1 1 (rwL g 1) z m (g 0)) alPl1 ?_ (hid3 (by simp) (by simp) (by simp))).mono ?_
    ·obtain ⟨f1,f2,f3,f4⟩:=alGet1 H 1
     unfold tAlE1
     exact And.intro f1 (And.intro f2 (And.intro f3 (And.intro f1 (And.intro f2 (And.intro f3 (And.intro f4 (And.intro gr (And.intro gr (And.intro f4 (And.intro (o_ge (ofN_nlt (Nat.le_refl _))) trivial))))))))))
    ·rintro x tm st ⟨rfl,rfl,rfl⟩
     exact .inl ⟨rfl,(2,1),.inr (.inr ⟨rfl,rfl⟩),by show 0 < 1 + 1 - 0;omega,rfl,rfl⟩
  ·replace hj1:1≤j:=hj1
   replace hj2:j < r:=hj2
   by_cases h2:j + 1 < r
   ·refine (QTX.code hH extS_ok ((alR1 r (rwL g r) z m g (g j) (g (j + 1))).at (List.mem_range'_1.2 ⟨hj1,by omega⟩)) alPl1 ?_ (hid3 (by simp) (by simp) (by simp))).mono ?_
    ·obtain ⟨f1,f2,f3,f4⟩:=alGet1 H (j + 1)
     unfold tAlR1
     exact And.intro f1 (And.intro f2 (And.intro f3 (And.intro f1 (And.intro f2 (And.intro f3 (And.intro f4 (And.intro gr (And.intro f4 (And.intro (o_nge (ofN_lt h2)) (And.intro (alSet1 H hu (j + 1) (j + 2)) (And.intro (alAt1 (j + 2) h2) trivial)))))))))))
    ·rintro x tm st ⟨rfl,rfl,rfl⟩
     rw [← rwV_succ]
     exact .inl ⟨rfl,(1,j + 1),.inr (.inl ⟨rfl,by show 1≤j + 1;omega,h2⟩),by show r + 1 - (j + 1) < r + 1 - j;omega,rfl,rfl⟩
   ·obtain rfl:r=j + 1:=by omega
    refine (QTX.code hH extS_ok ((alE1 (j + 1) (rwL g (j + 1)) z m g (g j)).at (List.mem_range'_1.2 ⟨hj1,by omega⟩)) alPl1 ?_ (hid3 (by simp) (by simp) (by simp))).mono ?_
    ·obtain ⟨f1,f2,f3,f4⟩:=alGet1 H (j + 1)
     unfold tAlE1
     exact And.intro f1 (And.intro f2 (And.intro f3 (And.intro f1 (And.intro f2 (And.intro f3 (And.intro f4 (And.intro gr (And.intro gr (And.intro f4 (And.intro (o_ge (ofN_nlt (Nat.le_refl _))) trivial))))))))))
    ·rintro x tm st ⟨rfl,rfl,rfl⟩
     rw [← rwV_succ]
     exact .inl ⟨rfl,(2,j + 1),.inr (.inr ⟨rfl,rfl⟩),by show 0 < j + 1 + 1 - j;omega,rfl,rfl⟩
  ·replace h1:1≤j:=h1
   refine (QTX.code (tl:=[]) hH extS_ok ((alX (lA 1 (rwL g j) j z m j) (m + 1) g).at (List.mem_range'_1.2 ⟨h1,by omega⟩)) alPl1 trivial (hid3 (by simp) (by simp) (by simp))).mono ?_
   rintro x tm st ⟨rfl,rfl,rfl⟩
   exact .inr ⟨by simp,rfl,rfl,rfl⟩
 ·rintro x tm st ⟨rfl,rfl,rfl⟩
  exact ⟨rfl,rfl,rfl⟩
 ·rintro tm st ⟨-,rfl,rfl⟩
  refine (QTX.code hH extS_ok ((alZ1 r (rwL g r) z m g).at (List.mem_range'_1.2 ⟨h1,by omega⟩)) alPlZ ?_ (hid3 (by simp) (by simp) (by simp))).mono ?_
  ·exact And.intro (tMk (H.lA r) (by omega) ⟨by decide,by decide⟩ (by rw [rwL_len];simp only [uMax];omega)) trivial
  ·rintro x tm st ⟨rfl,rfl,rfl⟩
   exact ⟨rfl,rfl,rfl⟩
include h1 h60 H hu in
theorem alCall1:CallP fAl [.ptr 2 0,.sl thSl 0 1 3 none] [(2,some (wldAt 1 [])),(thSl,some (vM 21))] 1 (hZ (lI 1 (rwL g r) r r z) m) (actL (m + 1 + 1)) (hZ (lB 1 (rwL g r) r z m) (m + 1 + 1)):=by
 refine callP_of (g:=Tryz.f266) (c:=cAl) (vs2:=[.ptr 2 0,.sl 0 0 1 3 none]) (b2:=1) (v2:=actL (m + 1 + 1)) (live:=[(1,1),(2,2),(thSl,0)]) (fn:=3) (m1:=mkT [(2,wldAt 1 []),(thSl,vM 21)]) (m2:=mkT [(0,vM 21),(2,wldAt 1 [])])
  Tryz.func266 (by kernel_rfl) (zB (by kernel_rfl)) (zB (by kernel_rfl)) (by kernel_rfl) (by simp) ?_ rfl ?_ (by kernel_rfl) ?_ rfl rfl ?_
 ·intro p hp
  simp only [List.mem_cons,List.mem_nil_iff,or_false] at hp
  rcases hp with rfl | rfl | rfl
  ·exact .inl rfl
  ·exact .inr ⟨by simp [ptr1],List.mem_cons_self ..⟩
  ·exact .inr ⟨by simp [ptr1],List.mem_cons_of_mem _ (List.mem_cons_self ..)⟩
 ·intro p hp c hc
  simp only [List.mem_cons,List.mem_nil_iff,or_false] at hp
  rcases hp with rfl | rfl | rfl
  ·cases hc
  ·cases hc;exact ⟨rfl,rfl⟩
  ·cases hc;exact ⟨rfl,rfl⟩
 ·intro p hp c hc
  simp only [List.mem_cons,List.mem_nil_iff,or_false] at hp
  rcases hp with rfl | rfl | rfl
  ·cases hc
  ·cases hc;exact ⟨_,rfl,rfl⟩
  ·cases hc;exact ⟨_,rfl,rfl⟩
 ·intro w0 hH
  refine (alAll1 h1 h60 H hu hH).mono ?_
  rintro x tm st ⟨rfl,rfl,rfl⟩
  refine ⟨.inr rfl,by kernel_rfl,fun d c hc=>?_,rfl⟩
  have e:(aZ (lB 1 (rwL g r) r z m) (m + 1 + 1) (m + 1 + 1)).2.m=(mkT [(0,vM 21),(2,wldAt 1 [])]).upd 3 (some (actT 1 4 (m + 1 + 1))):=by kernel_rfl
  rw [e]
  by_cases hd:d=3
  ·subst hd;cases hc
  ·rw [T.upd_ne _ _ hd];exact hc
end
section
variable {g:Nat→Int} {r:Nat} {z:Obs} {m:Int} {u:Nat} (h1:1≤r) (h60:r≤60) (H:HJ (lI 2 (rwL g r) r r z) m u) (hu:u + 10≤uMax)
include H in
theorem alGet2 (a:Nat):(hZ (lA 2 (rwL g r) r z m a) (m + 1)).items (vr (m + 1))=[vr 21,vnum (Int.ofNat a)]∧tRes xKind 1 (hZ (lA 2 (rwL g r) r z m a) (m + 1)) [(vr (m + 1)).sv] (.int .i64 9) (hZ (lA 2 (rwL g r) r z m a) (m + 1)) ∧
  tRes xName 1 (hZ (lA 2 (rwL g r) r z m a) (m + 1)) [(vr (m + 1)).sv] (.str sWalk) (hZ (lA 2 (rwL g r) r z m a) (m + 1))∧tRes xLen 1 (hZ (lA 2 (rwL g r) r z m a) (m + 1)) [(vr 21).sv] (.int .i64 (Int.ofNat r)) (hZ (lA 2 (rwL g r) r z m a) (m + 1)) :=
 ⟨zItems (lA_it H) rfl,zKind (lA_it H) rfl,zName (lA_it H) rfl,zLen lA_21 (by show ((rwL g r).length:Int)=Int.ofNat r;rw [rwL_len];rfl)⟩
include H hu in
theorem alSet2 (a c:Nat):tRes xSetAt 1 (hZ (lA 2 (rwL g r) r z m a) (m + 1)) [(vr (m + 1)).sv,.int .i64 1,(vnum (Int.ofNat c)).sv] (.bool true) (hZ (lA 2 (rwL g r) r z m c) (m + 1)) :=
 zSetAt (i:=1) (H.lA a) (by omega) (lA_it H) (by simp [wk]) (lA_put H c)
theorem alAt2 (a:Nat) {i:Nat} (hi:i < r):tRes xAt 1 (hZ (lA 2 (rwL g r) r z m a) (m + 1)) [(vr 21).sv,.int .i64 (Int.ofNat i)] (vt (vnum (g i)) true) (hZ (lA 2 (rwL g r) r z m a) (m + 1)):=zAt lA_21 (rwL_at g hi)
include h1 h60 H hu in
theorem alAll2 {w0:B0} (hH:Hd w0 fo0 3):CodeQ w0 nAl cAl (aI (hZ (lI 2 (rwL g r) r r z) m)).1 (aI (hZ (lI 2 (rwL g r) r r z) m)).2 fun x tm st=>x=.ret∧tm=(aZ (lB 2 (rwL g r) r z m) (m + 1 + 1) (m + 1 + 1)).1∧st=(aZ (lB 2 (rwL g r) r z m) (m + 1 + 1) (m + 1 + 1)).2:=by
 have gr:some (SV.bool (not (ltI (Int.ofNat r) 0)))=some (SV.bool true):=o_ge (ofN_0 r)
 have ln:((rwL g r).length:Int)=Int.ofNat r:=by rw [rwL_len];rfl
 refine CodeL.code ?_
 rw [kAl_eq]
 refine CodeL.app (QTX.code hH extS_ok (alA2 r (rwL g r) z m) alPlA ?_ (hid3 (by simp) (by simp) (by simp))) ?_ (fun x tm st hx h=>absurd h.1 hx)
 ·unfold tAlA2
  exact And.intro (zLen lI_21 ln) (And.intro gr (And.intro (tMk H (by omega) ⟨by decide,by decide⟩ (by simp [uMax])) trivial))
 rintro tm st ⟨-,rfl,rfl⟩
 refine CodeL.app (QTX.code hH extS_ok (alN2 r (rwL g r) z m (g 0)) alPlN ?_ (hid3 (by simp) (by simp) (by simp))) ?_ (fun x tm st hx h=>absurd h.1 hx)
 ·obtain ⟨f1,f2,f3,f4⟩:=alGet2 H 0
  unfold tAlN2
  exact And.intro f1 (And.intro f2 (And.intro f3 (And.intro f1 (And.intro f2 (And.intro f3 (And.intro f4 (And.intro gr (And.intro f4 (And.intro (o_nge (ofN_lt (show 0 < r by omega))) (And.intro (alSet2 H hu 0 1) (And.intro (alAt2 1 (i:=0) (by omega)) trivial)))))))))))
 rintro tm st ⟨-,rfl,rfl⟩
 refine CodeL.app (P1:=fun x tm st=>x=.normal∧tm=(alS 2 (rwL g r) r z m g 2 r).1∧st=(alS 2 (rwL g r) r z m g 2 r).2) (CodeQ.row (CodeQ.block (CodeQ.mono (P1:=fun x tm st=>x=.exit 0∧tm=(alS 2 (rwL g r) r z m g 2 r).1∧st=(alS 2 (rwL g r) r z m g 2 r).2) ?_ ?_))) ?_ (fun x tm st hx h=>absurd h.1 hx)
 ·refine CodeQ.loop (α:=Nat × Nat) (S:=fun p=>alS 2 (rwL g r) r z m g p.1 p.2) (Inv:=fun p=>(p.1=0∧p.2=0)∨(p.1=1∧1≤p.2∧p.2 < r)∨(p.1=2∧p.2=r)) (μ:=fun p=>bif Nat.beq p.1 2 then 0 else r + 1 - p.2) (fun p hp=>?_) (0,0) (.inl ⟨rfl,rfl⟩)
  obtain ⟨t,j⟩:=p
  refine CodeL.code ?_
  show CodeL w0 nAl k1Al _ _ _
  rcases hp with ⟨rfl,rfl⟩ | ⟨rfl,hj1,hj2⟩ | ⟨rfl,rfl⟩
  ·by_cases h2:1 < r
   ·refine (QTX.code hH extS_ok (alS2 r (rwL g r) z m (g 0) (g 1)) alPl1 ?_ (hid3 (by simp) (by simp) (by simp))).mono ?_
    ·obtain ⟨f1,f2,f3,f4⟩:=alGet2 H 1
     unfold tAlR2
     exact And.intro f1 (And.intro f2 (And.intro f3 (And.intro f1 (And.intro f2 (And.intro f3 (And.intro f4 (And.intro gr (And.intro f4 (And.intro (o_nge (ofN_lt h2)) (And.intro (alSet2 H hu 1 2) (And.intro (alAt2 2 (i:=1) h2) trivial)))))))))))
    ·rintro x tm st ⟨rfl,rfl,rfl⟩
     exact .inl ⟨rfl,(1,1),.inr (.inl ⟨rfl,Nat.le_refl _,h2⟩),by show r + 1 - 1 < r + 1 - 0;omega,rfl,rfl⟩
   ·obtain rfl:r=1:=by omega
    refine (QTX.code hH extS_ok (alF2 1 (rwL g 1) z m (g 0)) alPl1 ?_ (hid3 (by simp) (by simp) (by simp))).mono ?_
    ·obtain ⟨f1,f2,f3,f4⟩:=alGet2 H 1
     unfold tAlE2
     exact And.intro f1 (And.intro f2 (And.intro f3 (And.intro f1 (And.intro f2 (And.intro f3 (And.intro f4 (And.intro gr (And.intro gr (And.intro f4 (And.intro (o_ge (ofN_nlt (Nat.le_refl _))) trivial))))))))))
    ·rintro x tm st ⟨rfl,rfl,rfl⟩
     exact .inl ⟨rfl,(2,1),.inr (.inr ⟨rfl,rfl⟩),by show 0 < 1 + 1 - 0;omega,rfl,rfl⟩
  ·replace hj1:1≤j:=hj1
   replace hj2:j < r:=hj2
   by_cases h2:j + 1 < r
   ·refine (QTX.code hH extS_ok ((alR2 r (rwL g r) z m g (g j) (g (j + 1))).at (List.mem_range'_1.2 ⟨hj1,by omega⟩)) alPl1 ?_ (hid3 (by simp) (by simp) (by simp))).mono ?_
    ·obtain ⟨f1,f2,f3,f4⟩:=alGet2 H (j + 1)
     unfold tAlR2
     exact And.intro f1 (And.intro f2 (And.intro f3 (And.intro f1 (And.intro f2 (And.intro f3 (And.intro f4 (And.intro gr (And.intro f4 (And.intro (o_nge (ofN_lt h2)) (And.intro (alSet2 H hu (j + 1) (j + 2)) (And.intro (alAt2 (j + 2) h2) trivial)))))))))))
    ·rintro x tm st ⟨rfl,rfl,rfl⟩
     rw [← rwV_succ]
     exact .inl ⟨rfl,(1,j + 1),.inr (.inl ⟨rfl,by show 1≤j + 1;omega,h2⟩),by show r + 1 - (j + 1) < r + 1 - j;omega,rfl,rfl⟩
   ·obtain rfl:r=j + 1:=by omega
    refine (QTX.code hH extS_ok ((alE2 (j + 1) (rwL g (j + 1)) z m g (g j)).at (List.mem_range'_1.2 ⟨hj1,by omega⟩)) alPl1 ?_ (hid3 (by simp) (by simp) (by simp))).mono ?_
    ·obtain ⟨f1,f2,f3,f4⟩:=alGet2 H (j + 1)
     unfold tAlE2
     exact And.intro f1 (And.intro f2 (And.intro f3 (And.intro f1 (And.intro f2 (And.intro f3 (And.intro f4 (And.intro gr (And.intro gr (And.intro f4 (And.intro (o_ge (ofN_nlt (Nat.le_refl _))) trivial))))))))))
    ·rintro x tm st ⟨rfl,rfl,rfl⟩
     rw [← rwV_succ]
     exact .inl ⟨rfl,(2,j + 1),.inr (.inr ⟨rfl,rfl⟩),by show 0 < j + 1 + 1 - j;omega,rfl,rfl⟩
  ·replace h1:1≤j:=h1
   refine (QTX.code (tl:=[]) hH extS_ok ((alX (lA 2 (rwL g j) j z m j) (m + 1) g).at (List.mem_range'_1.2 ⟨h1,by omega⟩)) alPl1 trivial (hid3 (by simp) (by simp) (by simp))).mono ?_
   rintro x tm st ⟨rfl,rfl,rfl⟩
   exact .inr ⟨by simp,rfl,rfl,rfl⟩
 ·rintro x tm st ⟨rfl,rfl,rfl⟩
  exact ⟨rfl,rfl,rfl⟩
 ·rintro tm st ⟨-,rfl,rfl⟩
  refine (QTX.code hH extS_ok ((alZ2 r (rwL g r) z m g).at (List.mem_range'_1.2 ⟨h1,by omega⟩)) alPlZ ?_ (hid3 (by simp) (by simp) (by simp))).mono ?_
  ·exact And.intro (tMk (H.lA r) (by omega) ⟨by decide,by decide⟩ (by rw [rwL_len];simp only [uMax];omega)) trivial
  ·rintro x tm st ⟨rfl,rfl,rfl⟩
   exact ⟨rfl,rfl,rfl⟩
include h1 h60 H hu in
theorem alCall2:CallP fAl [.ptr 2 0,.sl thSl 0 1 3 none] [(2,some (wldAt 1 [])),(thSl,some (vM 21))] 1 (hZ (lI 2 (rwL g r) r r z) m) (actL (m + 1 + 1)) (hZ (lB 2 (rwL g r) r z m) (m + 1 + 1)):=by
 refine callP_of (g:=Tryz.f266) (c:=cAl) (vs2:=[.ptr 2 0,.sl 0 0 1 3 none]) (b2:=1) (v2:=actL (m + 1 + 1)) (live:=[(1,1),(2,2),(thSl,0)]) (fn:=3) (m1:=mkT [(2,wldAt 1 []),(thSl,vM 21)]) (m2:=mkT [(0,vM 21),(2,wldAt 1 [])])
  Tryz.func266 (by kernel_rfl) (zB (by kernel_rfl)) (zB (by kernel_rfl)) (by kernel_rfl) (by simp) ?_ rfl ?_ (by kernel_rfl) ?_ rfl rfl ?_
 ·intro p hp
  simp only [List.mem_cons,List.mem_nil_iff,or_false] at hp
  rcases hp with rfl | rfl | rfl
  ·exact .inl rfl
  ·exact .inr ⟨by simp [ptr1],List.mem_cons_self ..⟩
  ·exact .inr ⟨by simp [ptr1],List.mem_cons_of_mem _ (List.mem_cons_self ..)⟩
 ·intro p hp c hc
  simp only [List.mem_cons,List.mem_nil_iff,or_false] at hp
  rcases hp with rfl | rfl | rfl
  ·cases hc
  ·cases hc;exact ⟨rfl,rfl⟩
  ·cases hc;exact ⟨rfl,rfl⟩
 ·intro p hp c hc
  simp only [List.mem_cons,List.mem_nil_iff,or_false] at hp
  rcases hp with rfl | rfl | rfl
  ·cases hc
  ·cases hc;exact ⟨_,rfl,rfl⟩
  ·cases hc;exact ⟨_,rfl,rfl⟩
 ·intro w0 hH
  refine (alAll2 h1 h60 H hu hH).mono ?_
  rintro x tm st ⟨rfl,rfl,rfl⟩
  refine ⟨.inr rfl,by kernel_rfl,fun d c hc=>?_,rfl⟩
  have e:(aZ (lB 2 (rwL g r) r z m) (m + 1 + 1) (m + 1 + 1)).2.m=(mkT [(0,vM 21),(2,wldAt 1 [])]).upd 3 (some (actT 1 4 (m + 1 + 1))):=by kernel_rfl
  rw [e]
  by_cases hd:d=3
  ·subst hd;cases hc
  ·rw [T.upd_ne _ _ hd];exact hc
end
def zS:Nat→Obs
 | 0=>[]
 | 1=>[(24,o1 []),(25,o2 eStop 14 [(vstr sArgs,vr 24)])]
 | _=>[(24,o1 []),(25,o2 eStop 14 [(vstr sArgs,vr 24)]),(26,o1 []),(27,o2 eStop 14 [(vstr sArgs,vr 26)])]
def mS:Nat→Int
 | 0=>23
 | 1=>25
 | _=>27
theorem zS_0 (k:Int) (R:List V) (r:Nat):e3 (lI k R r r (zS 0)) (mS 0) [] eStop 14=lI k R r r (zS 1):=by
 show (lI k R r r _++_)++_=_
 rw [lI_app,lI_app];rfl
theorem zS_1 (k:Int) (R:List V) (r:Nat):e3 (lI k R r r (zS 1)) (mS 1) [] eStop 14=lI k R r r (zS 2):=by
 show (lI k R r r _++_)++_=_
 rw [lI_app,lI_app];rfl
theorem lT_21 {k:Int} {R:List V}:get (lT k R) 21=some ⟨k,[],0,R,[]⟩:=by kernel_rfl
abbrev ThEnd (x:Ex) (tm:T SV) (st:St HX):Prop:=(x=.normal∨x=.ret)∧resS Tryz.prog st.m tm rsTh=some (.bool true)
section
variable {w0:B0} {cs:List Int} (hH:Hd w0 (foC (csV cs)) 1) {g:Nat→Int} {r:Nat} (h60:r≤60) {ck:Option Nat}
include hH h60 in
theorem thBegin1:CodeL w0 nTh ((kTh.drop 12).take 6) ((s3 r ck 1 (rwL g r)).w3 (rwV g r)).1 ((s3 r ck 1 (rwL g r)).w3 (rwV g r)).2 fun x tm st=>x=.normal∧tm=((s2 14 0 r ck (lI 1 (rwL g r) 0 0 []) 23).w3 (rwV g r)).1∧st=((s2 14 0 r ck (lI 1 (rwL g r) 0 0 []) 23).w3 (rwV g r)).2:=by
 have ln:((rwL g r).length:Int)=Int.ofNat r:=by rw [rwL_len];rfl
 have hl:(rwL g r).length≤60:=by rw [rwL_len];exact h60
 have gr:some (SV.bool (not (ltI (Int.ofNat r) 0)))=some (SV.bool true):=o_ge (ofN_0 r)
 have H:=HJ.lT (k:=1) hl
 have H1:HJ (E.lT 1 (rwL g r)++[(21 + 1,wk 0)]) (21 + 1) 170:=H.add _ (by simp [wk])
 refine thFr hH (thI1 (csV cs) (rwV g r) r ck (rwL g r)) thPlI ?_ (by simp) (by simp) rfl rfl
 unfold tThI1
 exact And.intro (zLen lT_21 ln) (And.intro gr (And.intro (tMk H (by simp [uMax]) ⟨by decide,by decide⟩ (by simp [uMax])) (And.intro (zLen (get_app_l lT_21) ln) (And.intro gr (And.intro (tMk H1 (by simp [uMax]) ⟨by decide,by decide⟩ (by simp [uMax])) (And.intro (zLen (get_app_l (get_app_l lT_21)) ln) (And.intro gr trivial)))))))
include hH h60 in
theorem thWays1 (hck:0 < r→ck=none):CodeQ w0 nTh (.loop b2Th) ((s2 14 0 r ck (lI 1 (rwL g r) 0 0 []) 23).w3 (rwV g r)).1 ((s2 14 0 r ck (lI 1 (rwL g r) 0 0 []) 23).w3 (rwV g r)).2 fun x tm st=>x=.exit 2∧tm=((s2 14 r r ck (lI 1 (rwL g r) r r []) 23).w3 (rwV g r)).1∧st=((s2 14 r r ck (lI 1 (rwL g r) r r []) 23).w3 (rwV g r)).2:=by
 have ln:((rwL g r).length:Int)=Int.ofNat r:=by rw [rwL_len];rfl
 have hl:(rwL g r).length≤60:=by rw [rwL_len];exact h60
 have gr:some (SV.bool (not (ltI (Int.ofNat r) 0)))=some (SV.bool true):=o_ge (ofN_0 r)
 refine CodeQ.loop (α:=Nat) (S:=fun i=>(s2 14 i r ck (lI 1 (rwL g r) i i []) 23).w3 (rwV g r)) (Inv:=fun i=>i≤r) (μ:=fun i=>r - i) (fun i hi=>?_) 0 (Nat.zero_le _)
 replace hi:i≤r:=hi
 have H:HJ (lI 1 (rwL g r) i i []) 23 200:=((HJ.lI0 hl).p22 i).p23 i
 refine CodeL.code ?_
 rw [k2Th_eq]
 by_cases hlt:i < r
 ·obtain rfl:=hck (by omega)
  refine CodeL.app (thFr hH (thTY (csV cs) (rwV g r) r none [] i (lI 1 (rwL g r) i i []) 23) thPlT (And.intro (o_lt (ofN_lt hlt)) trivial) (by simp) (by simp) rfl rfl) ?_ (fun x tm st hx h=>absurd h.1 hx)
  rintro tm st ⟨-,rfl,rfl⟩
  refine CodeL.app (P1:=fun x tm st=>x=.normal∧tm=((s2 14 i r none (lI 1 (rwL g r) (i + 1) (i + 1) []) 23).w3 (rwV g r)).1∧st=((s2 14 i r none (lI 1 (rwL g r) (i + 1) (i + 1) []) 23).w3 (rwV g r)).2) (CodeQ.row (CodeQ.block (CodeL.code ?_))) ?_ (fun x tm st hx h=>absurd h.1 hx)
  ·rw [kbTh_eq]
   refine CodeL.app (thFr hH (thN1 (csV cs) (rwV g r) r none (rwL g r) i [] 23 (g i)) thPlB ?_ (by simp) (by simp) rfl rfl) ?_ (fun x tm st hx h=>absurd h.1 hx)
   ·have gi:some (SV.bool (not (ltI (Int.ofNat i) 0)))=some (SV.bool true):=o_ge (ofN_0 i)
    have gl:some (SV.bool (not (ltI (Int.ofNat i) (Int.ofNat r))))=some (SV.bool false):=o_nge (ofN_lt hlt)
    have nc:=thInc (i:=i) (by omega)
    have H1:=H.p22 (i + 1)
    have s1:tRes xSetAt 1 (hZ (lI 1 (rwL g r) i i []) 23) [(vr 22).sv,.int .i64 1,(vnum (Int.ofNat (i + 1))).sv] (.bool true) (hZ (lI 1 (rwL g r) (i + 1) i []) 23):=zSetAt (i:=1) H (by simp [uMax]) lI_22 (by simp [wk]) (lI_p22 (i + 1))
    have s2:tRes xSetAt 1 (hZ (lI 1 (rwL g r) (i + 1) i []) 23) [(vr 23).sv,.int .i64 1,(vnum (Int.ofNat (i + 1))).sv] (.bool true) (hZ (lI 1 (rwL g r) (i + 1) (i + 1) []) 23):=zSetAt (i:=1) H1 (by simp [uMax]) lI_23 (by simp [wk]) (lI_p23 (i + 1))
    unfold tThN1
    exact And.intro (zLen lI_21 ln) (And.intro gr (And.intro gi (And.intro (zLen lI_21 ln) (And.intro gl (And.intro nc (And.intro s1 (And.intro (zAt lI_21 (rwL_at g hlt)) (And.intro (zLen lI_21 ln) (And.intro gr (And.intro gi (And.intro (zLen lI_21 ln) (And.intro gl (And.intro nc (And.intro s2 (And.intro (zAt lI_21 (rwL_at g hlt)) trivial)))))))))))))))
   ·rintro tm st ⟨-,rfl,rfl⟩
    refine (QT.code hH (thC h60 hlt) thPlC (And.intro (o_neV _ rfl rfl) (And.intro (o_neV _ rfl rfl) trivial)) (hidC (by simp))).mono ?_
    rintro x tm st ⟨rfl,rfl,rfl⟩
    exact ⟨rfl,rfl,rfl⟩
  ·rintro tm st ⟨-,rfl,rfl⟩
   refine (thFr (tl:=[]) hH ((thU (csV cs) (rwV g r) r none [] (lI 1 (rwL g r) (i + 1) (i + 1) []) 23).at (List.mem_range.2 (show i < 60 by omega))) thPlU trivial (by simp) (by simp) rfl rfl).mono ?_
   rintro x tm st ⟨rfl,rfl,rfl⟩
   exact .inl ⟨rfl,i + 1,by show i + 1≤r;omega,by show r - (i + 1) < r - i;omega,rfl,rfl⟩
 ·obtain rfl:i=r:=by omega
  refine CodeL.app (thFr hH (thTN (csV cs) (rwV g i) i ck [] i (lI 1 (rwL g i) i i []) 23) thPlT (And.intro (o_nlt (ofN_nlt (Nat.le_refl _))) trivial) (by simp) (by simp) rfl rfl) (fun tm st h=>by cases h.1) ?_
  rintro x tm st hx ⟨rfl,rfl,rfl⟩
  exact .inr ⟨hx,rfl,rfl,rfl⟩
theorem HJ.stop1 (hl:(rwL g r).length≤60):HJ (lI 1 (rwL g r) r r (zS 0)) (mS 0) 200∧HJ (lI 1 (rwL g r) r r (zS 1)) (mS 1) 205∧HJ (lI 1 (rwL g r) r r (zS 2)) (mS 2) 210:=by
 have H:HJ (lI 1 (rwL g r) r r (zS 0)) (mS 0) 200:=((HJ.lI0 hl).p22 r).p23 r
 have H1:=H.e2 (arg:=[]) (nm:=eStop) (c:=14) (d:=[(vstr sArgs,vr (mS 0 + 1))]) (by simp) (by simp)
 have H2:HJ (lI 1 (rwL g r) r r (zS 1)) (mS 1) 205:=by rw [← zS_0];exact H1
 have H3:=H2.e2 (arg:=[]) (nm:=eStop) (c:=14) (d:=[(vstr sArgs,vr (mS 1 + 1))]) (by simp) (by simp)
 exact ⟨H,H2,by rw [← zS_1];exact H3⟩
theorem thStopT1 {z:Obs} {m:Int} {u:Nat} (H:HJ (lI 1 (rwL g r) r r z) m u) (hu:u + 5≤uMax):(tThS1 r (rwL g r) z m).ok:=by
 have ln:((rwL g r).length:Int)=Int.ofNat r:=by rw [rwL_len];rfl
 have gr:some (SV.bool (not (ltI (Int.ofNat r) 0)))=some (SV.bool true):=o_ge (ofN_0 r)
 have ge:some (SV.bool (not (ltI (Int.ofNat r) (Int.ofNat r))))=some (SV.bool true):=o_ge (ofN_nlt (Nat.le_refl _))
 have g2:get (e3 (lI 1 (rwL g r) r r z) m [] eStop 14) (m + 1 + 1)=some (o2 eStop 14 [(vstr sArgs,vr (m + 1))]):=gE2 H (by simp)
 have g1:get (e3 (lI 1 (rwL g r) r r z) m [] eStop 14) (m + 1)=some (o1 []):=gE1 H (by simp)
 have g0:get (e3 (lI 1 (rwL g r) r r z) m [] eStop 14) 21=some ⟨1,[],0,rwL g r,[]⟩:=get_app_l (get_app_l lI_21)
 unfold tThS1
 exact And.intro (zLen lI_21 ln) (And.intro gr (And.intro gr (And.intro (zLen lI_21 ln) (And.intro ge (And.intro (xE1 H hu (by simp)) (And.intro (xE2 H hu (by simp)) (And.intro (xE3 H hu (by simp)) (And.intro (zLen g0 ln) (And.intro gr (And.intro gr (And.intro (zLen g0 ln) (And.intro ge
  (And.intro (zAt g2 (i:=0) rfl) (And.intro (zKind g2 rfl) (And.intro (zAt g2 (i:=0) rfl) (And.intro (zKind g2 rfl) (And.intro (zGet g2 rfl) (And.intro (zAtN g1 (.inr (by simp [o1]))) trivial))))))))))))))))))
include hH h60 in
theorem thStops1:CodeQ w0 nTh (.loop b3Th) ((s2 17 0 r ck (lI 1 (rwL g r) r r (zS 0)) (mS 0)).w3 (rwV g r)).1 ((s2 17 0 r ck (lI 1 (rwL g r) r r (zS 0)) (mS 0)).w3 (rwV g r)).2 fun x tm st=>x=.exit 4∧tm=((s2 17 2 r ck (lI 1 (rwL g r) r r (zS 2)) (mS 2)).w3 (rwV g r)).1∧st=((s2 17 2 r ck (lI 1 (rwL g r) r r (zS 2)) (mS 2)).w3 (rwV g r)).2:=by
 have hl:(rwL g r).length≤60:=by rw [rwL_len];exact h60
 obtain ⟨H0,H1,H2⟩:=HJ.stop1 (r:=r) hl
 refine CodeQ.loop (α:=Nat) (S:=fun j=>(s2 17 j r ck (lI 1 (rwL g r) r r (zS j)) (mS j)).w3 (rwV g r)) (Inv:=fun j=>j≤2) (μ:=fun j=>2 - j) (fun j hj=>?_) 0 (Nat.zero_le _)
 replace hj:j≤2:=hj
 refine CodeL.code ?_
 show CodeL w0 nTh k3Th _ _ _
 rcases (by omega:j=0∨j=1∨j=2) with rfl | rfl | rfl
 ·refine (thFr hH ((thS1 (csV cs) (rwV g r) r ck (rwL g r) (zS 0) (mS 0)).at (List.mem_range.2 (show 0 < 2 by omega))) thPl3 (thStopT1 H0 (by simp [uMax])) (by simp) (by simp) rfl rfl).mono ?_
  rintro x tm st ⟨rfl,rfl,rfl⟩
  rw [zS_0]
  exact .inl ⟨rfl,1,by show 1≤2;omega,by show 2 - 1 < 2 - 0;omega,rfl,rfl⟩
 ·refine (thFr hH ((thS1 (csV cs) (rwV g r) r ck (rwL g r) (zS 1) (mS 1)).at (List.mem_range.2 (show 1 < 2 by omega))) thPl3 (thStopT1 H1 (by simp [uMax])) (by simp) (by simp) rfl rfl).mono ?_
  rintro x tm st ⟨rfl,rfl,rfl⟩
  rw [zS_1]
  exact .inl ⟨rfl,2,by show 2≤2;omega,by show 2 - 2 < 2 - 1;omega,rfl,rfl⟩
 ·refine (thFr (tl:=[]) hH (thX (csV cs) (rwV g r) r ck [] (lI 1 (rwL g r) r r (zS 2)) (mS 2)) thPl3 trivial (by simp) (by simp) rfl rfl).mono ?_
  rintro x tm st ⟨rfl,rfl,rfl⟩
  exact .inr ⟨by simp,rfl,rfl,rfl⟩
include hH h60 in
theorem thEnd1 (h1:1≤r):CodeL w0 nTh ((kTh.drop 21).take 1++((kTh.drop 22).take 1++((kTh.drop 23).take 1++kTh.drop 24))) ((s2 17 2 r none (lI 1 (rwL g r) r r (zS 2)) (mS 2)).w3 (rwV g r)).1 ((s2 17 2 r none (lI 1 (rwL g r) r r (zS 2)) (mS 2)).w3 (rwV g r)).2 ThEnd:=by
 have ln:((rwL g r).length:Int)=Int.ofNat r:=by rw [rwL_len];rfl
 have hl:(rwL g r).length≤60:=by rw [rwL_len];exact h60
 have gr:some (SV.bool (not (ltI (Int.ofNat r) 0)))=some (SV.bool true):=o_ge (ofN_0 r)
 obtain ⟨-,-,H⟩:=HJ.stop1 (r:=r) hl
 have e27:mS 2=27:=rfl
 generalize mS 2=m at H e27 ⊢
 generalize zS 2=z at H ⊢
 have HA:=H.lA r
 have HB:HJ (lB 1 (rwL g r) r z m) (m + 1 + 1) 300:=HA.add _ (by simp only [List.length_nil];omega)
 have ec:get (lB 1 (rwL g r) r z m) (m + 1 + 1)=some ⟨1,[],0,rwL g r,[]⟩:=get_last HA _
 refine CodeL.app (thFrX hH (extC_ok (callable_of (by kernel_rfl)) extS_ok) (thL 1 (csV cs) (rwV g r) r none (rwL g r) z m) thPlL (And.intro (alCall1 h1 h60 H (by simp [uMax])) trivial) (by simp) (by simp) rfl rfl) ?_ (fun x tm st hx h=>absurd h.1 hx)
 rintro tm st ⟨-,rfl,rfl⟩
 refine CodeL.app (thFr hH (thK (csV cs) (rwV g r) r none [] (lB 1 (rwL g r) r z m) (m + 1 + 1) (m + 1 + 1) (g 0)) thPlK ?_ (by simp) (by simp) rfl rfl) ?_ (fun x tm st hx h=>absurd h.1 hx)
 ·unfold tThK
  exact And.intro (zAt ec (i:=0) (rwL_at g (by omega))) (And.intro (zKind ec rfl) (And.intro (zKind ec rfl) (And.intro (zLen ec ln) (And.intro gr trivial))))
 rintro tm st ⟨-,rfl,rfl⟩
 refine CodeL.app (QT.code hH (thG' h1 h60) thPlG ?_ (hidC (by simp))) ?_ (fun x tm st hx h=>absurd h.1 hx)
 ·have ec':get (ltH g (lB 1 (rwL g r) r z m) (m + 1 + 1) r) (m + 1 + 1)=some ⟨1,[],0,rwL g r,[]⟩:=get_app_l ec
  have en:get (ltH g (lB 1 (rwL g r) r z m) (m + 1 + 1) r) (m + 1 + 1 + 1)=some ⟨1,[],0,rwL g r,[]⟩:=get_last HB _
  unfold tThG
  refine TL.ok_app ?_ (TL.ok_map _ (fun j=>thEV _) _)
  exact And.intro (tMk HB (by simp [uMax]) ⟨by decide,by decide⟩ (by rw [rwL_len];simp only [uMax];omega)) (And.intro (zAt ec' (i:=0) (rwL_at g (by omega))) (And.intro (zKind ec' rfl) (And.intro (zKind ec' rfl) (And.intro (zKind ec' rfl) (And.intro (zKind en rfl) (And.intro (o_neq (by omega)) (And.intro (zKind ec' rfl) (And.intro (zKind ec' rfl) (And.intro (zKind en rfl) (And.intro (zKind ec' rfl)
   (And.intro (zLen ec' ln) (And.intro (zKind en rfl) (And.intro (zLen en ln) (And.intro (zKind ec' rfl) (And.intro (zItems en rfl) (And.intro (zItems ec' rfl) trivial))))))))))))))))
 rintro tm st ⟨-,rfl,rfl⟩
 exact QE.frame hH _ (thE (csV cs) (rwV g r) r none [] (ltH g (lB 1 (rwL g r) r z m) (m + 1 + 1) r) (m + 1 + 1 + 1) (m + 1 + 1)) thPlE (And.intro (thNR (by omega)) (And.intro (thEV _) trivial)) (Nat.lt_of_lt_of_le (by decide:3 < 4) (zB (by kernel_rfl))) rfl (by omega) (t0:=7) rfl
include hH h60 in
theorem thRest1:CodeL w0 nTh ((kTh.drop 12).take 6++([.block 2 (.loop b2Th)]++((kTh.drop 19).take 1++([.block 4 (.loop b3Th)]++((kTh.drop 21).take 1++((kTh.drop 22).take 1++((kTh.drop 23).take 1++kTh.drop 24))))))) ((s3 r (ckT r) 1 (rwL g r)).w3 (rwV g r)).1 ((s3 r (ckT r) 1 (rwL g r)).w3 (rwV g r)).2 ThEnd:=by
 have hck:0 < r→ckT r=none:=fun h=>by cases r with
  | zero=>omega
  | succ q=>rfl
 refine CodeL.app (thBegin1 hH h60) ?_ (fun x tm st hx h=>absurd h.1 hx)
 rintro tm st ⟨-,rfl,rfl⟩
 refine CodeL.app (P1:=fun x tm st=>x=.normal∧tm=((s2 14 r r (ckT r) (lI 1 (rwL g r) r r []) 23).w3 (rwV g r)).1∧st=((s2 14 r r (ckT r) (lI 1 (rwL g r) r r []) 23).w3 (rwV g r)).2) (CodeQ.row (CodeQ.block ((thWays1 hH h60 hck).mono ?_))) ?_ (fun x tm st hx h=>absurd h.1 hx)
 ·rintro x tm st ⟨rfl,rfl,rfl⟩
  exact ⟨rfl,rfl,rfl⟩
 rintro tm st ⟨-,rfl,rfl⟩
 refine CodeL.app (thFr (tl:=[]) hH (thV (csV cs) (rwV g r) r (ckT r) [] r (lI 1 (rwL g r) r r (zS 0)) (mS 0)) thPlV trivial (by simp) (by simp) rfl rfl) ?_ (fun x tm st hx h=>absurd h.1 hx)
 rintro tm st ⟨-,rfl,rfl⟩
 refine CodeL.app (P1:=fun x tm st=>x=.normal∧tm=((s2 17 2 r (ckT r) (lI 1 (rwL g r) r r (zS 2)) (mS 2)).w3 (rwV g r)).1∧st=((s2 17 2 r (ckT r) (lI 1 (rwL g r) r r (zS 2)) (mS 2)).w3 (rwV g r)).2) (CodeQ.row (CodeQ.block ((thStops1 hH h60).mono ?_))) ?_ (fun x tm st hx h=>absurd h.1 hx)
 ·rintro x tm st ⟨rfl,rfl,rfl⟩
  exact ⟨rfl,rfl,rfl⟩
 rintro tm st ⟨-,rfl,rfl⟩
 by_cases h0:r=0
 ·subst h0
  rw [kT21]
  have e:e3 (e3 (lI 1 [] 0 0 []) 23 [] eStop 14) 25 [] eStop 14=lI 1 (rwL g 0) 0 0 (zS 2):=by
   have a:=zS_0 1 [] 0
   have b:=zS_1 1 [] 0
   rw [← a] at b
   exact b
  have h:=thE01 (csV cs)
  rw [e] at h
  exact QE.code (tl:=[]) hH h thPlZ trivial
 ·rw [hck (by omega)]
  exact thEnd1 hH h60 (by omega)
end
section
variable {w0:B0} {cs:List Int} (hH:Hd w0 (foC (csV cs)) 1) {g:Nat→Int} {r:Nat} (h60:r≤60) {ck:Option Nat}
include hH h60 in
theorem thBegin2:CodeL w0 nTh ((kTh.drop 12).take 6) ((s3 r ck 2 (rwL g r)).w3 (rwV g r)).1 ((s3 r ck 2 (rwL g r)).w3 (rwV g r)).2 fun x tm st=>x=.normal∧tm=((s2 14 0 r ck (lI 2 (rwL g r) 0 0 []) 23).w3 (rwV g r)).1∧st=((s2 14 0 r ck (lI 2 (rwL g r) 0 0 []) 23).w3 (rwV g r)).2:=by
 have ln:((rwL g r).length:Int)=Int.ofNat r:=by rw [rwL_len];rfl
 have hl:(rwL g r).length≤60:=by rw [rwL_len];exact h60
 have gr:some (SV.bool (not (ltI (Int.ofNat r) 0)))=some (SV.bool true):=o_ge (ofN_0 r)
 have H:=HJ.lT (k:=2) hl
 have H1:HJ (E.lT 2 (rwL g r)++[(21 + 1,wk 0)]) (21 + 1) 170:=H.add _ (by simp [wk])
 refine thFr hH (thI2 (csV cs) (rwV g r) r ck (rwL g r)) thPlI ?_ (by simp) (by simp) rfl rfl
 unfold tThI2
 exact And.intro (zLen lT_21 ln) (And.intro gr (And.intro (tMk H (by simp [uMax]) ⟨by decide,by decide⟩ (by simp [uMax])) (And.intro (zLen (get_app_l lT_21) ln) (And.intro gr (And.intro (tMk H1 (by simp [uMax]) ⟨by decide,by decide⟩ (by simp [uMax])) (And.intro (zLen (get_app_l (get_app_l lT_21)) ln) (And.intro gr trivial)))))))
include hH h60 in
theorem thWays2 (hck:0 < r→ck=none):CodeQ w0 nTh (.loop b2Th) ((s2 14 0 r ck (lI 2 (rwL g r) 0 0 []) 23).w3 (rwV g r)).1 ((s2 14 0 r ck (lI 2 (rwL g r) 0 0 []) 23).w3 (rwV g r)).2 fun x tm st=>x=.exit 2∧tm=((s2 14 r r ck (lI 2 (rwL g r) r r []) 23).w3 (rwV g r)).1∧st=((s2 14 r r ck (lI 2 (rwL g r) r r []) 23).w3 (rwV g r)).2:=by
 have ln:((rwL g r).length:Int)=Int.ofNat r:=by rw [rwL_len];rfl
 have hl:(rwL g r).length≤60:=by rw [rwL_len];exact h60
 have gr:some (SV.bool (not (ltI (Int.ofNat r) 0)))=some (SV.bool true):=o_ge (ofN_0 r)
 refine CodeQ.loop (α:=Nat) (S:=fun i=>(s2 14 i r ck (lI 2 (rwL g r) i i []) 23).w3 (rwV g r)) (Inv:=fun i=>i≤r) (μ:=fun i=>r - i) (fun i hi=>?_) 0 (Nat.zero_le _)
 replace hi:i≤r:=hi
 have H:HJ (lI 2 (rwL g r) i i []) 23 200:=((HJ.lI0 hl).p22 i).p23 i
 refine CodeL.code ?_
 rw [k2Th_eq]
 by_cases hlt:i < r
 ·obtain rfl:=hck (by omega)
  refine CodeL.app (thFr hH (thTY (csV cs) (rwV g r) r none [] i (lI 2 (rwL g r) i i []) 23) thPlT (And.intro (o_lt (ofN_lt hlt)) trivial) (by simp) (by simp) rfl rfl) ?_ (fun x tm st hx h=>absurd h.1 hx)
  rintro tm st ⟨-,rfl,rfl⟩
  refine CodeL.app (P1:=fun x tm st=>x=.normal∧tm=((s2 14 i r none (lI 2 (rwL g r) (i + 1) (i + 1) []) 23).w3 (rwV g r)).1∧st=((s2 14 i r none (lI 2 (rwL g r) (i + 1) (i + 1) []) 23).w3 (rwV g r)).2) (CodeQ.row (CodeQ.block (CodeL.code ?_))) ?_ (fun x tm st hx h=>absurd h.1 hx)
  ·rw [kbTh_eq]
   refine CodeL.app (thFr hH (thN2 (csV cs) (rwV g r) r none (rwL g r) i [] 23 (g i)) thPlB ?_ (by simp) (by simp) rfl rfl) ?_ (fun x tm st hx h=>absurd h.1 hx)
   ·have gi:some (SV.bool (not (ltI (Int.ofNat i) 0)))=some (SV.bool true):=o_ge (ofN_0 i)
    have gl:some (SV.bool (not (ltI (Int.ofNat i) (Int.ofNat r))))=some (SV.bool false):=o_nge (ofN_lt hlt)
    have nc:=thInc (i:=i) (by omega)
    have H1:=H.p22 (i + 1)
    have s1:tRes xSetAt 1 (hZ (lI 2 (rwL g r) i i []) 23) [(vr 22).sv,.int .i64 1,(vnum (Int.ofNat (i + 1))).sv] (.bool true) (hZ (lI 2 (rwL g r) (i + 1) i []) 23):=zSetAt (i:=1) H (by simp [uMax]) lI_22 (by simp [wk]) (lI_p22 (i + 1))
    have s2:tRes xSetAt 1 (hZ (lI 2 (rwL g r) (i + 1) i []) 23) [(vr 23).sv,.int .i64 1,(vnum (Int.ofNat (i + 1))).sv] (.bool true) (hZ (lI 2 (rwL g r) (i + 1) (i + 1) []) 23):=zSetAt (i:=1) H1 (by simp [uMax]) lI_23 (by simp [wk]) (lI_p23 (i + 1))
    unfold tThN2
    exact And.intro (zLen lI_21 ln) (And.intro gr (And.intro gi (And.intro (zLen lI_21 ln) (And.intro gl (And.intro nc (And.intro s1 (And.intro (zAt lI_21 (rwL_at g hlt)) (And.intro (zLen lI_21 ln) (And.intro gr (And.intro gi (And.intro (zLen lI_21 ln) (And.intro gl (And.intro nc (And.intro s2 (And.intro (zAt lI_21 (rwL_at g hlt)) trivial)))))))))))))))
   ·rintro tm st ⟨-,rfl,rfl⟩
    refine (QT.code hH (thC h60 hlt) thPlC (And.intro (o_neV _ rfl rfl) (And.intro (o_neV _ rfl rfl) trivial)) (hidC (by simp))).mono ?_
    rintro x tm st ⟨rfl,rfl,rfl⟩
    exact ⟨rfl,rfl,rfl⟩
  ·rintro tm st ⟨-,rfl,rfl⟩
   refine (thFr (tl:=[]) hH ((thU (csV cs) (rwV g r) r none [] (lI 2 (rwL g r) (i + 1) (i + 1) []) 23).at (List.mem_range.2 (show i < 60 by omega))) thPlU trivial (by simp) (by simp) rfl rfl).mono ?_
   rintro x tm st ⟨rfl,rfl,rfl⟩
   exact .inl ⟨rfl,i + 1,by show i + 1≤r;omega,by show r - (i + 1) < r - i;omega,rfl,rfl⟩
 ·obtain rfl:i=r:=by omega
  refine CodeL.app (thFr hH (thTN (csV cs) (rwV g i) i ck [] i (lI 2 (rwL g i) i i []) 23) thPlT (And.intro (o_nlt (ofN_nlt (Nat.le_refl _))) trivial) (by simp) (by simp) rfl rfl) (fun tm st h=>by cases h.1) ?_
  rintro x tm st hx ⟨rfl,rfl,rfl⟩
  exact .inr ⟨hx,rfl,rfl,rfl⟩
theorem HJ.stop2 (hl:(rwL g r).length≤60):HJ (lI 2 (rwL g r) r r (zS 0)) (mS 0) 200∧HJ (lI 2 (rwL g r) r r (zS 1)) (mS 1) 205∧HJ (lI 2 (rwL g r) r r (zS 2)) (mS 2) 210:=by
 have H:HJ (lI 2 (rwL g r) r r (zS 0)) (mS 0) 200:=((HJ.lI0 hl).p22 r).p23 r
 have H1:=H.e2 (arg:=[]) (nm:=eStop) (c:=14) (d:=[(vstr sArgs,vr (mS 0 + 1))]) (by simp) (by simp)
 have H2:HJ (lI 2 (rwL g r) r r (zS 1)) (mS 1) 205:=by rw [← zS_0];exact H1
 have H3:=H2.e2 (arg:=[]) (nm:=eStop) (c:=14) (d:=[(vstr sArgs,vr (mS 1 + 1))]) (by simp) (by simp)
 exact ⟨H,H2,by rw [← zS_1];exact H3⟩
theorem thStopT2 {z:Obs} {m:Int} {u:Nat} (H:HJ (lI 2 (rwL g r) r r z) m u) (hu:u + 5≤uMax):(tThS2 r (rwL g r) z m).ok:=by
 have ln:((rwL g r).length:Int)=Int.ofNat r:=by rw [rwL_len];rfl
 have gr:some (SV.bool (not (ltI (Int.ofNat r) 0)))=some (SV.bool true):=o_ge (ofN_0 r)
 have ge:some (SV.bool (not (ltI (Int.ofNat r) (Int.ofNat r))))=some (SV.bool true):=o_ge (ofN_nlt (Nat.le_refl _))
 have g2:get (e3 (lI 2 (rwL g r) r r z) m [] eStop 14) (m + 1 + 1)=some (o2 eStop 14 [(vstr sArgs,vr (m + 1))]):=gE2 H (by simp)
 have g1:get (e3 (lI 2 (rwL g r) r r z) m [] eStop 14) (m + 1)=some (o1 []):=gE1 H (by simp)
 have g0:get (e3 (lI 2 (rwL g r) r r z) m [] eStop 14) 21=some ⟨2,[],0,rwL g r,[]⟩:=get_app_l (get_app_l lI_21)
 unfold tThS2
 exact And.intro (zLen lI_21 ln) (And.intro gr (And.intro gr (And.intro (zLen lI_21 ln) (And.intro ge (And.intro (xE1 H hu (by simp)) (And.intro (xE2 H hu (by simp)) (And.intro (xE3 H hu (by simp)) (And.intro (zLen g0 ln) (And.intro gr (And.intro gr (And.intro (zLen g0 ln) (And.intro ge
  (And.intro (zAt g2 (i:=0) rfl) (And.intro (zKind g2 rfl) (And.intro (zAt g2 (i:=0) rfl) (And.intro (zKind g2 rfl) (And.intro (zGet g2 rfl) (And.intro (zAtN g1 (.inr (by simp [o1]))) trivial))))))))))))))))))
include hH h60 in
theorem thStops2:CodeQ w0 nTh (.loop b3Th) ((s2 17 0 r ck (lI 2 (rwL g r) r r (zS 0)) (mS 0)).w3 (rwV g r)).1 ((s2 17 0 r ck (lI 2 (rwL g r) r r (zS 0)) (mS 0)).w3 (rwV g r)).2 fun x tm st=>x=.exit 4∧tm=((s2 17 2 r ck (lI 2 (rwL g r) r r (zS 2)) (mS 2)).w3 (rwV g r)).1∧st=((s2 17 2 r ck (lI 2 (rwL g r) r r (zS 2)) (mS 2)).w3 (rwV g r)).2:=by
 have hl:(rwL g r).length≤60:=by rw [rwL_len];exact h60
 obtain ⟨H0,H1,H2⟩:=HJ.stop2 (r:=r) hl
 refine CodeQ.loop (α:=Nat) (S:=fun j=>(s2 17 j r ck (lI 2 (rwL g r) r r (zS j)) (mS j)).w3 (rwV g r)) (Inv:=fun j=>j≤2) (μ:=fun j=>2 - j) (fun j hj=>?_) 0 (Nat.zero_le _)
 replace hj:j≤2:=hj
 refine CodeL.code ?_
 show CodeL w0 nTh k3Th _ _ _
 rcases (by omega:j=0∨j=1∨j=2) with rfl | rfl | rfl
 ·refine (thFr hH ((thS2 (csV cs) (rwV g r) r ck (rwL g r) (zS 0) (mS 0)).at (List.mem_range.2 (show 0 < 2 by omega))) thPl3 (thStopT2 H0 (by simp [uMax])) (by simp) (by simp) rfl rfl).mono ?_
  rintro x tm st ⟨rfl,rfl,rfl⟩
  rw [zS_0]
  exact .inl ⟨rfl,1,by show 1≤2;omega,by show 2 - 1 < 2 - 0;omega,rfl,rfl⟩
 ·refine (thFr hH ((thS2 (csV cs) (rwV g r) r ck (rwL g r) (zS 1) (mS 1)).at (List.mem_range.2 (show 1 < 2 by omega))) thPl3 (thStopT2 H1 (by simp [uMax])) (by simp) (by simp) rfl rfl).mono ?_
  rintro x tm st ⟨rfl,rfl,rfl⟩
  rw [zS_1]
  exact .inl ⟨rfl,2,by show 2≤2;omega,by show 2 - 2 < 2 - 1;omega,rfl,rfl⟩
 ·refine (thFr (tl:=[]) hH (thX (csV cs) (rwV g r) r ck [] (lI 2 (rwL g r) r r (zS 2)) (mS 2)) thPl3 trivial (by simp) (by simp) rfl rfl).mono ?_
  rintro x tm st ⟨rfl,rfl,rfl⟩
  exact .inr ⟨by simp,rfl,rfl,rfl⟩
include hH h60 in
theorem thEnd2 (h1:1≤r):CodeL w0 nTh ((kTh.drop 21).take 1++((kTh.drop 22).take 1++((kTh.drop 23).take 1++kTh.drop 24))) ((s2 17 2 r none (lI 2 (rwL g r) r r (zS 2)) (mS 2)).w3 (rwV g r)).1 ((s2 17 2 r none (lI 2 (rwL g r) r r (zS 2)) (mS 2)).w3 (rwV g r)).2 ThEnd:=by
 have ln:((rwL g r).length:Int)=Int.ofNat r:=by rw [rwL_len];rfl
 have hl:(rwL g r).length≤60:=by rw [rwL_len];exact h60
 have gr:some (SV.bool (not (ltI (Int.ofNat r) 0)))=some (SV.bool true):=o_ge (ofN_0 r)
 obtain ⟨-,-,H⟩:=HJ.stop2 (r:=r) hl
 have e27:mS 2=27:=rfl
 generalize mS 2=m at H e27 ⊢
 generalize zS 2=z at H ⊢
 have HA:=H.lA r
 have HB:HJ (lB 2 (rwL g r) r z m) (m + 1 + 1) 300:=HA.add _ (by simp only [List.length_nil];omega)
 have ec:get (lB 2 (rwL g r) r z m) (m + 1 + 1)=some ⟨1,[],0,rwL g r,[]⟩:=get_last HA _
 refine CodeL.app (thFrX hH (extC_ok (callable_of (by kernel_rfl)) extS_ok) (thL 2 (csV cs) (rwV g r) r none (rwL g r) z m) thPlL (And.intro (alCall2 h1 h60 H (by simp [uMax])) trivial) (by simp) (by simp) rfl rfl) ?_ (fun x tm st hx h=>absurd h.1 hx)
 rintro tm st ⟨-,rfl,rfl⟩
 refine CodeL.app (thFr hH (thK (csV cs) (rwV g r) r none [] (lB 2 (rwL g r) r z m) (m + 1 + 1) (m + 1 + 1) (g 0)) thPlK ?_ (by simp) (by simp) rfl rfl) ?_ (fun x tm st hx h=>absurd h.1 hx)
 ·unfold tThK
  exact And.intro (zAt ec (i:=0) (rwL_at g (by omega))) (And.intro (zKind ec rfl) (And.intro (zKind ec rfl) (And.intro (zLen ec ln) (And.intro gr trivial))))
 rintro tm st ⟨-,rfl,rfl⟩
 refine CodeL.app (QT.code hH (thG' h1 h60) thPlG ?_ (hidC (by simp))) ?_ (fun x tm st hx h=>absurd h.1 hx)
 ·have ec':get (ltH g (lB 2 (rwL g r) r z m) (m + 1 + 1) r) (m + 1 + 1)=some ⟨1,[],0,rwL g r,[]⟩:=get_app_l ec
  have en:get (ltH g (lB 2 (rwL g r) r z m) (m + 1 + 1) r) (m + 1 + 1 + 1)=some ⟨1,[],0,rwL g r,[]⟩:=get_last HB _
  unfold tThG
  refine TL.ok_app ?_ (TL.ok_map _ (fun j=>thEV _) _)
  exact And.intro (tMk HB (by simp [uMax]) ⟨by decide,by decide⟩ (by rw [rwL_len];simp only [uMax];omega)) (And.intro (zAt ec' (i:=0) (rwL_at g (by omega))) (And.intro (zKind ec' rfl) (And.intro (zKind ec' rfl) (And.intro (zKind ec' rfl) (And.intro (zKind en rfl) (And.intro (o_neq (by omega)) (And.intro (zKind ec' rfl) (And.intro (zKind ec' rfl) (And.intro (zKind en rfl) (And.intro (zKind ec' rfl)
   (And.intro (zLen ec' ln) (And.intro (zKind en rfl) (And.intro (zLen en ln) (And.intro (zKind ec' rfl) (And.intro (zItems en rfl) (And.intro (zItems ec' rfl) trivial))))))))))))))))
 rintro tm st ⟨-,rfl,rfl⟩
 exact QE.frame hH _ (thE (csV cs) (rwV g r) r none [] (ltH g (lB 2 (rwL g r) r z m) (m + 1 + 1) r) (m + 1 + 1 + 1) (m + 1 + 1)) thPlE (And.intro (thNR (by omega)) (And.intro (thEV _) trivial)) (Nat.lt_of_lt_of_le (by decide:3 < 4) (zB (by kernel_rfl))) rfl (by omega) (t0:=7) rfl
include hH h60 in
theorem thRest2:CodeL w0 nTh ((kTh.drop 12).take 6++([.block 2 (.loop b2Th)]++((kTh.drop 19).take 1++([.block 4 (.loop b3Th)]++((kTh.drop 21).take 1++((kTh.drop 22).take 1++((kTh.drop 23).take 1++kTh.drop 24))))))) ((s3 r (ckT r) 2 (rwL g r)).w3 (rwV g r)).1 ((s3 r (ckT r) 2 (rwL g r)).w3 (rwV g r)).2 ThEnd:=by
 have hck:0 < r→ckT r=none:=fun h=>by cases r with
  | zero=>omega
  | succ q=>rfl
 refine CodeL.app (thBegin2 hH h60) ?_ (fun x tm st hx h=>absurd h.1 hx)
 rintro tm st ⟨-,rfl,rfl⟩
 refine CodeL.app (P1:=fun x tm st=>x=.normal∧tm=((s2 14 r r (ckT r) (lI 2 (rwL g r) r r []) 23).w3 (rwV g r)).1∧st=((s2 14 r r (ckT r) (lI 2 (rwL g r) r r []) 23).w3 (rwV g r)).2) (CodeQ.row (CodeQ.block ((thWays2 hH h60 hck).mono ?_))) ?_ (fun x tm st hx h=>absurd h.1 hx)
 ·rintro x tm st ⟨rfl,rfl,rfl⟩
  exact ⟨rfl,rfl,rfl⟩
 rintro tm st ⟨-,rfl,rfl⟩
 refine CodeL.app (thFr (tl:=[]) hH (thV (csV cs) (rwV g r) r (ckT r) [] r (lI 2 (rwL g r) r r (zS 0)) (mS 0)) thPlV trivial (by simp) (by simp) rfl rfl) ?_ (fun x tm st hx h=>absurd h.1 hx)
 rintro tm st ⟨-,rfl,rfl⟩
 refine CodeL.app (P1:=fun x tm st=>x=.normal∧tm=((s2 17 2 r (ckT r) (lI 2 (rwL g r) r r (zS 2)) (mS 2)).w3 (rwV g r)).1∧st=((s2 17 2 r (ckT r) (lI 2 (rwL g r) r r (zS 2)) (mS 2)).w3 (rwV g r)).2) (CodeQ.row (CodeQ.block ((thStops2 hH h60).mono ?_))) ?_ (fun x tm st hx h=>absurd h.1 hx)
 ·rintro x tm st ⟨rfl,rfl,rfl⟩
  exact ⟨rfl,rfl,rfl⟩
 rintro tm st ⟨-,rfl,rfl⟩
 by_cases h0:r=0
 ·subst h0
  rw [kT21]
  have e:e3 (e3 (lI 2 [] 0 0 []) 23 [] eStop 14) 25 [] eStop 14=lI 2 (rwL g 0) 0 0 (zS 2):=by
   have a:=zS_0 2 [] 0
   have b:=zS_1 2 [] 0
   rw [← a] at b
   exact b
  have h:=thE02 (csV cs)
  rw [e] at h
  exact QE.code (tl:=[]) hH h thPlZ trivial
 ·rw [hck (by omega)]
  exact thEnd2 hH h60 (by omega)
end
section
variable {w0:B0} {cs:List Int} (hH:Hd w0 (foC (csV cs)) 1) {n:Nat} (hn:n * 1≤cs.length)
include hH hn in
theorem thAll (tu:Bool):CodeQ w0 nTh cTh (initT [.sl 0 0 n 1 none,.bool tu] 0 .e) (st0N 1 []) ThEnd:=by
 refine CodeL.code ?_
 rw [kTh_eq]
 refine CodeL.app (PT.code (s:=(initT [.sl 0 0 n 1 none,.bool tu] 0 .e,st0N 1 [])) hH (thP (csV cs) n tu) thPlP trivial (hidC (by simp))) ?_ (fun x tm st hx h=>absurd h.1 hx)
 rintro tm st ⟨-,rfl,rfl⟩
 refine CodeL.app (P1:=fun x tm st=>x=.normal∧∃ r,r≤60∧tm=((s1 n tu r r (ckT r)).w3 (rwV (gT cs) r)).1∧st=((s1 n tu r r (ckT r)).w3 (rwV (gT cs) r)).2) (CodeQ.row (CodeQ.block ((thLoop1 hH hn tu).mono ?_))) ?_ (fun x tm st hx h=>absurd h.1 hx)
 ·rintro x tm st ⟨rfl,r,hr,rfl,rfl⟩
  exact ⟨rfl,r,hr,rfl,rfl⟩
 rintro tm st ⟨-,r,hr,rfl,rfl⟩
 cases tu with
 | false =>
  refine CodeL.app (QT.code hH ((thM1 (csV cs) n (gT cs)).at (List.mem_range.2 (Nat.lt_succ_of_le hr))) thPlM ?_ (hidC (by simp))) ?_ (fun x tm st hx h=>absurd h.1 hx)
  ·exact And.intro (tMk HJ.zero (by simp [uMax]) ⟨by decide,by decide⟩ (by rw [rwL_len];simp only [uMax];omega)) trivial
  rintro tm st ⟨-,rfl,rfl⟩
  exact thRest1 hH hr
 | true =>
  refine CodeL.app (QT.code hH ((thM2 (csV cs) n (gT cs)).at (List.mem_range.2 (Nat.lt_succ_of_le hr))) thPlM ?_ (hidC (by simp))) ?_ (fun x tm st hx h=>absurd h.1 hx)
  ·exact And.intro (tMk HJ.zero (by simp [uMax]) ⟨by decide,by decide⟩ (by rw [rwL_len];simp only [uMax];omega)) trivial
  rintro tm st ⟨-,rfl,rfl⟩
  exact thRest2 hH hr
end
theorem thNil0 (tu:Bool):LawT fTh [.slice none 0 0,.bool tu] :=
 lawQ (c:=cTh) (vs:=[.nils,.bool tu]) Tryz.func3 (by kernel_rfl) (zB (by kernel_rfl)) (zB (by kernel_rfl)) (.cons .nils (.cons (.bool _) .nil)) fun w0 hg =>
  CodeL.code (PE.code (s:=(initT [.nils,.bool tu] 0 .e,st0 [])) (Hd.of _) (thNil tu) thPlN trivial)
theorem through_any (tu:Bool):LawIx fTh 1 [.bool tu] :=
 lawIx (xs:=[.bool tu]) (fun e=>.cons (.bool _) .nil) (by omega) (c:=cTh) Tryz.func3 (by kernel_rfl) (zB (by kernel_rfl)) (zB (by kernel_rfl)) (thNil0 tu) fun w0 n cs hH hn hw=>thAll hH hn tu
end
end Go.Proofs.YtildnolfgdcndaaGreatDoor.W.E
