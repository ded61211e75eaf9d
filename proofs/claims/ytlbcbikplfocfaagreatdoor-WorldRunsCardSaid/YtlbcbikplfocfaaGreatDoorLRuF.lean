/- LRuF -/
import Derived.Test.YtlbcbikplfocfaaGreatDoorLRuP
set_option linter.unusedVariables false
set_option linter.unusedSimpArgs false
namespace Go.Proofs.YtlbcbikplfocfaaGreatDoor.W.E
section
set_option maxRecDepth 100000
open Go.RowKit
abbrev okFu (l:List Code):Prop:=(l.all fun c=>planOkC (plan fFu) c)=true
theorem fuPlA:okFu (kFu.take 3):=by delta okFu;kernel_rfl
theorem fuPl1:okFu k1Fu:=by delta okFu;kernel_rfl
theorem fuPlI:okFu ((kFu.drop 4).take 1):=by delta okFu;kernel_rfl
theorem fuPl2:okFu k2Fu:=by delta okFu;kernel_rfl
theorem fuPlE:okFu (kFu.drop 6):=by delta okFu;kernel_rfl
theorem hid3 {live:Live}:∀ b,b < 3→(b,b)∈((0,0) :: (1,1) :: (2,2) :: live):=fun b h=>by
 match b,h with
 | 0,_=>simp
 | 1,_=>simp
 | 2,_=>simp
def mN (m:Int):Nat→Int
 | 0=>m
 | j + 1=>mN m j + 1
theorem mN_eq (m:Int):∀ j:Nat,mN m j=m + j
 | 0=>by simp [mN]
 | j + 1=>by rw [mN,mN_eq m j];omega
def lCe (l:Obs) (m:Int):Nat→Obs
 | 0=>l
 | j + 1=>lCe l m j++[(mN m j + 1,oCe (Int.ofNat j))]
def gF (p:Int) (d:Nat) (m:Int) (i:Nat):V:=if i=0 then vnum 5 else if i=1 then vnum p else if i=2 then vnum (Int.ofNat d) else if i < 3 + d then vnum (Int.ofNat (97 + i)) else vr (mN m (i - 3 - d) + 1)
theorem rwV_snoc (g:Nat→V) (r:Nat):rwV g (r + 1)=rwV g r++(g r).svc:=by
 unfold rwV;rw [List.range_succ,List.flatMap_append];simp
theorem gF_def {p:Int} {d:Nat} {m:Int} {i:Nat} (h:i < d):gF p d m (3 + i)=vnum (Int.ofNat (97 + (3 + i))):=by
 unfold gF;rw [if_neg (by omega),if_neg (by omega),if_neg (by omega),if_pos (by omega)]
theorem gF_cell {p:Int} {d:Nat} {m:Int} {j:Nat}:gF p d m (3 + d + j)=vr (mN m j + 1):=by
 unfold gF;rw [if_neg (by omega),if_neg (by omega),if_neg (by omega),if_neg (by omega),show 3 + d + j - 3 - d=j by omega]
theorem incOk {j:Nat} (h:j < 1000000):some (SV.int .i64 (wrapF .i64 (Int.add (Int.ofNat j) 1)))=some (.int .i64 (Int.ofNat (j + 1))):=o_add (by simp only [Int.ofNat_eq_natCast];omega)
theorem HJ.ce {l:Obs} {m:Int} {u:Nat} (H:HJ l m u):∀ j,HJ (lCe l m j) (mN m j) (u + 2 * j)
 | 0=>H
 | j + 1=>(HJ.ce H j).add _ (by simp only [List.length_cons,List.length_nil];omega)
theorem lCe_of {l:Obs} {m:Int} {u:Nat} (H:HJ l m u) {i:Nat}:∀ {j:Nat},i < j→get (lCe l m j) (mN m i + 1)=some (oCe (Int.ofNat i))
 | 0,h=>by omega
 | j + 1,h=>by
  by_cases e:i=j
  ·subst e;exact get_last (HJ.ce H i) _
  ·exact get_app_l (lCe_of H (by omega))
theorem lCe_lZ (z:Obs) (m:Int):∀ j,∃ z',lCe (lZ [] z) m j=lZ [] z'
 | 0=>⟨z,rfl⟩
 | j + 1=>by
  obtain ⟨z',h⟩:=lCe_lZ z m j
  exact ⟨z'++[(mN m j + 1,oCe (Int.ofNat j))],by rw [lCe,h,lZ_app]⟩
def xsF (p:Int) (d:Nat) (m:Int) (c:Nat):List V:=rwL (fun i=>gF p d m (3 + i)) (d + c)
theorem rwL_len (g:Nat→V) (r:Nat):(rwL g r).length=r:=by simp [rwL]
theorem rwL_at (g:Nat→V) {r i:Nat} (h:i < r):(rwL g r)[i]?=some (g i):=by simp [rwL,List.getElem?_range h]
theorem itemsF (p:Int) (d:Nat) (m:Int) (c:Nat):rwL (fun j=>gF p d m (j + 1)) (3 + d + c - 1)=vnum p :: vnum (Int.ofNat d) :: xsF p d m c:=by
 refine List.ext_getElem? fun i=>?_
 by_cases h:i < 3 + d + c - 1
 ·rw [rwL_at _ h]
  match i with
  | 0=>rfl
  | 1=>rfl
  | i + 2 =>
   show _=(xsF p d m c)[i]?
   unfold xsF
   rw [rwL_at _ (by omega)]
   show some (gF p d m (i + 2 + 1))=_
   rw [show i + 2 + 1=3 + i by omega]
 ·rw [List.getElem?_eq_none (by rw [rwL_len];omega),List.getElem?_eq_none (by simp only [List.length_cons,xsF,rwL_len];omega)]
abbrev lFu (l:Obs) (m p:Int) (d c:Nat):Obs:=lCe l m c++[(mN m c + 1,oFn 5 (vnum p :: vnum (Int.ofNat d) :: xsF p d m c))]
section
variable {w0:B0} (hH:Hd w0 fo0 3) {p:Int} {d c:Nat} {l:Obs} {m:Int} {u:Nat}
include hH in
theorem fuLoop1 (hd:d≤9):CodeQ w0 nFu (.loop b1Fu) (f1 (Int.ofNat d) (Int.ofNat c) 3 0 (rwV (gF p d m) 3) l m).1 (f1 (Int.ofNat d) (Int.ofNat c) 3 0 (rwV (gF p d m) 3) l m).2
  fun y tm st=>y=.exit 0∧tm=(fX (Int.ofNat d) (Int.ofNat c) (3 + d) (rwV (gF p d m) (3 + d)) l m).1∧st=(fX (Int.ofNat d) (Int.ofNat c) (3 + d) (rwV (gF p d m) (3 + d)) l m).2:=by
 refine CodeQ.loop (α:=Nat) (S:=fun i=>f1 (Int.ofNat d) (Int.ofNat c) (3 + i) i (rwV (gF p d m) (3 + i)) l m) (Inv:=fun i=>i≤d) (μ:=fun i=>d - i) (fun i hi=>?_) 0 (Nat.zero_le _)
 refine CodeL.code ?_
 show CodeL w0 nFu k1Fu (f1 (Int.ofNat d) (Int.ofNat c) (3 + i) i (rwV (gF p d m) (3 + i)) l m).1 (f1 (Int.ofNat d) (Int.ofNat c) (3 + i) i (rwV (gF p d m) (3 + i)) l m).2 _
 replace hi:i≤d:=hi
 have e1:3 + i - 3=i:=by omega
 have e2:3 + i - 2=i + 1:=by omega
 by_cases hlt:i < d
 ·have h:=(fuL (Int.ofNat d) (Int.ofNat c) (gF p d m) l m).at (i:=3 + i) (List.mem_range'_1.2 ⟨by omega,by omega⟩)
  simp only [e1,e2] at h
  rw [show rwV (gF p d m) (3 + i)++(vnum (Int.ofNat (97 + (3 + i)))).svc=rwV (gF p d m) (3 + (i + 1)) by rw [← gF_def (p:=p) (m:=m) hlt];exact (rwV_snoc _ _).symm] at h
  refine (QT.code hH h fuPl1 (And.intro (o_lt (by simp only [Int.ofNat_eq_natCast];omega)) trivial) hid3).mono ?_
  rintro x tm st ⟨rfl,rfl,rfl⟩
  exact .inl ⟨rfl,i + 1,by show i + 1≤d;omega,by show d - (i + 1) < d - i;omega,rfl,rfl⟩
 ·obtain rfl:i=d:=by omega
  have h:=(fuX (Int.ofNat i) (Int.ofNat c) (gF p i m) l m).at (i:=3 + i) (List.mem_range'_1.2 ⟨by omega,by omega⟩)
  simp only [e1,e2] at h
  refine (QT.code hH h fuPl1 (And.intro (o_nlt (by omega)) trivial) hid3).mono ?_
  rintro x tm st ⟨rfl,rfl,rfl⟩
  exact .inr ⟨by simp,rfl,rfl,rfl⟩
include hH in
theorem fuLoop2 (hd:d≤9) (hc:c≤4) (H:HJ l m u) (hu:u + 100≤uMax):CodeQ w0 nFu (.loop b2Fu) (f2 (Int.ofNat d) (Int.ofNat c) (3 + d) 0 (rwV (gF p d m) (3 + d)) l m).1 (f2 (Int.ofNat d) (Int.ofNat c) (3 + d) 0 (rwV (gF p d m) (3 + d)) l m).2
  fun y tm st=>y=.exit 2∧tm=(fX (Int.ofNat d) (Int.ofNat c) (3 + d + c) (rwV (gF p d m) (3 + d + c)) (lCe l m c) (mN m c)).1∧st=(fX (Int.ofNat d) (Int.ofNat c) (3 + d + c) (rwV (gF p d m) (3 + d + c)) (lCe l m c) (mN m c)).2:=by
 refine CodeQ.loop (α:=Nat) (S:=fun j=>f2 (Int.ofNat d) (Int.ofNat c) (3 + d + j) j (rwV (gF p d m) (3 + d + j)) (lCe l m j) (mN m j)) (Inv:=fun j=>j≤c) (μ:=fun j=>c - j) (fun j hj=>?_) 0 (Nat.zero_le _)
 refine CodeL.code ?_
 show CodeL w0 nFu k2Fu (f2 (Int.ofNat d) (Int.ofNat c) (3 + d + j) j (rwV (gF p d m) (3 + d + j)) (lCe l m j) (mN m j)).1 (f2 (Int.ofNat d) (Int.ofNat c) (3 + d + j) j (rwV (gF p d m) (3 + d + j)) (lCe l m j) (mN m j)).2 _
 replace hj:j≤c:=hj
 by_cases hlt:j < c
 ·have h:=(fuC (Int.ofNat d) (Int.ofNat c) (gF p d m) (lCe l m j) (mN m j) j).at (i:=3 + d + j) (List.mem_range'_1.2 ⟨by omega,by omega⟩)
  rw [show rwV (gF p d m) (3 + d + j)++(vr (mN m j + 1)).svc=rwV (gF p d m) (3 + d + (j + 1)) by rw [← gF_cell (p:=p) (d:=d)];exact (rwV_snoc _ _).symm] at h
  refine (QT.code hH h fuPl2 (And.intro (o_lt (by simp only [Int.ofNat_eq_natCast];omega)) (And.intro (tMk (HJ.ce H j) (by omega) ⟨by decide,by decide⟩ (by simp [uMax])) (And.intro (incOk (by omega)) trivial))) hid3).mono ?_
  rintro x tm st ⟨rfl,rfl,rfl⟩
  exact .inl ⟨rfl,j + 1,by show j + 1≤c;omega,by show c - (j + 1) < c - j;omega,rfl,rfl⟩
 ·obtain rfl:j=c:=by omega
  have h:=(fuY (Int.ofNat d) (Int.ofNat j) (gF p d m) (lCe l m j) (mN m j) j).at (i:=3 + d + j) (List.mem_range'_1.2 ⟨by omega,by omega⟩)
  refine (QT.code hH h fuPl2 (And.intro (o_nlt (by omega)) trivial) hid3).mono ?_
  rintro x tm st ⟨rfl,rfl,rfl⟩
  exact .inr ⟨by simp,rfl,rfl,rfl⟩
include hH in
theorem fuAll (hd:d≤9) (hc:c≤4) (H:HJ l m u) (hu:u + 100≤uMax):CodeQ w0 nFu cFu (fI p (Int.ofNat d) (Int.ofNat c) (hZ l m)).1 (fI p (Int.ofNat d) (Int.ofNat c) (hZ l m)).2
  fun x tm st=>x=.ret∧tm=(fZ (lFu l m p d c) (mN m c + 1) (mN m c + 1)).1∧st=(fZ (lFu l m p d c) (mN m c + 1) (mN m c + 1)).2:=by
 refine CodeL.code ?_
 rw [kFu_eq]
 refine CodeL.app (QT.code (tl:=[]) hH (fuA p (Int.ofNat d) (Int.ofNat c) l m) fuPlA trivial hid3) ?_ (fun x tm st hx h=>absurd h.1 hx)
 rintro tm st ⟨-,rfl,rfl⟩
 rw [show (vnum 5).svc++((vnum p).svc++(vnum (Int.ofNat d)).svc)=rwV (gF p d m) 3 by kernel_rfl]
 refine CodeL.app (P1:=fun x tm st=>x=.normal∧tm=(fX (Int.ofNat d) (Int.ofNat c) (3 + d) (rwV (gF p d m) (3 + d)) l m).1∧st=(fX (Int.ofNat d) (Int.ofNat c) (3 + d) (rwV (gF p d m) (3 + d)) l m).2) (CodeQ.row (CodeQ.block ((fuLoop1 hH hd).mono ?_))) ?_ (fun x tm st hx h=>absurd h.1 hx)
 ·rintro x tm st ⟨rfl,rfl,rfl⟩
  exact ⟨rfl,rfl,rfl⟩
 rintro tm st ⟨-,rfl,rfl⟩
 refine CodeL.app (QT.code (tl:=[]) hH ((fuI (Int.ofNat d) (Int.ofNat c) (gF p d m) l m).at (i:=3 + d) (List.mem_range'_1.2 ⟨by omega,by omega⟩)) fuPlI trivial hid3) ?_ (fun x tm st hx h=>absurd h.1 hx)
 rintro tm st ⟨-,rfl,rfl⟩
 refine CodeL.app (P1:=fun x tm st=>x=.normal∧tm=(fX (Int.ofNat d) (Int.ofNat c) (3 + d + c) (rwV (gF p d m) (3 + d + c)) (lCe l m c) (mN m c)).1∧st=(fX (Int.ofNat d) (Int.ofNat c) (3 + d + c) (rwV (gF p d m) (3 + d + c)) (lCe l m c) (mN m c)).2) (CodeQ.row (CodeQ.block ((fuLoop2 hH hd hc H hu).mono ?_))) ?_ (fun x tm st hx h=>absurd h.1 hx)
 ·rintro x tm st ⟨rfl,rfl,rfl⟩
  exact ⟨rfl,rfl,rfl⟩
 rintro tm st ⟨-,rfl,rfl⟩
 have h:=(fuE (Int.ofNat d) (Int.ofNat c) (gF p d m) (lCe l m c) (mN m c)).at (i:=3 + d + c) (List.mem_range'_1.2 ⟨by omega,by omega⟩)
 rw [itemsF] at h
 have hl:(vnum p :: vnum (Int.ofNat d) :: xsF p d m c).length≤uMax:=by simp only [List.length_cons,xsF,rwL_len,uMax];omega
 refine (QT.code hH h fuPlE (And.intro (tMk (HJ.ce H c) (by omega) ⟨by decide,by decide⟩ hl) trivial) hid3).mono ?_
 rintro x tm st ⟨rfl,rfl,rfl⟩
 exact ⟨rfl,rfl,rfl⟩
end
theorem fuCall {p:Int} {d c:Nat} {l:Obs} {m:Int} {u:Nat} (hd:d≤9) (hc:c≤4) (H:HJ l m u) (hu:u + 100≤uMax) :
  CallP fFu [.ptr 2 0,.int .i64 5,.int .i64 p,.int .i64 (Int.ofNat d),.int .i64 (Int.ofNat c)] [(2,some (wldAt 1 []))] 1 (hZ l m) (vr (mN m c + 1)).sv (hZ (lFu l m p d c) (mN m c + 1)):=by
 refine callP_of (g:=Tryz.f9) (c:=cFu) (vs2:=[.ptr 2 0,.int .i64 5,.int .i64 p,.int .i64 (Int.ofNat d),.int .i64 (Int.ofNat c)]) (b2:=1) (v2:=(vr (mN m c + 1)).sv) (live:=[(1,1),(2,2)]) (fn:=3) (m1:=mkT [(2,wldAt 1 [])]) (m2:=mkT [(2,wldAt 1 [])])
  Tryz.func9 (by kernel_rfl) (zB (by kernel_rfl)) (zB (by kernel_rfl)) (by kernel_rfl) (by simp) ?_ rfl ?_ (by kernel_rfl) ?_ rfl rfl ?_
 ·intro q hp
  simp only [List.mem_cons,List.mem_nil_iff,or_false] at hp
  rcases hp with rfl | rfl
  ·exact .inl rfl
  ·exact .inr ⟨by simp [ptr1],List.mem_cons_self ..⟩
 ·intro q hp k hk
  simp only [List.mem_cons,List.mem_nil_iff,or_false] at hp
  rcases hp with rfl | rfl
  ·cases hk
  ·cases hk;exact ⟨rfl,rfl⟩
 ·intro q hp k hk
  simp only [List.mem_cons,List.mem_nil_iff,or_false] at hp
  rcases hp with rfl | rfl
  ·cases hk
  ·cases hk;exact ⟨_,rfl,rfl⟩
 ·intro w0 hH
  refine (fuAll hH hd hc H hu).mono ?_
  rintro x tm st ⟨rfl,rfl,rfl⟩
  refine ⟨.inr rfl,by kernel_rfl,fun b k hk=>?_,rfl⟩
  have e:(fZ (lFu l m p d c) (mN m c + 1) (mN m c + 1)).2.m=(mkT [(2,wldAt 1 [])]).upd 3 (some (vM (mN m c + 1))):=by kernel_rfl
  rw [e]
  by_cases hb:b=3
  ·subst hb;cases hk
  ·rw [T.upd_ne _ _ hb];exact hk
end
end Go.Proofs.YtlbcbikplfocfaaGreatDoor.W.E
