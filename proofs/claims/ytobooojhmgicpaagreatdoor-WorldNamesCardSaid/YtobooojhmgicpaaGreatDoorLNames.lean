/- LNames -/
import Derived.Test.YtobooojhmgicpaaGreatDoorLNaP
import Derived.Test.YtobooojhmgicpaaGreatDoorLNaS
import Derived.Test.YtobooojhmgicpaaGreatDoorLNaG
set_option linter.unusedVariables false
set_option linter.unusedSimpArgs false
namespace Go.Proofs.YtobooojhmgicpaaGreatDoor.W.E
section
set_option maxRecDepth 100000
open Go.RowKit
theorem naPlP:((kNa.take 9).all fun c=>planOkC (plan fNa) c)=true:=by kernel_rfl
theorem naPlN:(kNa.all fun c=>planOkC (plan fNa) c)=true:=by kernel_rfl
theorem naPlT:((k1Na.take 2).all fun c=>planOkC (plan fNa) c)=true:=by kernel_rfl
theorem naPlD:((k1Na.drop 3).all fun c=>planOkC (plan fNa) c)=true:=by kernel_rfl
theorem naPlS:((kbNa.take 4).all fun c=>planOkC (plan fNa) c)=true:=by kernel_rfl
theorem naPlI:((k2Na.take 2).all fun c=>planOkC (plan fNa) c)=true:=by kernel_rfl
theorem naPlU:((k2Na.drop 3).all fun c=>planOkC (plan fNa) c)=true:=by kernel_rfl
theorem naPlG:(k3Na.all fun c=>planOkC (plan fNa) c)=true:=by kernel_rfl
theorem naPlF:((kNa.drop 10).all fun c=>planOkC (plan fNa) c)=true:=by kernel_rfl
theorem nm_inj:∀ k,k < 8→∀ j,j < 8→nmN k=nmN j→k=j:=by decide +kernel
structure NaI (b:Nat→Bool) (j:Nat→Int) (D:Row) (z:Obs) (m:Int) (i u:Nat):Prop where
 has:∀ k,k < 8→W.get D (vstr (nmN k))=if b k=true then some (vnum (j k)) else none
 nd:(D.map (·.1)).Nodup
 len:D.length≤i
 hj:HJ (lZ D z) m u
theorem naI0:NaI (fun _=>false) (fun _=>0) [] [] 20 0 100:=⟨fun k _=>rfl,by simp,by simp,HJ.zero⟩
theorem vstr_inj {s t:List UInt8} (h:vstr s=vstr t):s=t:=by injection h
section
variable {b:Nat→Bool} {j:Nat→Int} {D:Row} {z:Obs} {m:Int} {i u:Nat}
theorem NaI.put (H:NaI b j D z m i u) {k:Nat} (hk:k < 8) (x:Int):NaI (upN b k true) (upN j k x) (W.put D (vstr (nmN k)) (vnum x)) z m (i + 1) (u + 1):=by
 have hl:=put_len D (vstr (nmN k)) (vnum x)
 have hD:=H.len
 refine ⟨fun q hq=>?_,nodup_put H.nd _ _,by omega,?_⟩
 ·rw [get_put]
  by_cases e:q=k
  ·subst e;rw [if_pos rfl,upN_same,upN_same,if_pos rfl]
  ·rw [if_neg (fun h=>e (nm_inj k hk q hq (vstr_inj h)).symm),upN_ne _ _ e,upN_ne _ _ e,H.has q hq]
 ·rw [← lZ_put D]
  exact H.hj.set (lZ_main D z) _ (by simp only [List.length_nil];omega) (by omega)
theorem NaI.del (H:NaI b j D z m i u) {k:Nat} (hk:k < 8):NaI (upN b k false) j (W.del D (vstr (nmN k))) z m (i + 1) (u + 1):=by
 have hl:=del_len D (vstr (nmN k))
 have hD:=H.len
 refine ⟨fun q hq=>?_,nodup_del H.nd _,by omega,?_⟩
 ·rw [get_del H.nd]
  by_cases e:q=k
  ·subst e;rw [if_pos rfl,upN_same];rfl
  ·rw [if_neg (fun h=>e (nm_inj k hk q hq (vstr_inj h)).symm),upN_ne _ _ e,H.has q hq]
 ·rw [← lZ_put D]
  exact H.hj.set (lZ_main D z) _ (by simp only [List.length_nil];omega) (by omega)
theorem NaI.up (H:NaI b j D z m i u) {i' u':Nat} (hi:i≤i') (hu:u≤u'):NaI b j D z m i' u':=⟨H.has,H.nd,Nat.le_trans H.len hi,H.hj.up hu⟩
theorem NaI.exc (H:NaI b j D z m i u) (x:V):∃ z',e3 (lZ D z) m [x] eName 11=lZ D z'∧NaI b j D z' (m + 1 + 1) i (u + 5):=by
 have e:e3 (lZ D z) m [x] eName 11=lZ D (z++[(m + 1,o1 [x])]++[(m + 1 + 1,o2 eName 11 [(vstr sArgs,vr (m + 1))])]):=by
  show (lZ D z++_)++_=_
  rw [lZ_app,lZ_app]
 refine ⟨_,e,H.has,H.nd,H.len,?_⟩
 rw [← e]
 exact H.hj.e2 (by simp) (by simp)
theorem NaI.room (H:NaI b j D z m i u) (hi:i≤100) (k x:V) (hk:keyB k=true):dputB D k=true:=by
 have:=H.len
 unfold dputB
 rw [hk,decide_eq_true (show D.length < 4096 by omega)]
 simp
end
section
variable {w0:B0} {n:Nat} {cs:List Int}
abbrev NaTo (n i u:Nat) (tm:T SV) (st:St HX):Prop:=∃ b j D z m,NaI b j D z m (i + 1) u∧tm=(sNi n i b j (lZ D z) m 0).1∧st=(sNi n i b j (lZ D z) m 0).2
theorem naRound (hH:Hd w0 (foC (csV cs)) 1) (hn:n * 3≤cs.length) {i:Nat} (hi:i < n) (h60:i < 60) {b:Nat→Bool} {j:Nat→Int} {D:Row} {z:Obs} {m:Int} (H:NaI b j D z m i (100 + 100 * i)) :
  CodeL w0 nNa (kbNa.take 4) (sNa n i b j (lZ D z) m).1 (sNa n i b j (lZ D z) m).2 fun x tm st=>x=.normal∧NaTo n i (100 + 100 * i + 5) tm st:=by
 obtain ⟨x0,h0⟩:∃ x0,cs[i * 3]?=some x0:=⟨_,List.getElem?_eq_getElem (by omega)⟩
 obtain ⟨x1,h1⟩:∃ x0,cs[i * 3 + 1]?=some x0:=⟨_,List.getElem?_eq_getElem (by omega)⟩
 obtain ⟨x2,h2⟩:∃ x0,cs[i * 3 + 2]?=some x0:=⟨_,List.getElem?_eq_getElem (by omega)⟩
 have a:=rowAt3 (n:=n) hi
 have d0:=csV_at h0
 have d1:=csV_at h1
 have d2:=csV_at h2
 obtain ⟨k,hk,e0⟩:∃ k,k < 8∧andI x0 7=Int.ofNat k:=⟨(x0 % 8).toNat,by omega,by rw [andI_7];simp only [Int.ofNat_eq_natCast];omega⟩
 have m1:andI x1 1=0∨andI x1 1=1:=by rw [andI_1];omega
 have e0:=o_i64 e0
 have hp:D.length≤i:=H.len
 rcases m1 with e1 | e1
 ·have e1:=o_i64 e1
  refine (QT.code hH ((naS (csV cs) n i (i * 3) b j D z m x0 x1 x2).at (List.mem_range.2 hk)) naPlS ?_ (hidC (by simp))).mono ?_
  ·have hd:=zPut (b:=1) H.hj (by simp only [uMax];omega) (lZ_main D z) (x:=vnum x2) (H.room (by omega) (vstr (nmN k)) (vnum x2) rfl) (lZ_put D (W.put D (vstr (nmN k)) (vnum x2)) z)
   unfold tNaS
   exact And.intro a (And.intro d0 (And.intro e0 (And.intro a (And.intro d1 (And.intro e1 (And.intro a (And.intro d2 (And.intro hd (And.intro a (And.intro d2 trivial))))))))))
  ·rintro x tm st ⟨rfl,rfl,rfl⟩
   exact ⟨rfl,_,_,_,_,_,(H.put hk x2).up (Nat.le_refl _) (by omega),rfl,rfl⟩
 ·have e1:=o_i64 e1
  cases hb:b k with
  | true =>
   have hg:W.get D (vstr (nmN k))=some (vnum (j k)):=by rw [H.has k hk,if_pos hb]
   have h:=(naD (csV cs) n i (i * 3) b j D z m x0 x1 x2).at (List.mem_range.2 hk)
   rw [upN_self hb] at h
   refine (QT.code hH h naPlS ?_ (hidC (by simp))).mono ?_
   ·have hd:=zDel (b:=1) H.hj (by simp only [uMax];omega) (lZ_main D z) hg (lZ_put D (W.del D (vstr (nmN k))) z)
    unfold tNaD
    exact And.intro a (And.intro d0 (And.intro e0 (And.intro a (And.intro d1 (And.intro e1 (And.intro hd trivial))))))
   ·rintro x tm st ⟨rfl,rfl,rfl⟩
    exact ⟨rfl,_,_,_,_,_,(H.del hk).up (Nat.le_refl _) (by omega),rfl,rfl⟩
  | false =>
   have hg:W.get D (vstr (nmN k))=none:=by rw [H.has k hk,if_neg (by simp [hb])]
   have h:=(naN (csV cs) n i (i * 3) b j D z m x0 x1 x2).at (List.mem_range.2 hk)
   rw [upN_self hb] at h
   obtain ⟨z',hz,H'⟩:=H.exc (vstr (nmN k))
   refine (QT.code hH h naPlS ?_ (hidC (by simp))).mono ?_
   ·have hd:=zDelN (b:=1) H.hj (by simp only [uMax];omega) (lZ_main D z) hg
    unfold tNaN
    exact TL.ok_app (And.intro a (And.intro d0 (And.intro e0 (And.intro a (And.intro d1 (And.intro e1 (And.intro hd trivial))))))) (TL.ok_app (qRaise_ok H.hj (by simp only [uMax];omega) (by simp)) (qText_ok H.hj))
   ·rintro x tm st ⟨rfl,rfl,rfl⟩
    rw [hz]
    exact ⟨rfl,_,_,_,_,_,H'.up (by omega) (Nat.le_refl _),rfl,rfl⟩
theorem naLook (hH:Hd w0 (foC (csV cs)) 1) {i k u:Nat} (hk:k < 8) {b:Nat→Bool} {j:Nat→Int} {D:Row} {z:Obs} {m:Int} (H:NaI b j D z m (i + 1) u) (hu:u + 5≤uMax) :
  CodeL w0 nNa k3Na (sNi n i b j (lZ D z) m k).1 (sNi n i b j (lZ D z) m k).2 fun x tm st=>x=.normal∧∃ z' m',NaI b j D z' m' (i + 1) (u + 5)∧tm=(sNi n i b j (lZ D z') m' k).1∧st=(sNi n i b j (lZ D z') m' k).2:=by
 cases hb:b k with
 | true =>
  have hg:W.get D (vstr (nmN k))=some (vnum (j k)):=by rw [H.has k hk,if_pos hb]
  have h:=(naGH (csV cs) n i b j D z m).at (List.mem_range.2 hk)
  rw [upN_self hb] at h
  refine (QT.code hH h naPlG ?_ (hidC (by simp))).mono ?_
  ·unfold tNaGH
   exact And.intro (zGet (lZ_main D z) hg) (And.intro (o_neV _ rfl rfl) trivial)
  ·rintro x tm st ⟨rfl,rfl,rfl⟩
   exact ⟨rfl,_,_,H.up (Nat.le_refl _) (by omega),rfl,rfl⟩
 | false =>
  have hg:W.get D (vstr (nmN k))=none:=by rw [H.has k hk,if_neg (by simp [hb])]
  have hN:=zGetN (b:=1) (n:=m) (lZ_main D z) hg
  have key1 (h:k=1∨k=5∨k=2∨k=6):CodeL w0 nNa k3Na (sNi n i b j (lZ D z) m k).1 (sNi n i b j (lZ D z) m k).2 fun x tm st=>x=.normal∧tm=(sNi n i b j (lZ D z) m k).1∧st=(sNi n i b j (lZ D z) m k).2:=by
   rcases h with rfl | rfl | h
   ·have h:=(naGB1 (csV cs) n i b j D z m).at (List.mem_singleton.2 rfl)
    rw [upN_self hb] at h
    exact QT.code hH h naPlG (And.intro hN trivial) (hidC (by simp))
   ·have h:=(naGB5 (csV cs) n i b j D z m).at (List.mem_singleton.2 rfl)
    rw [upN_self hb] at h
    exact QT.code hH h naPlG (And.intro hN trivial) (hidC (by simp))
   ·have h:=(naGC (csV cs) n i b j D z m).at (show k∈[2,6] by rcases h with rfl | rfl<;>simp)
    rw [upN_self hb] at h
    exact QT.code hH h naPlG (And.intro hN trivial) (hidC (by simp))
  by_cases hc:k=1∨k=5∨k=2∨k=6
  ·refine (key1 hc).mono ?_
   rintro x tm st ⟨rfl,rfl,rfl⟩
   exact ⟨rfl,_,_,H.up (Nat.le_refl _) (by omega),rfl,rfl⟩
  ·have h:=(naGE (csV cs) n i b j D z m).at (show k∈[0,3,4,7] by simp;omega)
   rw [upN_self hb] at h
   obtain ⟨z',hz,H'⟩:=H.exc (vstr (nmN k))
   refine (QT.code hH h naPlG ?_ (hidC (by simp))).mono ?_
   ·unfold tNaGE
    exact TL.ok_app (And.intro hN trivial) (TL.ok_app (qRaise_ok H.hj hu (by simp)) (qText_ok H.hj))
   ·rintro x tm st ⟨rfl,rfl,rfl⟩
    rw [hz]
    exact ⟨rfl,_,_,H',rfl,rfl⟩
theorem naLooks (hH:Hd w0 (foC (csV cs)) 1) {i u:Nat} {b:Nat→Bool} {j:Nat→Int} {D:Row} {z:Obs} {m:Int} (H:NaI b j D z m (i + 1) u) (hu:u + 100≤uMax) :
  CodeQ w0 nNa (.loop b2Na) (sNi n i b j (lZ D z) m 0).1 (sNi n i b j (lZ D z) m 0).2 fun x tm st=>x=.exit 3∧∃ z' m',NaI b j D z' m' (i + 1) (u + 40)∧tm=(sNa n i b j (lZ D z') m').1∧st=(sNa n i b j (lZ D z') m').2:=by
 refine CodeQ.loop (α:=Nat × Obs × Int) (S:=fun p=>sNi n i b j (lZ D p.2.1) p.2.2 p.1) (Inv:=fun p=>p.1≤8∧NaI b j D p.2.1 p.2.2 (i + 1) (u + 5 * p.1)) (μ:=fun p=>8 - p.1) (fun p hp=>?_) (0,z,m) ⟨Nat.zero_le _,H⟩
 obtain ⟨k,z,m⟩:=p
 obtain ⟨hk,H⟩:=hp
 replace hk:k≤8:=hk
 replace H:NaI b j D z m (i + 1) (u + 5 * k):=H
 refine CodeL.code ?_
 rw [k2Na_eq]
 by_cases h8:k=8
 ·subst h8
  refine CodeL.app (QT.code hH (naJ (csV cs) n i b j (lZ D z) m) naPlI trivial (hidC (by simp))) (fun tm st h=>by cases h.1) ?_
  rintro x tm st hx ⟨rfl,rfl,rfl⟩
  exact .inr ⟨hx,rfl,z,m,H,rfl,rfl⟩
 ·have hlt:k < 8:=by omega
  refine CodeL.app (QT.code hH ((naY (csV cs) n i b j (lZ D z) m).at (List.mem_range.2 hlt)) naPlI trivial (hidC (by simp))) ?_ (fun x tm st hx h=>absurd h.1 hx)
  rintro tm st ⟨-,rfl,rfl⟩
  refine CodeL.app (P1:=fun x tm st=>x=.normal∧∃ z' m',NaI b j D z' m' (i + 1) (u + 5 * k + 5)∧tm=(sNi n i b j (lZ D z') m' k).1∧st=(sNi n i b j (lZ D z') m' k).2) (CodeQ.row (CodeQ.block (CodeL.code ((naLook hH hlt H (by omega)).mono ?_)))) ?_ (fun x tm st hx h=>absurd h.1 hx)
  ·rintro x tm st ⟨rfl,h⟩
   exact ⟨rfl,h⟩
  ·rintro tm st ⟨-,z',m',H',rfl,rfl⟩
   refine (QT.code (tl:=[]) hH ((naU (csV cs) n i b j (lZ D z') m').at (List.mem_range.2 hlt)) naPlU trivial (hidC (by simp))).mono ?_
   rintro x tm st ⟨rfl,rfl,rfl⟩
   exact .inl ⟨rfl,(k + 1,z',m'),⟨by show k + 1≤8;omega,H'.up (Nat.le_refl _) (by show u + 5 * k + 5≤u + 5 * (k + 1);omega)⟩,by show 8 - (k + 1) < 8 - k;omega,rfl,rfl⟩
theorem naLoop (hH:Hd w0 (foC (csV cs)) 1) (hn:n * 3≤cs.length):CodeQ w0 nNa (.loop b1Na) (sNa n 0 (fun _=>false) (fun _=>0) (lZ [] []) 20).1 (sNa n 0 (fun _=>false) (fun _=>0) (lZ [] []) 20).2 fun x tm st =>
  x=.exit 0∧∃ i b j l m,tm=(sNa n i b j l m).1∧st=(sNa n i b j l m).2:=by
 refine CodeQ.loop (α:=Nat × (Nat→Bool) × (Nat→Int) × Row × Obs × Int) (S:=fun p=>sNa n p.1 p.2.1 p.2.2.1 (lZ p.2.2.2.1 p.2.2.2.2.1) p.2.2.2.2.2) (Inv:=fun p=>p.1≤60∧NaI p.2.1 p.2.2.1 p.2.2.2.1 p.2.2.2.2.1 p.2.2.2.2.2 p.1 (100 + 100 * p.1)) (μ:=fun p=>60 - p.1) (fun p hp=>?_) (0,fun _=>false,fun _=>0,[],[],20) ⟨Nat.zero_le _,naI0⟩
 obtain ⟨i,b,j,D,z,m⟩:=p
 obtain ⟨hi60,H⟩:=hp
 replace hi60:i≤60:=hi60
 replace H:NaI b j D z m i (100 + 100 * i):=H
 refine CodeL.code ?_
 rw [k1Na_eq]
 by_cases hi:i < n
 ·have t1:some (SV.bool (ltI (Int.ofNat i) (Int.ofNat n)))=some (SV.bool true):=o_lt (Int.ofNat_lt.2 hi)
  by_cases h60:i < 60
  ·have t2:some (SV.bool (ltI (Int.ofNat i) 60))=some (SV.bool true):=o_lt (by simp only [Int.ofNat_eq_natCast];omega)
   refine CodeL.app (QT.code hH (naTT (csV cs) n i b j (lZ D z) m) naPlT (And.intro t1 (And.intro t2 trivial)) (hidC (by simp))) ?_ (fun x tm st hx h=>absurd h.1 hx)
   rintro tm st ⟨-,rfl,rfl⟩
   refine CodeL.app (P1:=fun x tm st=>x=.normal∧∃ b j D z m,NaI b j D z m (i + 1) (100 + 100 * (i + 1))∧tm=(sNa n i b j (lZ D z) m).1∧st=(sNa n i b j (lZ D z) m).2) (CodeQ.row (CodeQ.block (CodeL.code ?_))) ?_ (fun x tm st hx h=>absurd h.1 hx)
   ·rw [kbNa_eq]
    refine CodeL.app (naRound hH hn hi h60 H) ?_ (fun x tm st hx h=>absurd h.1 hx)
    rintro tm st ⟨-,b',j',D',z',m',H',rfl,rfl⟩
    refine CodeQ.row (CodeQ.block ((naLooks hH H' (by simp only [uMax];omega)).mono ?_))
    rintro x tm st ⟨rfl,z2,m2,H2,rfl,rfl⟩
    exact ⟨rfl,b',j',D',z2,m2,H2.up (Nat.le_refl _) (by omega),rfl,rfl⟩
   ·rintro tm st ⟨-,b',j',D',z',m',H',rfl,rfl⟩
    refine (QT.code (tl:=[]) hH ((naW (csV cs) n b' j' (lZ D' z') m').at (List.mem_range.2 h60)) naPlD trivial (hidC (by simp))).mono ?_
    rintro x tm st ⟨rfl,rfl,rfl⟩
    exact .inl ⟨rfl,(i + 1,b',j',D',z',m'),⟨by show i + 1≤60;omega,H'⟩,by show 60 - (i + 1) < 60 - i;omega,rfl,rfl⟩
  ·have t2:some (SV.bool (ltI (Int.ofNat i) 60))=some (SV.bool false):=o_nlt (by simp only [Int.ofNat_eq_natCast];omega)
   refine CodeL.app (QT.code hH (naTG (csV cs) n i b j (lZ D z) m) naPlT (And.intro t1 (And.intro t2 trivial)) (hidC (by simp))) (fun tm st h=>by cases h.1) ?_
   rintro x tm st hx ⟨rfl,rfl,rfl⟩
   exact .inr ⟨hx,rfl,i,b,j,_,m,rfl,rfl⟩
 ·have t1:some (SV.bool (ltI (Int.ofNat i) (Int.ofNat n)))=some (SV.bool false):=o_nlt (fun h=>hi (Int.ofNat_lt.1 h))
  refine CodeL.app (QT.code hH (naTF (csV cs) n i b j (lZ D z) m) naPlT (And.intro t1 trivial) (hidC (by simp))) (fun tm st h=>by cases h.1) ?_
  rintro x tm st hx ⟨rfl,rfl,rfl⟩
  exact .inr ⟨hx,rfl,i,b,j,_,m,rfl,rfl⟩
theorem naAll (hH:Hd w0 (foC (csV cs)) 1) (hn:n * 3≤cs.length):CodeQ w0 nNa cNa (initT [.sl 0 0 n 3 none] 0 .e) (st0N 1 []) fun x tm st=>(x=.normal∨x=.ret)∧resS Tryz.prog st.m tm rsNa=some (.bool true):=by
 refine CodeL.code ?_
 rw [kNa_eq]
 refine CodeL.app (PT.code (s:=(initT [.sl 0 0 n 3 none] 0 .e,st0N 1 [])) hH (naP (csV cs) n) naPlP trivial (hidC (by simp))) ?_ (fun x tm st hx h=>absurd h.1 hx)
 rintro tm st ⟨-,rfl,rfl⟩
 refine CodeL.app (P1:=fun x tm st=>x=.normal∧∃ i b j l m,tm=(sNa n i b j l m).1∧st=(sNa n i b j l m).2) (CodeQ.row (CodeQ.block ((naLoop hH hn).mono ?_))) ?_ (fun x tm st hx h=>absurd h.1 hx)
 ·rintro x tm st ⟨rfl,i,b,j,l,m,rfl,rfl⟩
  exact ⟨rfl,i,b,j,l,m,rfl,rfl⟩
 ·rintro tm st ⟨-,i,b,j,l,m,rfl,rfl⟩
  exact QE.code hH (naF (csV cs) n i b j l m) naPlF trivial
end
theorem naNil0:LawT fNa [.slice none 0 0] :=
 lawQ (c:=cNa) (vs:=[.nils]) Tryz.func7 (by kernel_rfl) (Nat.le_of_ble_eq_true (by kernel_rfl)) (Nat.le_of_ble_eq_true (by kernel_rfl)) (.cons .nils .nil) fun w0 hg =>
  CodeL.code (PE.code (s:=(initT [.nils] 0 .e,st0 [])) (Hd.of _) naNil naPlN trivial)
theorem names_any:LawI fNa 35 3 :=
 lawI (by omega) (c:=cNa) Tryz.func7 (by kernel_rfl) (Nat.le_of_ble_eq_true (by kernel_rfl)) naNil0 fun w0 n cs hH hn hw=>naAll hH hn
end
end Go.Proofs.YtobooojhmgicpaaGreatDoor.W.E
