/- LBuiltins -/
import Derived.Test.YtebdknkgplonmaaGreatDoorLBuG4
import Derived.Test.YtebdknkgplonmaaGreatDoorLBuG5
import Derived.Test.YtebdknkgplonmaaGreatDoorLBuG6
import Derived.Test.YtebdknkgplonmaaGreatDoorLBuG7
import Derived.Test.YtebdknkgplonmaaGreatDoorLBuG8
import Derived.Test.YtebdknkgplonmaaGreatDoorLBuG9
import Derived.Test.YtebdknkgplonmaaGreatDoorLBuG10
import Derived.Test.YtebdknkgplonmaaGreatDoorLBuG11
import Derived.Test.YtebdknkgplonmaaGreatDoorLBuG12
set_option linter.unusedVariables false
set_option linter.unusedSimpArgs false
namespace Go.Proofs.YtebdknkgplonmaaGreatDoor.W.E
section
set_option maxRecDepth 100000
open Go.RowKit
def kAt (t:List UInt8):Nat→Bool
 | 0=>false
 | i + 1=>cond (kAt t i) true (eqB (bName i) t)
theorem kAt_true {t:List UInt8}:∀ {i:Nat},kAt t i=true→∃ j,j < i∧t=bName j
 | i + 1,h=>by
  unfold kAt at h
  cases hk:kAt t i with
  | true=>obtain ⟨j,h1,h2⟩:=kAt_true hk;exact ⟨j,by omega,h2⟩
  | false =>
   rw [hk,cond_false,eqB_ok] at h
   exact ⟨i,by omega,(of_decide_eq_true h).symm⟩
theorem kAt_false {t:List UInt8}:∀ {i:Nat},kAt t i=false→∀ j,j < i→eqB (bName j) t=false
 | i + 1,h,j,hj=>by
  unfold kAt at h
  cases hk:kAt t i with
  | true=>rw [hk] at h;cases h
  | false =>
   rw [hk,cond_false] at h
   by_cases hq:j=i
   ·rw [hq];exact h
   ·exact kAt_false hk j (by omega)
theorem i16_mem {i:Nat} (h:i < 16):i∈i16:=by
 match i,h with
 | 0,_=>exact by decide
 | 1,_=>exact by decide
 | 2,_=>exact by decide
 | 3,_=>exact by decide
 | 4,_=>exact by decide
 | 5,_=>exact by decide
 | 6,_=>exact by decide
 | 7,_=>exact by decide
 | 8,_=>exact by decide
 | 9,_=>exact by decide
 | 10,_=>exact by decide
 | 11,_=>exact by decide
 | 12,_=>exact by decide
 | 13,_=>exact by decide
 | 14,_=>exact by decide
 | 15,_=>exact by decide
 | i + 16,h=>omega
theorem planBu:planOkC (plan fBu) cBu=true:=by kernel_rfl
theorem planP:(preBu.all fun c=>planOkC (plan fBu) c)=true:=by kernel_rfl
theorem planA:((lbBu.take 2).all fun c=>planOkC (plan fBu) c)=true:=by kernel_rfl
theorem planI:((inBu.take 1).all fun c=>planOkC (plan fBu) c)=true:=by kernel_rfl
theorem planI2:((inBu.drop 1).all fun c=>planOkC (plan fBu) c)=true:=by kernel_rfl
theorem planD:((lbBu.drop 3).all fun c=>planOkC (plan fBu) c)=true:=by kernel_rfl
theorem planS:(sufBu.all fun c=>planOkC (plan fBu) c)=true:=by kernel_rfl
section
variable {w0:World} {pm m:Nat} {k:Int} {line:List UInt8}
theorem RR.code {l:List Code} {s s2:T SV × St HX} {x:Ex} (h:RR l s s2 x) (hp:(l.all fun c=>planOkC (plan fBu) c)=true):CodeL w0 nBu l s.1 s.2 (fun x' tm' st'=>x'=x∧tm'=s2.1∧st'=s2.2) :=
 CodeL.runG extL_ok hp h trivial
def outBu (line:List UInt8) (i:Nat):List UInt8:=match i with
 | 0=>[]
 | _ + 1=>line
def stBu (m:Nat) (line t:List UInt8) (i:Nat):T SV × St HX:=sBu m i (kAt t i) t (outBu line i) (exsBu (i - 1))
theorem roundBu (H:BuOk pm m k line) (t:List UInt8) (i:Nat) (hi:i < 16) :
  CodeQ w0 nBu bodyBu (stBu m line t i).1 (stBu m line t i).2 fun x tm st=>x=.normal∧tm=(stBu m line t (i + 1)).1∧st=(stBu m line t (i + 1)).2:=by
 have hm:=i16_mem hi
 refine CodeL.code ?_
 rw [lbBu_eq]
 refine CodeL.app (RR.code ((H.a (kAt t i) t (outBu line i) (exsBu (i - 1))).at hm) planA) ?_ (fun x tm st hx h=>absurd h.1 hx)
 rintro tm st ⟨-,rfl,rfl⟩
 refine CodeL.app (P1:=fun x tm st=>x=.normal∧tm=(sBu m i (kAt t (i + 1)) t line (exsBu i)).1∧st=(sBu m i (kAt t (i + 1)) t line (exsBu i)).2) (CodeQ.row (CodeQ.block (CodeL.code ?_))) ?_ (fun x tm st hx h=>absurd h.1 hx)
 ·rw [inBu_eq]
  have hb:RR (inBu.take 1) (sBu m i (kAt t i) t (outBu line i) (exsBu (i - 1))) (sBu m i (kAt t (i + 1)) t (outBu line i) (exsBu (i - 1))) .normal:=by
   cases hk:kAt t i with
   | true =>
    have:kAt t (i + 1)=true:=by unfold kAt;rw [hk];rfl
    rw [this]
    exact (H.tt t (outBu line i) (exsBu (i - 1))).at hm
   | false =>
    have:kAt t (i + 1)=eqB (bName i) t:=by unfold kAt;rw [hk];rfl
    rw [this]
    exact (H.ff t (outBu line i) (exsBu (i - 1))).at hm
  refine CodeL.app (RR.code hb planI) ?_ (fun x tm st hx h=>absurd h.1 hx)
  rintro tm st ⟨-,rfl,rfl⟩
  have hc:RR (inBu.drop 1) (sBu m i (kAt t (i + 1)) t (outBu line i) (exsBu (i - 1))) (sBu m i (kAt t (i + 1)) t line (exsBu i)) .normal:=by
   cases i with
   | zero=>exact H.c0 _ t
   | succ i=>exact H.c (i + 1) (by omega) hi _ t line
  refine (RR.code hc planI2).mono ?_
  rintro x tm st ⟨rfl,rfl,rfl⟩
  exact ⟨rfl,rfl,rfl⟩
 ·rintro tm st ⟨-,rfl,rfl⟩
  refine (RR.code ((H.d (kAt t (i + 1)) t line (exsBu i)).at hm) planD).mono ?_
  rintro x tm st ⟨rfl,rfl,rfl⟩
  exact ⟨rfl,rfl,rfl⟩
theorem loopBu (H:BuOk pm m k line) (t:List UInt8) :
  CodeQ w0 nBu (.loop bodyBu) (stBu m line t 0).1 (stBu m line t 0).2 fun x tm st=>x=.exit 0∧tm=(stBu m line t 16).1∧st=(stBu m line t 16).2:=by
 refine CodeQ.loop (S:=stBu m line t) (Inv:=fun i=>i≤16) (μ:=fun i=>16 - i) (fun i hi=>?_) 0 (by omega)
 by_cases h16:i=16
 ·subst h16
  refine CodeL.code ?_
  rw [lbBu_eq]
  refine CodeL.app (RR.code (H.e (kAt t 16) t (outBu line 16) (exsBu 15)) planA) (fun tm st h=>by cases h.1) ?_
  rintro x tm st hx ⟨rfl,rfl,rfl⟩
  exact .inr ⟨hx,rfl,rfl,rfl⟩
 ·refine (roundBu H t i (by omega)).mono ?_
  rintro x tm st ⟨rfl,rfl,rfl⟩
  exact .inl ⟨rfl,i + 1,by omega,by omega,rfl,rfl⟩
theorem endBu (H:BuOk pm m k line) (t:List UInt8) :
  CodeL w0 nBu sufBu (stBu m line t 16).1 (stBu m line t 16).2 fun x tm st=>(x=.normal∨x=.ret)∧resS Tryz.prog st.m tm rsBu=some (.bool true):=by
 cases hk:kAt t 16 with
 | true =>
  obtain ⟨j,hj,rfl⟩:=kAt_true hk
  have e:stBu m line (bName j) 16=sBu m 16 true (bName j) line (exsBu 15):=by unfold stBu;rw [hk];rfl
  rw [e]
  exact CodeL.runE extL_ok planS (H.ea j hj) trivial
 | false =>
  have e:stBu m line t 16=sBu m 16 false t line (exsBu 15):=by unfold stBu;rw [hk];rfl
  rw [e]
  have hf:=kAt_false hk
  refine CodeL.sc (x':=⟨some (0,exsBu 15),0,scEnd,[],[]⟩) rfl (CodeL.runE extL_ok planS (H.eb t) ?_)
  have f:∀ j,j < 16→some (SV.bool (eqB (bName j) t))=some (SV.bool false):=fun j hj=>by rw [hf j hj]
  exact ⟨f 15 (by omega),f 14 (by omega),f 13 (by omega),f 12 (by omega),f 11 (by omega),f 10 (by omega),f 9 (by omega),f 8 (by omega),f 7 (by omega),f 6 (by omega),f 5 (by omega),f 4 (by omega),f 3 (by omega),f 2 (by omega),f 1 (by omega),f 0 (by omega),trivial⟩
theorem minE_eq (s:List UInt8):minE s=.int .i64 (Int.ofNat (min s.length 20)):=by
 unfold minE
 congr 1
 by_cases h:20 < s.length
 ·rw [if_pos (by simp only [Int.ofNat_eq_natCast];omega),Nat.min_eq_right (by omega)];rfl
 ·rw [if_neg (by simp only [Int.ofNat_eq_natCast];omega),Nat.min_eq_left (by omega)]
theorem sliceE_eq (s:List UInt8) (q:Nat) (hq:q≤s.length):sliceE s q=some (.str (s.take q)):=by
 have h1:Nat.ble q s.length=true:=Nat.ble_eq_true_of_le hq
 have h3:bdV ((T.e:T SV).upd 0 (some (.int .i64 (Int.ofNat q)))) (some (.tmp 0)) s.length (knowC (some s.length) s.length)=some q:=by
  show (bif Nat.ble q s.length then some q else none)=some q
  rw [h1];rfl
 unfold sliceE bounds3
 simp only [h3]
 show some (SV.str ((s.drop 0).take (q - 0)))=_
 simp
theorem caseBu (H:BuOk pm m k line) (n:Int) (s:List UInt8) (hn:modI n 9=k) :
  CodeQ w0 nBu cBu (initT [.int .i64 n,.str s] 0 .e) (st0 []) fun x tm st=>(x=.normal∨x=.ret)∧resS Tryz.prog st.m tm rsBu=some (.bool true):=by
 refine CodeL.code ?_
 rw [lBu_eq]
 obtain ⟨q,hq⟩:∃ q,q=min s.length 20:=⟨_,rfl⟩
 obtain ⟨t,ht⟩:∃ t,t=s.take q:=⟨_,rfl⟩
 refine CodeL.app (P1:=fun x tm st=>x=.normal∧tm=(stBu m line t 0).1∧st=(stBu m line t 0).2) ?_ ?_ (fun x tm st hx h=>absurd h.1 hx)
 ·refine CodeL.sc (x':=⟨none,0,scPre q t k,[],[]⟩) rfl (CodeL.runG extL_ok planP (H.pre n s t q) ?_)
  refine ⟨by rw [hn],?_,by rw [minE_eq,hq],trivial⟩
  rw [sliceE_eq s q (by rw [hq];exact Nat.min_le_left ..),ht]
 ·rintro tm st ⟨-,rfl,rfl⟩
  refine CodeL.app (P1:=fun x tm st=>x=.normal∧tm=(stBu m line t 16).1∧st=(stBu m line t 16).2) (CodeQ.row (CodeQ.block ((loopBu H t).mono ?_))) ?_ (fun x tm st hx h=>absurd h.1 hx)
  ·rintro x tm st ⟨rfl,rfl,rfl⟩
   exact ⟨rfl,rfl,rfl⟩
  ·rintro tm st ⟨-,rfl,rfl⟩
   exact endBu H t
end
theorem builtins_any (n:Int) (s:List UInt8):LawT fBu [.int .i64 n,.string (bs s)]:=by
 have hm:modI n 9=0∨modI n 9=1∨modI n 9=2∨modI n 9=3∨modI n 9=4∨modI n 9=5∨modI n 9=6∨modI n 9=7∨modI n 9=8:=by rw [modI_eq];omega
 refine lawQ (c:=cBu) (vs:=[.int .i64 n,.str s]) Tryz.func10 (by kernel_rfl) (Nat.le_of_ble_eq_true (by kernel_rfl)) (Nat.le_of_ble_eq_true (by kernel_rfl)) (.cons (.int _ _) (.cons (.str _) .nil)) fun w0 hg=>?_
 rcases hm with h | h | h | h | h | h | h | h | h
 ·exact caseBu bu4 n s h
 ·exact caseBu bu5 n s h
 ·exact caseBu bu6 n s h
 ·exact caseBu bu7 n s h
 ·exact caseBu bu8 n s h
 ·exact caseBu bu9 n s h
 ·exact caseBu bu10 n s h
 ·exact caseBu bu11 n s h
 ·exact caseBu bu12 n s h
end
end Go.Proofs.YtebdknkgplonmaaGreatDoor.W.E
