/- LTexts -/
import Derived.Test.YtildnolfgdcndaaGreatDoorLTeP
set_option linter.unusedVariables false
set_option linter.unusedSimpArgs false
namespace Go.Proofs.YtildnolfgdcndaaGreatDoor.W.E
section
set_option maxRecDepth 100000
open Go.RowKit
theorem tePlP:((kTe.take 5).all fun c=>planOkC (plan fTe) c)=true:=by kernel_rfl
theorem tePlA:(((kTe.drop 5).take 2).all fun c=>planOkC (plan fTe) c)=true:=by kernel_rfl
theorem tePlB:(([atC kTe 7]).all fun c=>planOkC (plan fTe) c)=true:=by kernel_rfl
theorem tePlC:((kTe.drop 8).all fun c=>planOkC (plan fTe) c)=true:=by kernel_rfl
theorem d_len:∀ (k n:Nat),n < 10 ^ (k + 1)→(Num.D n).length≤k + 1
 | 0,n,h=>by rw [Num.D_small (by simpa using h)];simp
 | k + 1,n,h=>by
  rcases Nat.lt_or_ge n 10 with h1 | h1
  ·rw [Num.D_small h1];simp
  ·rw [Num.D_step h1]
   have:=d_len k (n / 10) (by rw [Nat.pow_succ] at h;omega)
   simp;omega
theorem text_len {n:Int} (h1:-9223372036854775808≤n) (h2:n≤9223372036854775807):(Num.textL n).length≤20:=by
 have h:=d_len 18 n.natAbs (by omega)
 by_cases h0:n < 0
 ·rw [Num.textL_neg h0];simp;omega
 ·rw [Num.textL_pos (by omega)];omega
theorem tx_eq (t:List UInt8):tx (fun i=>t.getD i 0) t.length=t:=by
 apply List.ext_getElem?
 intro i
 unfold tx
 by_cases h:i < t.length
 ·simp [h,List.getD]
 ·simp [List.getElem?_eq_none (Nat.le_of_not_lt h)];omega
theorem minT_eq (s:List UInt8):minT s=.int .i64 (Int.ofNat (min s.length 50)):=by
 unfold minT
 congr 1
 by_cases h:50 < s.length
 ·rw [if_pos (by simp only [Int.ofNat_eq_natCast];omega),Nat.min_eq_right (by omega)];rfl
 ·rw [if_neg (by simp only [Int.ofNat_eq_natCast];omega),Nat.min_eq_left (by omega)]
theorem sliceT_eq (s:List UInt8) (q:Nat) (hq:q≤s.length):sliceT s q=some (.str (s.take q)):=by
 have h1:Nat.ble q s.length=true:=Nat.ble_eq_true_of_le hq
 have h3:bdV ((T.e:T SV).upd 0 (some (.int .i64 (Int.ofNat q)))) (some (.tmp 0)) s.length (knowC (some s.length) s.length)=some q:=by
  show (bif Nat.ble q s.length then some q else none)=some q
  rw [h1];rfl
 unfold sliceT bounds3
 simp only [h3]
 show some (SV.str ((s.drop 0).take (q - 0)))=_
 simp
theorem o_eqV (t:Nat) (ht:t=28) {x y:Int} (h:x=y):binV Tryz.prog .eql t false (vI x) (vI y)=some (.bool true):=by
 have key:∃ F:Bool→Option SV,binV Tryz.prog .eql t false (vI x) (vI y)=F (x == y)∧F true=some (.bool true):=by
  subst ht
  exact ⟨fun b=>match (match some b with | some true=>some true | some false=>some false | none=>none) with | some r=>some (.bool r) | none=>none,by kernel_rfl,rfl⟩
 obtain ⟨F,h1,h2⟩:=key
 rw [h1,beq_iff_eq.2 h,h2]
theorem o_eqS (t:Nat) (ht:t=28) (s:List UInt8):binV Tryz.prog .eql t false (vS s) (vS s)=some (.bool true):=by
 have key:∃ F:Bool→Option SV,binV Tryz.prog .eql t false (vS s) (vS s)=F (eqB s s)∧F true=some (.bool true):=by
  subst ht
  exact ⟨fun b=>match (match some b with | some true=>some true | some false=>some false | none=>none) with | some r=>some (.bool r) | none=>none,by kernel_rfl,rfl⟩
 obtain ⟨F,h1,h2⟩:=key
 have:eqB s s=true:=by rw [eqB_ok];simp
 rw [h1,this,h2]
theorem byB_eq {k:Nat} (hk:k < 256):(byB k).toNat=k:=by
 unfold byB
 have:wrapF .u8 (Int.ofNat k)=Int.ofNat k:=by rw [wrapF_eq];exact wrap_pos .u8 k (by show k≤255;omega)
 rw [this]
 show (UInt8.ofNat k).toNat=k
 exact UInt8.toNat_ofNat_of_lt' (by show k < 256;omega)
theorem parse_x (s:List UInt8):Num.parseS (120 :: s)=(0,false):=by
 show Num.pend (120 :: s) false=_
 unfold Num.pend
 rw [Num.pgo_stop (.inr (.inl (by decide)))]
theorem teAll {w0:B0} (hH:Hd w0 fo0 0) {n b:Int} {s:List UInt8} (hn:-9223372036854775808≤n∧n≤9223372036854775807) :
  CodeQ w0 nTe cTe (initT [.int .i64 n,.str s,.int .i64 b] 0 .e) (st0 []) fun x tm st=>(x=.normal∨x=.ret)∧resS Tryz.prog st.m tm rsTe=some (.bool true):=by
 refine CodeL.code ?_
 rw [kTe_eq]
 obtain ⟨q,hq⟩:∃ q,q=min s.length 50:=⟨_,rfl⟩
 obtain ⟨t,ht⟩:∃ t,t=s.take q:=⟨_,rfl⟩
 have htl:t.length≤50:=by rw [ht,List.length_take];omega
 obtain ⟨k,hk,e0⟩:∃ k,k < 256∧andI b 255=Int.ofNat k:=⟨(b % 256).toNat,by omega,by rw [andI_255];simp only [Int.ofNat_eq_natCast];omega⟩
 refine CodeL.app (PT.code (s:=(initT [.int .i64 n,.str s,.int .i64 b] 0 .e,st0 [])) hH (teP n s b) tePlP trivial hid0) ?_ (fun x tm st hx h=>absurd h.1 hx)
 rintro tm st ⟨-,rfl,rfl⟩
 refine CodeL.app (QTN.code hH (teA n s t b q k) tePlA ?_ hid0) ?_ (fun x tm st hx h=>absurd h.1 hx)
 ·refine And.intro ?_ (And.intro ?_ (And.intro (show some (SV.int .i64 (andI b 255))=some (SV.int .i64 (Int.ofNat k)) by rw [e0]) trivial))
  ·show some (minT s)=_;rw [minT_eq,hq]
  ·show sliceT s q=_;rw [sliceT_eq s q (by rw [hq];exact Nat.min_le_left ..),ht]
 rintro tm st ⟨-,rfl,rfl⟩
 have hL:=text_len hn.1 hn.2
 have hL0:=Num.text_pos_len n
 have hT:∃ T,T=Num.textL n∧CodeL w0 nTe [atC kTe 7] (sTe n t (Int.ofNat k)).1 (sTe n t (Int.ofNat k)).2 (fun x' tm' st'=>x'=.normal∧tm'=(sTf n t (Int.ofNat k) T).1∧st'=(sTf n t (Int.ofNat k) T).2):=by
  refine ⟨_,rfl,?_⟩
  have h:=(teB n t k (fun i=>(Num.textL n).getD i 0)).at (i:=(Num.textL n).length) (by rw [List.mem_range'];exact ⟨(Num.textL n).length - 1,by omega,by omega⟩)
  have h2:=QTN.code hH h tePlB (And.intro ?_ (And.intro ?_ trivial)) hid0
  ·simp only [tx_eq] at h2;exact h2
  ·show toldP _ _ _ _
   rw [tx_eq];exact zText hn.1 hn.2
  ·show _≤_∧_∧_
   rw [tx_eq];exact zStr (by intro h;rw [h] at hL0;cases hL0) rfl
 obtain ⟨T,eT,hT⟩:=hT
 refine CodeL.app hT ?_ (fun x tm st hx h=>absurd h.1 hx)
 rintro tm st ⟨-,rfl,rfl⟩
 have J2:HJ l2 (20 + 1 + 1) 105:=HJ.zero.e2 (by simp) (by simp)
 refine QEN.code hH (teC n t T k) tePlC ?_
 have bk:=byB_eq hk
 have c1:(tTeC n t T k).ok:=by
  refine And.intro ?_ (And.intro ?_ (And.intro ?_ (And.intro ?_ (And.intro ?_ (And.intro ?_ (And.intro ?_ trivial))))))
  ·exact zParse (by rw [eT];omega) (by rw [eT];exact Num.parse_text hn)
  ·exact o_nlt (by simp only [Int.ofNat_eq_natCast];omega)
  ·exact o_nlt (by simp only [Int.ofNat_eq_natCast];omega)
  ·show some (SV.int .u8 (Int.ofNat (byB k).toNat))=some (SV.int .u8 (Int.ofNat k));rw [bk]
  ·exact o_add (by simp only [Int.ofNat_eq_natCast];omega)
  ·exact o_nlt (by simp only [Int.ofNat_eq_natCast];omega)
  ·exact o_lt (by simp only [Int.ofNat_eq_natCast];omega)
 have c2:(tTeD n t).ok:=by
  refine And.intro ?_ (And.intro ?_ trivial)
  ·have:Nat.ble (([120]:List UInt8).length + t.length) 4294967296=true:=Nat.ble_eq_true_of_le (by simp only [List.length_cons,List.length_nil];omega)
   show (bif Nat.ble (([120]:List UInt8).length + t.length) 4294967296 then some (SV.str (([120]:List UInt8)++t)) else none)=_
   rw [this];rfl
  ·exact zParse (by simp only [List.length_cons];omega) (parse_x t)
 have c3:(tTeE n t k).ok:=by
  refine And.intro ?_ (And.intro ?_ (And.intro ?_ (And.intro ?_ (And.intro ?_ trivial))))
  ·exact o_ge (by simp only [Int.ofNat_eq_natCast];omega)
  ·exact o_eqV _ rfl rfl
  ·exact o_eqS _ rfl t
  ·exact o_eqV _ rfl (by rw [wrapF_eq];exact wrap_pos .i64 k (by show k≤9223372036854775807;omega))
  ·exact o_eqV _ rfl rfl
 exact TL.ok_app c1 (TL.ok_app (qRaise_ok HJ.zero (by simp [uMax]) (by simp)) (TL.ok_app c2 (TL.ok_app (qRaise_ok J2 (by simp [uMax]) (by simp)) c3)))
theorem texts_any (n:Int) (s:List UInt8) (b:Int) (hn:(Lit.int .i64 n).wf=true) (ws:(bs s).size≤maxLen) (hb:(Lit.int .i64 b).wf=true):LawT fTe [.int .i64 n,.string (bs s),.int .i64 b] :=
 lawQ (c:=cTe) (vs:=[.int .i64 n,.str s,.int .i64 b]) Tryz.func5 (by kernel_rfl) (Nat.le_of_ble_eq_true (by kernel_rfl)) (Nat.le_of_ble_eq_true (by kernel_rfl)) (.cons (.int _ _) (.cons (.str _) (.cons (.int _ _) .nil))) fun w0 hg =>
  teAll (Hd.of _) (wf_i64 hn)
end
end Go.Proofs.YtildnolfgdcndaaGreatDoor.W.E
