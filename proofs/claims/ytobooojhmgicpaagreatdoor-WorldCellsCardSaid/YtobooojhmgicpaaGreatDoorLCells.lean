/- LCells -/
import Derived.Test.YtobooojhmgicpaaGreatDoorLCeP
import Derived.Test.YtobooojhmgicpaaGreatDoorLCeS
import Derived.Test.YtobooojhmgicpaaGreatDoorLCeG
import Derived.Test.YtobooojhmgicpaaGreatDoorLCeF0
import Derived.Test.YtobooojhmgicpaaGreatDoorLCeF1
import Derived.Test.YtobooojhmgicpaaGreatDoorRowA
set_option linter.unusedVariables false
set_option linter.unusedSimpArgs false
namespace Go.Proofs.YtobooojhmgicpaaGreatDoor.W.E
section
set_option maxRecDepth 100000
open Go.RowKit
theorem cePlP:((lCe.take 14).all fun c=>planOkC (plan fCe) c)=true:=by kernel_rfl
theorem cePlN:(lCe.all fun c=>planOkC (plan fCe) c)=true:=by kernel_rfl
theorem cePlT:((l1Ce.take 2).all fun c=>planOkC (plan fCe) c)=true:=by kernel_rfl
theorem cePlD:((l1Ce.drop 3).all fun c=>planOkC (plan fCe) c)=true:=by kernel_rfl
theorem cePlS:((lbCe.take 4).all fun c=>planOkC (plan fCe) c)=true:=by kernel_rfl
theorem cePlG:((lbCe.drop 4).all fun c=>planOkC (plan fCe) c)=true:=by kernel_rfl
theorem cePlF:((lCe.drop 15).all fun c=>planOkC (plan fCe) c)=true:=by kernel_rfl
theorem hidC {live:Live} (h:(0,0)∈live):∀ b,b < 1→(b,b)∈live:=fun b hb=>by
 obtain rfl:b=0:=by omega
 exact h
theorem rowAt {n i:Nat} (hi:i < n):indexAddrV Tryz.prog 35 (.sl 0 0 n 3 none) (.int .i64 (Int.ofNat i))=some (.ptr 0 (i * 3)):=by
 have h:natIx (Int.ofNat i) n=some i:=by
  show (bif Nat.blt i n then some i else none)=some i
  have:Nat.blt i n=true:=by simpa [Nat.blt_eq] using hi
  rw [this];rfl
 have e:indexAddrV Tryz.prog 35 (.sl 0 0 n 3 none) (.int .i64 (Int.ofNat i))=(match natIx (Int.ofNat i) n with
  | some k=>some (SV.ptr 0 (0 + k * 3))
  | none=>none):=by kernel_rfl
 rw [e,h];show some (SV.ptr 0 (0 + i * 3))=_;rw [Nat.zero_add]
section
variable {w0:B0} {n:Nat} {cs:List Int}
abbrev csV (cs:List Int):List SV:=cs.map (SV.int .i64)
theorem csV_at {cs:List Int} {i:Nat} {m:Int} (h:cs[i]?=some m):(csV cs)[i]?=some (SV.int .i64 m):=by rw [List.getElem?_map,h];rfl
theorem ceRound (hH:Hd w0 (foC (csV cs)) 1) (hn:n * 3≤cs.length) {i:Nat} (hi:i < n) (b:Bool × Bool × Bool) (j0 j1 j2:Int):CodeL w0 nCe (lbCe.take 4) (sCe n b (j0,j1,j2) i).1 (sCe n b (j0,j1,j2) i).2 fun x tm st =>
  x=.normal∧∃ b' j0' j1' j2',tm=(sCl n b' (j0',j1',j2') i).1∧st=(sCl n b' (j0',j1',j2') i).2:=by
 obtain ⟨x0,h0⟩:∃ x0,cs[i * 3]?=some x0:=⟨_,List.getElem?_eq_getElem (by omega)⟩
 obtain ⟨x1,h1⟩:∃ x0,cs[i * 3 + 1]?=some x0:=⟨_,List.getElem?_eq_getElem (by omega)⟩
 obtain ⟨x2,h2⟩:∃ x0,cs[i * 3 + 2]?=some x0:=⟨_,List.getElem?_eq_getElem (by omega)⟩
 have m0:modI x0 3=0∨modI x0 3=1∨modI x0 3=2:=by rw [modI_eq];omega
 have m1:andI x1 1=0∨andI x1 1=1:=by rw [andI_1];omega
 have a:=rowAt (n:=n) hi
 have d0:=csV_at h0
 have d1:=csV_at h1
 have d2:=csV_at h2
 have key00 (e0:modI x0 3=0) (e1:andI x1 1=0):CodeL w0 nCe (lbCe.take 4) (sCe n b (j0,j1,j2) i).1 (sCe n b (j0,j1,j2) i).2 fun x tm st=>x=.normal∧∃ b' j0' j1' j2',tm=(sCl n b' (j0',j1',j2') i).1∧st=(sCl n b' (j0',j1',j2') i).2:=by
  refine (PT.code hH ((ceS00 (csV cs) n i (i * 3) j0 j1 j2 x0 x1 x2).at (shCe_all b)) cePlS (by refine ⟨?_,?_,?_,?_,?_,?_,?_,?_,?_,?_,trivial⟩<;>first | exact a | exact d0 | exact d1 | exact d2 | exact congrArg (fun z=>some (SV.int .i64 z)) e0 | exact congrArg (fun z=>some (SV.int .i64 z)) e1) (hidC (by simp))).mono ?_
  rintro x tm st ⟨rfl,rfl,rfl⟩;exact ⟨rfl,_,x2,j1,j2,rfl,rfl⟩
 have key01 (e0:modI x0 3=0) (e1:andI x1 1=1):CodeL w0 nCe (lbCe.take 4) (sCe n b (j0,j1,j2) i).1 (sCe n b (j0,j1,j2) i).2 fun x tm st=>x=.normal∧∃ b' j0' j1' j2',tm=(sCl n b' (j0',j1',j2') i).1∧st=(sCl n b' (j0',j1',j2') i).2:=by
  refine (PT.code hH ((ceS01 (csV cs) n i (i * 3) j0 j1 j2 x0 x1 x2).at (shCe_all b)) cePlS (by refine ⟨?_,?_,?_,?_,?_,?_,trivial⟩<;>first | exact a | exact d0 | exact d1 | exact d2 | exact congrArg (fun z=>some (SV.int .i64 z)) e0 | exact congrArg (fun z=>some (SV.int .i64 z)) e1) (hidC (by simp))).mono ?_
  rintro x tm st ⟨rfl,rfl,rfl⟩;exact ⟨rfl,_,j0,j1,j2,rfl,rfl⟩
 have key10 (e0:modI x0 3=1) (e1:andI x1 1=0):CodeL w0 nCe (lbCe.take 4) (sCe n b (j0,j1,j2) i).1 (sCe n b (j0,j1,j2) i).2 fun x tm st=>x=.normal∧∃ b' j0' j1' j2',tm=(sCl n b' (j0',j1',j2') i).1∧st=(sCl n b' (j0',j1',j2') i).2:=by
  refine (PT.code hH ((ceS10 (csV cs) n i (i * 3) j0 j1 j2 x0 x1 x2).at (shCe_all b)) cePlS (by refine ⟨?_,?_,?_,?_,?_,?_,?_,?_,?_,?_,trivial⟩<;>first | exact a | exact d0 | exact d1 | exact d2 | exact congrArg (fun z=>some (SV.int .i64 z)) e0 | exact congrArg (fun z=>some (SV.int .i64 z)) e1) (hidC (by simp))).mono ?_
  rintro x tm st ⟨rfl,rfl,rfl⟩;exact ⟨rfl,_,j0,x2,j2,rfl,rfl⟩
 have key11 (e0:modI x0 3=1) (e1:andI x1 1=1):CodeL w0 nCe (lbCe.take 4) (sCe n b (j0,j1,j2) i).1 (sCe n b (j0,j1,j2) i).2 fun x tm st=>x=.normal∧∃ b' j0' j1' j2',tm=(sCl n b' (j0',j1',j2') i).1∧st=(sCl n b' (j0',j1',j2') i).2:=by
  refine (PT.code hH ((ceS11 (csV cs) n i (i * 3) j0 j1 j2 x0 x1 x2).at (shCe_all b)) cePlS (by refine ⟨?_,?_,?_,?_,?_,?_,trivial⟩<;>first | exact a | exact d0 | exact d1 | exact d2 | exact congrArg (fun z=>some (SV.int .i64 z)) e0 | exact congrArg (fun z=>some (SV.int .i64 z)) e1) (hidC (by simp))).mono ?_
  rintro x tm st ⟨rfl,rfl,rfl⟩;exact ⟨rfl,_,j0,j1,j2,rfl,rfl⟩
 have key20 (e0:modI x0 3=2) (e1:andI x1 1=0):CodeL w0 nCe (lbCe.take 4) (sCe n b (j0,j1,j2) i).1 (sCe n b (j0,j1,j2) i).2 fun x tm st=>x=.normal∧∃ b' j0' j1' j2',tm=(sCl n b' (j0',j1',j2') i).1∧st=(sCl n b' (j0',j1',j2') i).2:=by
  refine (PT.code hH ((ceS20 (csV cs) n i (i * 3) j0 j1 j2 x0 x1 x2).at (shCe_all b)) cePlS (by refine ⟨?_,?_,?_,?_,?_,?_,?_,?_,?_,?_,trivial⟩<;>first | exact a | exact d0 | exact d1 | exact d2 | exact congrArg (fun z=>some (SV.int .i64 z)) e0 | exact congrArg (fun z=>some (SV.int .i64 z)) e1) (hidC (by simp))).mono ?_
  rintro x tm st ⟨rfl,rfl,rfl⟩;exact ⟨rfl,_,j0,j1,x2,rfl,rfl⟩
 have key21 (e0:modI x0 3=2) (e1:andI x1 1=1):CodeL w0 nCe (lbCe.take 4) (sCe n b (j0,j1,j2) i).1 (sCe n b (j0,j1,j2) i).2 fun x tm st=>x=.normal∧∃ b' j0' j1' j2',tm=(sCl n b' (j0',j1',j2') i).1∧st=(sCl n b' (j0',j1',j2') i).2:=by
  refine (PT.code hH ((ceS21 (csV cs) n i (i * 3) j0 j1 j2 x0 x1 x2).at (shCe_all b)) cePlS (by refine ⟨?_,?_,?_,?_,?_,?_,trivial⟩<;>first | exact a | exact d0 | exact d1 | exact d2 | exact congrArg (fun z=>some (SV.int .i64 z)) e0 | exact congrArg (fun z=>some (SV.int .i64 z)) e1) (hidC (by simp))).mono ?_
  rintro x tm st ⟨rfl,rfl,rfl⟩;exact ⟨rfl,_,j0,j1,j2,rfl,rfl⟩
 rcases m0 with e0 | e0 | e0<;>rcases m1 with e1 | e1
 ·exact key00 e0 e1
 ·exact key01 e0 e1
 ·exact key10 e0 e1
 ·exact key11 e0 e1
 ·exact key20 e0 e1
 ·exact key21 e0 e1
theorem ceLook (hH:Hd w0 (foC (csV cs)) 1) (i:Nat) (b:Bool × Bool × Bool) (j0 j1 j2:Int):CodeL w0 nCe (lbCe.drop 4) (sCl n b (j0,j1,j2) i).1 (sCl n b (j0,j1,j2) i).2 fun x tm st=>x=.normal∧tm=(sCe n b (j0,j1,j2) i).1∧st=(sCe n b (j0,j1,j2) i).2:=by
 match b with
 | (false,false,false)=>exact PT.code hH (ceG000 (csV cs) n i j0 j1 j2) cePlG trivial (hidC (by simp))
 | (false,false,true)=>exact PT.code hH (ceG001 (csV cs) n i j0 j1 j2) cePlG ⟨o_neV _ rfl rfl,trivial⟩ (hidC (by simp))
 | (false,true,false)=>exact PT.code hH (ceG010 (csV cs) n i j0 j1 j2) cePlG ⟨o_neV _ rfl rfl,trivial⟩ (hidC (by simp))
 | (false,true,true)=>exact PT.code hH (ceG011 (csV cs) n i j0 j1 j2) cePlG ⟨o_neV _ rfl rfl,o_neV _ rfl rfl,trivial⟩ (hidC (by simp))
 | (true,false,false)=>exact PT.code hH (ceG100 (csV cs) n i j0 j1 j2) cePlG ⟨o_neV _ rfl rfl,trivial⟩ (hidC (by simp))
 | (true,false,true)=>exact PT.code hH (ceG101 (csV cs) n i j0 j1 j2) cePlG ⟨o_neV _ rfl rfl,o_neV _ rfl rfl,trivial⟩ (hidC (by simp))
 | (true,true,false)=>exact PT.code hH (ceG110 (csV cs) n i j0 j1 j2) cePlG ⟨o_neV _ rfl rfl,o_neV _ rfl rfl,trivial⟩ (hidC (by simp))
 | (true,true,true)=>exact PT.code hH (ceG111 (csV cs) n i j0 j1 j2) cePlG ⟨o_neV _ rfl rfl,o_neV _ rfl rfl,o_neV _ rfl rfl,trivial⟩ (hidC (by simp))
theorem ceEnd (hH:Hd w0 (foC (csV cs)) 1) (i:Nat) (b:Bool × Bool × Bool) (j0 j1 j2:Int):CodeL w0 nCe (lCe.drop 15) (sCe n b (j0,j1,j2) i).1 (sCe n b (j0,j1,j2) i).2 fun x tm st=>(x=.normal∨x=.ret)∧resS Tryz.prog st.m tm rsCe=some (.bool true):=by
 match b with
 | (false,false,false)=>exact PE.code hH (ceF000 (csV cs) n i j0 j1 j2) cePlF trivial
 | (false,false,true)=>exact PE.code hH (ceF001 (csV cs) n i j0 j1 j2) cePlF trivial
 | (false,true,false)=>exact PE.code hH (ceF010 (csV cs) n i j0 j1 j2) cePlF trivial
 | (false,true,true)=>exact PE.code hH (ceF011 (csV cs) n i j0 j1 j2) cePlF trivial
 | (true,false,false)=>exact PE.code hH (ceF100 (csV cs) n i j0 j1 j2) cePlF trivial
 | (true,false,true)=>exact PE.code hH (ceF101 (csV cs) n i j0 j1 j2) cePlF trivial
 | (true,true,false)=>exact PE.code hH (ceF110 (csV cs) n i j0 j1 j2) cePlF trivial
 | (true,true,true)=>exact PE.code hH (ceF111 (csV cs) n i j0 j1 j2) cePlF trivial
theorem ceLoop (hH:Hd w0 (foC (csV cs)) 1) (hn:n * 3≤cs.length):CodeQ w0 nCe (.loop b1Ce) (sCe n (false,true,false) (0,5,0) 0).1 (sCe n (false,true,false) (0,5,0) 0).2 fun x tm st =>
  x=.exit 0∧∃ b j0 j1 j2 i,tm=(sCe n b (j0,j1,j2) i).1∧st=(sCe n b (j0,j1,j2) i).2:=by
 refine CodeQ.loop (α:=(Bool × Bool × Bool) × (Int × Int × Int) × Nat) (S:=fun p=>sCe n p.1 (p.2.1.1,p.2.1.2.1,p.2.1.2.2) p.2.2) (Inv:=fun p=>p.2.2≤60) (μ:=fun p=>60 - p.2.2) (fun p hp=>?_) ((false,true,false),(0,5,0),0) (by show (0:Nat)≤60;omega)
 obtain ⟨b,⟨j0,j1,j2⟩,i⟩:=p
 replace hp:i≤60:=hp
 refine CodeL.code ?_
 rw [l1Ce_eq]
 by_cases hi:i < n
 ·have t1:some (SV.bool (ltI (Int.ofNat i) (Int.ofNat n)))=some (SV.bool true):=o_lt (Int.ofNat_lt.2 hi)
  by_cases h60:i < 60
  ·have t2:some (SV.bool (ltI (Int.ofNat i) 60))=some (SV.bool true):=o_lt (by simp only [Int.ofNat_eq_natCast];omega)
   refine CodeL.app (PT.code hH ((ceTT (csV cs) n i (j0,j1,j2)).at (shCe_all b)) cePlT ⟨t2,t1,trivial⟩ (hidC (by simp))) ?_ (fun x tm st hx h=>absurd h.1 hx)
   rintro tm st ⟨-,rfl,rfl⟩
   refine CodeL.app (P1:=fun x tm st=>x=.normal∧∃ b' j0' j1' j2',tm=(sCe n b' (j0',j1',j2') i).1∧st=(sCe n b' (j0',j1',j2') i).2) (CodeQ.row (CodeQ.block (CodeL.code ?_))) ?_ (fun x tm st hx h=>absurd h.1 hx)
   ·rw [lbCe_eq]
    refine CodeL.app (ceRound hH hn hi b j0 j1 j2) ?_ (fun x tm st hx h=>absurd h.1 hx)
    rintro tm st ⟨-,b',j0',j1',j2',rfl,rfl⟩
    refine (ceLook hH i b' j0' j1' j2').mono ?_
    rintro x tm st ⟨rfl,rfl,rfl⟩
    exact ⟨rfl,b',j0',j1',j2',rfl,rfl⟩
   ·rintro tm st ⟨-,b',j0',j1',j2',rfl,rfl⟩
    refine (PT.code (sc:=[]) (ps:=[]) hH ((ceD (csV cs) n (j0',j1',j2') b').at (List.mem_range.2 h60)) cePlD trivial (hidC (by simp))).mono ?_
    rintro x tm st ⟨rfl,rfl,rfl⟩
    exact .inl ⟨rfl,(b',(j0',j1',j2'),i + 1),by show i + 1≤60;omega,by show 60 - (i + 1) < 60 - i;omega,rfl,rfl⟩
  ·have t2:some (SV.bool (ltI (Int.ofNat i) 60))=some (SV.bool false):=o_nlt (by simp only [Int.ofNat_eq_natCast];omega)
   refine CodeL.app (PT.code hH ((ceTG (csV cs) n i (j0,j1,j2)).at (shCe_all b)) cePlT ⟨t2,t1,trivial⟩ (hidC (by simp))) (fun tm st h=>by cases h.1) ?_
   rintro x tm st hx ⟨rfl,rfl,rfl⟩
   exact .inr ⟨hx,rfl,b,j0,j1,j2,i,rfl,rfl⟩
 ·have t1:some (SV.bool (ltI (Int.ofNat i) (Int.ofNat n)))=some (SV.bool false):=o_nlt (fun h=>hi (Int.ofNat_lt.1 h))
  refine CodeL.app (PT.code hH ((ceTF (csV cs) n i (j0,j1,j2)).at (shCe_all b)) cePlT ⟨t1,trivial⟩ (hidC (by simp))) (fun tm st h=>by cases h.1) ?_
  rintro x tm st hx ⟨rfl,rfl,rfl⟩
  exact .inr ⟨hx,rfl,b,j0,j1,j2,i,rfl,rfl⟩
theorem ceAll (hH:Hd w0 (foC (csV cs)) 1) (hn:n * 3≤cs.length):CodeQ w0 nCe cCe (initT [.sl 0 0 n 3 none] 0 .e) (st0N 1 []) fun x tm st=>(x=.normal∨x=.ret)∧resS Tryz.prog st.m tm rsCe=some (.bool true):=by
 refine CodeL.code ?_
 rw [lCe_eq]
 refine CodeL.app (PT.code (s:=(initT [.sl 0 0 n 3 none] 0 .e,st0N 1 [])) hH (ceP (csV cs) n) cePlP trivial (hidC (by simp))) ?_ (fun x tm st hx h=>absurd h.1 hx)
 rintro tm st ⟨-,rfl,rfl⟩
 refine CodeL.app (P1:=fun x tm st=>x=.normal∧∃ b j0 j1 j2 i,tm=(sCe n b (j0,j1,j2) i).1∧st=(sCe n b (j0,j1,j2) i).2) (CodeQ.row (CodeQ.block ((ceLoop hH hn).mono ?_))) ?_ (fun x tm st hx h=>absurd h.1 hx)
 ·rintro x tm st ⟨rfl,b,j0,j1,j2,i,rfl,rfl⟩
  exact ⟨rfl,b,j0,j1,j2,i,rfl,rfl⟩
 ·rintro tm st ⟨-,b,j0,j1,j2,i,rfl,rfl⟩
  exact ceEnd hH i b j0 j1 j2
end
theorem ceNil:LawT fCe [.slice none 0 0] :=
 lawQ (c:=cCe) (vs:=[.nils]) Tryz.func4 (by kernel_rfl) (Nat.le_of_ble_eq_true (by kernel_rfl)) (Nat.le_of_ble_eq_true (by kernel_rfl)) (.cons .nils .nil) fun w0 hg =>
  CodeL.code (PE.code (s:=(initT [.nils] 0 .e,st0 [])) (Hd.of _) ceN cePlN trivial)
theorem cells_any:LawI fCe 35 3 :=
 lawI (by omega) (c:=cCe) Tryz.func4 (by kernel_rfl) (Nat.le_of_ble_eq_true (by kernel_rfl)) ceNil fun w0 n cs hH hn hw=>ceAll hH hn
end
end Go.Proofs.YtobooojhmgicpaaGreatDoor.W.E
