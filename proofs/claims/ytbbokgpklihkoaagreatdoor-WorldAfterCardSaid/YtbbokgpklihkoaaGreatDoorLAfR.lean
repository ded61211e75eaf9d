/- LAfR -/
import Derived.Test.YtbbokgpklihkoaaGreatDoorLAfP0
import Derived.Test.YtbbokgpklihkoaaGreatDoorLAfP1
import Derived.Test.YtbbokgpklihkoaaGreatDoorLAfP2
import Derived.Test.YtbbokgpklihkoaaGreatDoorLAfP3
import Derived.Test.YtbbokgpklihkoaaGreatDoorLAfP4
import Derived.Test.YtbbokgpklihkoaaGreatDoorLAfP5
import Derived.Test.YtbbokgpklihkoaaGreatDoorLAfP6
import Derived.Test.YtbbokgpklihkoaaGreatDoorLAfP7
set_option linter.unusedVariables false
set_option linter.unusedSimpArgs false
namespace Go.Proofs.YtbbokgpklihkoaaGreatDoor.W.E
section
set_option maxRecDepth 100000
open Go.RowKit
theorem boA (h:Hp):∀ i,i < 17→∃ l c,qB (lvB l c) [0,2,3,4,5,6] 80 k1Bo (sA i h) (sA (i + 1) h) .normal
 | 0,_=>⟨_,_,boA0 h⟩
 | 1,_=>⟨_,_,boA1 h⟩
 | 2,_=>⟨_,_,boA2 h⟩
 | 3,_=>⟨_,_,boA3 h⟩
 | 4,_=>⟨_,_,boA4 h⟩
 | 5,_=>⟨_,_,boA5 h⟩
 | 6,_=>⟨_,_,boA6 h⟩
 | 7,_=>⟨_,_,boA7 h⟩
 | 8,_=>⟨_,_,boA8 h⟩
 | 9,_=>⟨_,_,boA9 h⟩
 | 10,_=>⟨_,_,boA10 h⟩
 | 11,_=>⟨_,_,boA11 h⟩
 | 12,_=>⟨_,_,boA12 h⟩
 | 13,_=>⟨_,_,boA13 h⟩
 | 14,_=>⟨_,_,boA14 h⟩
 | 15,_=>⟨_,_,boA15 h⟩
 | 16,_=>⟨_,_,boA16 h⟩
 | n + 17,hn=>absurd hn (by omega)
theorem boC (h:Hp):∀ i,i < 17→∃ l c,qB (lvB l c) [0,2,3,4,5,11,12] 80 k2Bo (sC i h) (sC (i + 1) h) .normal
 | 0,_=>⟨_,_,boC0 h⟩
 | 1,_=>⟨_,_,boC1 h⟩
 | 2,_=>⟨_,_,boC2 h⟩
 | 3,_=>⟨_,_,boC3 h⟩
 | 4,_=>⟨_,_,boC4 h⟩
 | 5,_=>⟨_,_,boC5 h⟩
 | 6,_=>⟨_,_,boC6 h⟩
 | 7,_=>⟨_,_,boC7 h⟩
 | 8,_=>⟨_,_,boC8 h⟩
 | 9,_=>⟨_,_,boC9 h⟩
 | 10,_=>⟨_,_,boC10 h⟩
 | 11,_=>⟨_,_,boC11 h⟩
 | 12,_=>⟨_,_,boC12 h⟩
 | 13,_=>⟨_,_,boC13 h⟩
 | 14,_=>⟨_,_,boC14 h⟩
 | 15,_=>⟨_,_,boC15 h⟩
 | 16,_=>⟨_,_,boC16 h⟩
 | n + 17,hn=>absurd hn (by omega)
theorem boLoopA {w0:B0} (hH:Hd w0 fo0 2) (h:Hp):CodeQ w0 nBo (.loop b1Bo) (sA 0 h).1 (sA 0 h).2 fun x tm st=>x=.exit 0∧tm=(sA 17 h).1∧st=(sA 17 h).2:=by
 refine CodeQ.loop (α:=Nat) (S:=fun i=>sA i h) (Inv:=fun i=>i≤17) (μ:=fun i=>17 - i) (fun i hi=>?_) 0 (by show (0:Nat)≤17;omega)
 replace hi:i≤17:=hi
 refine CodeL.code ?_
 by_cases h17:i=17
 ·subst h17
  refine (QTX.code hH extE_ok (boAe h) boPl1 trivial lvB_id).mono ?_
  rintro x tm st ⟨rfl,rfl,rfl⟩
  exact .inr ⟨nofun,rfl,rfl,rfl⟩
 ·have hlt:i < 17:=by omega
  obtain ⟨l,c,hq⟩:=boA h i hlt
  refine (QTX.code hH extE_ok hq boPl1 trivial lvB_id).mono ?_
  rintro x tm st ⟨rfl,rfl,rfl⟩
  exact .inl ⟨rfl,i + 1,by show i + 1≤17;omega,by show 17 - (i + 1) < 17 - i;omega,rfl,rfl⟩
theorem boLoopC {w0:B0} (hH:Hd w0 fo0 2) (h:Hp):CodeQ w0 nBo (.loop b2Bo) (sC 0 h).1 (sC 0 h).2 fun x tm st=>x=.exit 4∧tm=(sC 17 h).1∧st=(sC 17 h).2:=by
 refine CodeQ.loop (α:=Nat) (S:=fun i=>sC i h) (Inv:=fun i=>i≤17) (μ:=fun i=>17 - i) (fun i hi=>?_) 0 (by show (0:Nat)≤17;omega)
 replace hi:i≤17:=hi
 refine CodeL.code ?_
 by_cases h17:i=17
 ·subst h17
  refine (QTX.code hH extE_ok (boCe h) boPl3 trivial lvB_id).mono ?_
  rintro x tm st ⟨rfl,rfl,rfl⟩
  exact .inr ⟨nofun,rfl,rfl,rfl⟩
 ·have hlt:i < 17:=by omega
  obtain ⟨l,c,hq⟩:=boC h i hlt
  refine (QTX.code hH extE_ok hq boPl3 trivial lvB_id).mono ?_
  rintro x tm st ⟨rfl,rfl,rfl⟩
  exact .inl ⟨rfl,i + 1,by show i + 1≤17;omega,by show 17 - (i + 1) < 17 - i;omega,rfl,rfl⟩
theorem hid2 {t:Live}:∀ b,b < 2→(b,b)∈((0,0) :: (1,1) :: t:Live):=fun b hb=>match b,hb with
 | 0,_=>List.mem_cons_self ..
 | 1,_=>List.mem_cons_of_mem _ (List.mem_cons_self ..)
theorem bo_all (w0:B0) (h:Hp) (hH:Hd w0 fo0 2):CodeQ w0 nBo cBo (initT [.ptr 1 0] 0 .e) ⟨T.upd .e 1 (some k0Bo),2,xH 0 h⟩ fun x tm st=>(x=.normal∨x=.ret)∧resS Tryz.prog st.m tm rsBo=some (vr 19).sv∧st=⟨addN (T.upd .e 1 (some k1E)) 2 ksE,ksE.length + 2,xH 0 h⟩:=by
 refine CodeL.code ?_
 rw [kBo_eq]
 refine CodeL.app (QTX.code hH extE_ok (boP h) boPl0 trivial hid2) ?_ (fun x tm st hx h=>absurd h.1 hx)
 rintro tm st ⟨-,rfl,rfl⟩
 refine CodeL.app (P1:=fun x tm st=>x=.normal∧tm=(sA 17 h).1∧st=(sA 17 h).2) (CodeQ.row (CodeQ.block ((boLoopA hH h).mono ?_))) ?_ (fun x tm st hx h=>absurd h.1 hx)
 ·rintro x tm st ⟨rfl,rfl,rfl⟩
  exact ⟨rfl,rfl,rfl⟩
 rintro tm st ⟨-,rfl,rfl⟩
 refine CodeL.app (QTX.code hH extE_ok (boM h) boPl2 trivial lvB_id) ?_ (fun x tm st hx h=>absurd h.1 hx)
 rintro tm st ⟨-,rfl,rfl⟩
 refine CodeL.app (P1:=fun x tm st=>x=.normal∧tm=(sC 17 h).1∧st=(sC 17 h).2) (CodeQ.row (CodeQ.block ((boLoopC hH h).mono ?_))) ?_ (fun x tm st hx h=>absurd h.1 hx)
 ·rintro x tm st ⟨rfl,rfl,rfl⟩
  exact ⟨rfl,rfl,rfl⟩
 rintro tm st ⟨-,rfl,rfl⟩
 refine (QTX.code hH extE_ok (boZ h) boPl4 trivial hid2).mono ?_
 rintro x tm st ⟨rfl,rfl,rfl⟩
 exact ⟨.inr rfl,boRes h,rfl⟩
def isK0:SB→Bool:=fun k=>match k with
 | .cells [.nils,.int .i64 n] false [] (some t)=>eqI n 0 && Nat.beq t 50
 | _=>false
theorem isK0_ok:∀ k,isK0 k=true→k=k0Bo:=fun k h=>by
 unfold isK0 at h
 split at h
 ·simp only [Bool.and_eq_true] at h
  obtain ⟨h1,h2⟩:=h
  rw [eqI_eq] at h1
  have h1:=beq_iff_eq.1 h1
  have h2:=Nat.eq_of_beq_eq_true h2
  subst h1 h2
  rfl
 ·cases h
def xBoR:ExtF:=xPart isK0 k1E ksE (vr 19).sv
theorem xBoR_ok:ExtOk fBo xBoR:=xPart_ok (g:=Tryz.f19) (c:=cBo) isK0_ok Tryz.func19 (by kernel_rfl) (zB (by kernel_rfl)) rfl rfl (fun _=>rfl) (fun _=>rfl) fun w0 h hH=>bo_all w0 h hH
end
end Go.Proofs.YtbbokgpklihkoaaGreatDoor.W.E
