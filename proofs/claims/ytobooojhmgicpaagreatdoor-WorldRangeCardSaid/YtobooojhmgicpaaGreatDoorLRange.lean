/- LRange -/
import Derived.Test.YtobooojhmgicpaaGreatDoorLRaP
import Derived.Test.YtobooojhmgicpaaGreatDoorLRaR
set_option linter.unusedVariables false
set_option linter.unusedSimpArgs false
namespace Go.Proofs.YtobooojhmgicpaaGreatDoor.W.E
section
set_option maxRecDepth 100000
open Go.RowKit
theorem raPlP:((lRa.take 9).all fun c=>planOkC (plan fRa) c)=true:=by kernel_rfl
theorem raPlZ:(lRa.all fun c=>planOkC (plan fRa) c)=true:=by kernel_rfl
theorem raPlA:((l1Ra.take 2).all fun c=>planOkC (plan fRa) c)=true:=by kernel_rfl
theorem raPlU:((l1Ra.drop 3).all fun c=>planOkC (plan fRa) c)=true:=by kernel_rfl
theorem raPlT:((lbRa.take 4).all fun c=>planOkC (plan fRa) c)=true:=by kernel_rfl
theorem raPlI:((l2Ra.take 2).all fun c=>planOkC (plan fRa) c)=true:=by kernel_rfl
theorem raPlD:((l2Ra.drop 3).all fun c=>planOkC (plan fRa) c)=true:=by kernel_rfl
theorem raPlB:(l3Ra.all fun c=>planOkC (plan fRa) c)=true:=by kernel_rfl
theorem raPlF:((lRa.drop 10).all fun c=>planOkC (plan fRa) c)=true:=by kernel_rfl
section
variable {w:World}
abbrev i64R (n:Int):Prop:=-9223372036854775808≤n∧n≤9223372036854775807
abbrev inS (a b c:Int) (k:Nat) (h:Hp) (it:Int) (t:Int) (o:Bool) (i:Nat):SS:=sIn a b c k (hCo h (cond o b t) b c) it t o i
def RaMid (w:World) (a b c:Int) (k:Nat) (h:Hp) (it:Int):Prop:=∀ (t:Int) (o:Bool) (i:Nat),i64R t→CodeL (B0.of w) nRa l3Ra (inS a b c k h it t o i).1 (inS a b c k h it t o i).2 fun x tm st =>
 ∃ t' o',i64R t'∧tm=(inS a b c k h it t' o' i).1∧st=(inS a b c k h it t' o' i).2∧(x=.normal∨x=.exit 2)
theorem raMid0p (a b c:Int) (hc:0 < c) (hc2:i64R c) (hb2:i64R b):RaMid w a b c 0 (hRa a b c) 22:=by
 intro t o i ht
 unfold i64R at *
 cases o with
 | true =>
  refine (PT.code (Hd.of _) (ra0pX a b c t (0) (9223372036854775807 - c) i) raPlB (by refine ⟨?_,?_,trivial⟩<;>first | exact o_lt (by omega) | exact o_nlt (by omega) | exact o_ge (by omega) | exact o_nge (by omega) | exact o_add (by omega) | exact o_sub (by omega) | exact o_neV _ rfl rfl) hid0).mono ?_
  rintro x tm st ⟨rfl,rfl,rfl⟩;exact ⟨t,true,ht,rfl,rfl,.inr rfl⟩
 | false =>
  by_cases he:b≤t
  ·refine (PT.code (Hd.of _) (ra0pE a b c t (0) (9223372036854775807 - c) i) raPlB (by refine ⟨?_,?_,?_,?_,trivial⟩<;>first | exact o_lt (by omega) | exact o_nlt (by omega) | exact o_ge (by omega) | exact o_nge (by omega) | exact o_add (by omega) | exact o_sub (by omega) | exact o_neV _ rfl rfl) hid0).mono ?_
   rintro x tm st ⟨rfl,rfl,rfl⟩;exact ⟨t,false,ht,rfl,rfl,.inr rfl⟩
  ·by_cases hf:t + c≤9223372036854775807
   ·refine (PT.code (Hd.of _) (ra0pS a b c t (t + c) (9223372036854775807 - c) i) raPlB (by refine ⟨?_,?_,?_,?_,?_,?_,?_,?_,?_,?_,?_,?_,?_,?_,?_,?_,trivial⟩<;>first | exact o_lt (by omega) | exact o_nlt (by omega) | exact o_ge (by omega) | exact o_nge (by omega) | exact o_add (by omega) | exact o_sub (by omega) | exact o_neV _ rfl rfl) hid0).mono ?_
    rintro x tm st ⟨rfl,rfl,rfl⟩;exact ⟨t + c,false,by omega,rfl,rfl,.inl rfl⟩
   ·refine (PT.code (Hd.of _) (ra0pV a b c t (t + c - 18446744073709551616) (9223372036854775807 - c) i) raPlB (by refine ⟨?_,?_,?_,?_,?_,?_,?_,?_,?_,?_,?_,?_,?_,?_,trivial⟩<;>first | exact o_lt (by omega) | exact o_nlt (by omega) | exact o_ge (by omega) | exact o_nge (by omega) | exact o_add (by omega) | exact o_sub (by omega) | exact o_neV _ rfl rfl) hid0).mono ?_
    rintro x tm st ⟨rfl,rfl,rfl⟩;exact ⟨t + c - 18446744073709551616,true,by omega,rfl,rfl,.inl rfl⟩
theorem raMid0n (a b c:Int) (hc:c < 0) (hc2:i64R c) (hb2:i64R b):RaMid w a b c 0 (hRa a b c) 22:=by
 intro t o i ht
 unfold i64R at *
 cases o with
 | true =>
  refine (PT.code (Hd.of _) (ra0nX a b c t (0) (-9223372036854775808 - c) i) raPlB (by refine ⟨?_,?_,?_,trivial⟩<;>first | exact o_lt (by omega) | exact o_nlt (by omega) | exact o_ge (by omega) | exact o_nge (by omega) | exact o_add (by omega) | exact o_sub (by omega) | exact o_neV _ rfl rfl) hid0).mono ?_
  rintro x tm st ⟨rfl,rfl,rfl⟩;exact ⟨t,true,ht,rfl,rfl,.inr rfl⟩
 | false =>
  by_cases he:t≤b
  ·refine (PT.code (Hd.of _) (ra0nE a b c t (0) (-9223372036854775808 - c) i) raPlB (by refine ⟨?_,?_,?_,?_,?_,?_,trivial⟩<;>first | exact o_lt (by omega) | exact o_nlt (by omega) | exact o_ge (by omega) | exact o_nge (by omega) | exact o_add (by omega) | exact o_sub (by omega) | exact o_neV _ rfl rfl) hid0).mono ?_
   rintro x tm st ⟨rfl,rfl,rfl⟩;exact ⟨t,false,ht,rfl,rfl,.inr rfl⟩
  ·by_cases hf:-9223372036854775808≤t + c
   ·refine (PT.code (Hd.of _) (ra0nS a b c t (t + c) (-9223372036854775808 - c) i) raPlB (by refine ⟨?_,?_,?_,?_,?_,?_,?_,?_,?_,?_,?_,?_,?_,?_,?_,?_,trivial⟩<;>first | exact o_lt (by omega) | exact o_nlt (by omega) | exact o_ge (by omega) | exact o_nge (by omega) | exact o_add (by omega) | exact o_sub (by omega) | exact o_neV _ rfl rfl) hid0).mono ?_
    rintro x tm st ⟨rfl,rfl,rfl⟩;exact ⟨t + c,false,by omega,rfl,rfl,.inl rfl⟩
   ·refine (PT.code (Hd.of _) (ra0nV a b c t (t + c + 18446744073709551616) (-9223372036854775808 - c) i) raPlB (by refine ⟨?_,?_,?_,?_,?_,?_,?_,?_,?_,?_,?_,?_,?_,?_,?_,?_,trivial⟩<;>first | exact o_lt (by omega) | exact o_nlt (by omega) | exact o_ge (by omega) | exact o_nge (by omega) | exact o_add (by omega) | exact o_sub (by omega) | exact o_neV _ rfl rfl) hid0).mono ?_
    rintro x tm st ⟨rfl,rfl,rfl⟩;exact ⟨t + c + 18446744073709551616,true,by omega,rfl,rfl,.inl rfl⟩
theorem raMid1p (a b c m:Int) (hc:0 < c) (hc2:i64R c) (hb2:i64R b):RaMid w a b c 1 (hCo (hRa a b c) m b c) 23:=by
 intro t o i ht
 unfold i64R at *
 cases o with
 | true =>
  refine (PT.code (Hd.of _) (ra1pX a b c t (0) (9223372036854775807 - c) m i) raPlB (by refine ⟨?_,?_,trivial⟩<;>first | exact o_lt (by omega) | exact o_nlt (by omega) | exact o_ge (by omega) | exact o_nge (by omega) | exact o_add (by omega) | exact o_sub (by omega) | exact o_neV _ rfl rfl) hid0).mono ?_
  rintro x tm st ⟨rfl,rfl,rfl⟩;exact ⟨t,true,ht,rfl,rfl,.inr rfl⟩
 | false =>
  by_cases he:b≤t
  ·refine (PT.code (Hd.of _) (ra1pE a b c t (0) (9223372036854775807 - c) m i) raPlB (by refine ⟨?_,?_,?_,?_,trivial⟩<;>first | exact o_lt (by omega) | exact o_nlt (by omega) | exact o_ge (by omega) | exact o_nge (by omega) | exact o_add (by omega) | exact o_sub (by omega) | exact o_neV _ rfl rfl) hid0).mono ?_
   rintro x tm st ⟨rfl,rfl,rfl⟩;exact ⟨t,false,ht,rfl,rfl,.inr rfl⟩
  ·by_cases hf:t + c≤9223372036854775807
   ·refine (PT.code (Hd.of _) (ra1pS a b c t (t + c) (9223372036854775807 - c) m i) raPlB (by refine ⟨?_,?_,?_,?_,?_,?_,?_,?_,?_,?_,?_,?_,?_,?_,?_,?_,trivial⟩<;>first | exact o_lt (by omega) | exact o_nlt (by omega) | exact o_ge (by omega) | exact o_nge (by omega) | exact o_add (by omega) | exact o_sub (by omega) | exact o_neV _ rfl rfl) hid0).mono ?_
    rintro x tm st ⟨rfl,rfl,rfl⟩;exact ⟨t + c,false,by omega,rfl,rfl,.inl rfl⟩
   ·refine (PT.code (Hd.of _) (ra1pV a b c t (t + c - 18446744073709551616) (9223372036854775807 - c) m i) raPlB (by refine ⟨?_,?_,?_,?_,?_,?_,?_,?_,?_,?_,?_,?_,?_,?_,trivial⟩<;>first | exact o_lt (by omega) | exact o_nlt (by omega) | exact o_ge (by omega) | exact o_nge (by omega) | exact o_add (by omega) | exact o_sub (by omega) | exact o_neV _ rfl rfl) hid0).mono ?_
    rintro x tm st ⟨rfl,rfl,rfl⟩;exact ⟨t + c - 18446744073709551616,true,by omega,rfl,rfl,.inl rfl⟩
theorem raMid1n (a b c m:Int) (hc:c < 0) (hc2:i64R c) (hb2:i64R b):RaMid w a b c 1 (hCo (hRa a b c) m b c) 23:=by
 intro t o i ht
 unfold i64R at *
 cases o with
 | true =>
  refine (PT.code (Hd.of _) (ra1nX a b c t (0) (-9223372036854775808 - c) m i) raPlB (by refine ⟨?_,?_,?_,trivial⟩<;>first | exact o_lt (by omega) | exact o_nlt (by omega) | exact o_ge (by omega) | exact o_nge (by omega) | exact o_add (by omega) | exact o_sub (by omega) | exact o_neV _ rfl rfl) hid0).mono ?_
  rintro x tm st ⟨rfl,rfl,rfl⟩;exact ⟨t,true,ht,rfl,rfl,.inr rfl⟩
 | false =>
  by_cases he:t≤b
  ·refine (PT.code (Hd.of _) (ra1nE a b c t (0) (-9223372036854775808 - c) m i) raPlB (by refine ⟨?_,?_,?_,?_,?_,?_,trivial⟩<;>first | exact o_lt (by omega) | exact o_nlt (by omega) | exact o_ge (by omega) | exact o_nge (by omega) | exact o_add (by omega) | exact o_sub (by omega) | exact o_neV _ rfl rfl) hid0).mono ?_
   rintro x tm st ⟨rfl,rfl,rfl⟩;exact ⟨t,false,ht,rfl,rfl,.inr rfl⟩
  ·by_cases hf:-9223372036854775808≤t + c
   ·refine (PT.code (Hd.of _) (ra1nS a b c t (t + c) (-9223372036854775808 - c) m i) raPlB (by refine ⟨?_,?_,?_,?_,?_,?_,?_,?_,?_,?_,?_,?_,?_,?_,?_,?_,trivial⟩<;>first | exact o_lt (by omega) | exact o_nlt (by omega) | exact o_ge (by omega) | exact o_nge (by omega) | exact o_add (by omega) | exact o_sub (by omega) | exact o_neV _ rfl rfl) hid0).mono ?_
    rintro x tm st ⟨rfl,rfl,rfl⟩;exact ⟨t + c,false,by omega,rfl,rfl,.inl rfl⟩
   ·refine (PT.code (Hd.of _) (ra1nV a b c t (t + c + 18446744073709551616) (-9223372036854775808 - c) m i) raPlB (by refine ⟨?_,?_,?_,?_,?_,?_,?_,?_,?_,?_,?_,?_,?_,?_,?_,?_,trivial⟩<;>first | exact o_lt (by omega) | exact o_nlt (by omega) | exact o_ge (by omega) | exact o_nge (by omega) | exact o_add (by omega) | exact o_sub (by omega) | exact o_neV _ rfl rfl) hid0).mono ?_
    rintro x tm st ⟨rfl,rfl,rfl⟩;exact ⟨t + c + 18446744073709551616,true,by omega,rfl,rfl,.inl rfl⟩
theorem raInner {a b c:Int} {k:Nat} {h:Hp} {it:Int} (H:RaMid w a b c k h it) (ha:i64R a):CodeQ (B0.of w) nRa (.loop b2Ra) (inS a b c k h it a false 0).1 (inS a b c k h it a false 0).2 fun x tm st =>
  x=.exit 2∧∃ t o i,tm=(inS a b c k h it t o i).1∧st=(inS a b c k h it t o i).2:=by
 refine CodeQ.loop (α:=Int × Bool × Nat) (S:=fun p=>inS a b c k h it p.1 p.2.1 p.2.2) (Inv:=fun p=>i64R p.1∧p.2.2≤60) (μ:=fun p=>60 - p.2.2) (fun p hp=>?_) (a,false,0) ⟨ha,by show (0:Nat)≤60;omega⟩
 obtain ⟨t,o,i⟩:=p
 obtain ⟨ht,hi⟩:=hp
 replace hi:i≤60:=hi
 refine CodeL.code ?_
 rw [l2Ra_eq]
 by_cases h60:i=60
 ·subst h60
  refine CodeL.app (PT.code (Hd.of _) (raJ a b c k (hCo h (cond o b t) b c) it t o) raPlI trivial hid0) (fun tm st h=>by cases h.1) ?_
  rintro x tm st hx ⟨rfl,rfl,rfl⟩
  exact .inr ⟨hx,rfl,t,o,60,rfl,rfl⟩
 ·have hlt:i < 60:=by omega
  refine CodeL.app (PT.code (sc:=[]) (ps:=[]) (Hd.of _) ((raI a b c k (hCo h (cond o b t) b c) it t o).at (List.mem_range.2 hlt)) raPlI trivial hid0) ?_ (fun x tm st hx h=>absurd h.1 hx)
  rintro tm st ⟨-,rfl,rfl⟩
  refine CodeL.app (P1:=fun x tm st=>∃ t' o',i64R t'∧tm=(inS a b c k h it t' o' i).1∧st=(inS a b c k h it t' o' i).2∧(x=.normal∨x=.exit 2)) (CodeQ.row (CodeQ.block (CodeL.code ((H t o i ht).mono ?_)))) ?_ ?_
  ·rintro x tm st ⟨t',o',h1,h2,h3,h4⟩
   refine ⟨t',o',h1,h2,h3,?_⟩
   rcases h4 with rfl | rfl
   ·exact .inl rfl
   ·exact .inr rfl
  ·rintro tm st ⟨t',o',h1,rfl,rfl,-⟩
   refine (PT.code (sc:=[]) (ps:=[]) (Hd.of _) ((raD a b c k (hCo h (cond o' b t') b c) it t' o').at (List.mem_range.2 hlt)) raPlD trivial hid0).mono ?_
   rintro x tm st ⟨rfl,rfl,rfl⟩
   exact .inl ⟨rfl,(t',o',i + 1),⟨h1,by show i + 1≤60;omega⟩,by show 60 - (i + 1) < 60 - i;omega,rfl,rfl⟩
  ·rintro x tm st hx ⟨t',o',h1,rfl,rfl,h4⟩
   rcases h4 with rfl | rfl
   ·exact absurd rfl hx
   ·exact .inr ⟨hx,rfl,t',o',i,rfl,rfl⟩
theorem raTurn {a b c:Int} {k:Nat} (hk:k∈[0,1]) {h:Hp} {it:Int} (H:RaMid w a b c k h it) (ha:i64R a)
  (hT:PT fo0 fRa nRa [(0,0),(1,1),(2,2),(22,3)] kI 4 (lbRa.take 4) (SS.tell (sRa a b c k h) []) (sIn a b c k (hCo h a b c) it a false 0) .normal []) :
  CodeQ (B0.of w) nRa b1Ra (sRa a b c k h).1 (sRa a b c k h).2 fun x tm st=>x=.normal∧∃ n,tm=(sRa a b c (k + 1) (hCo h n b c)).1∧st=(sRa a b c (k + 1) (hCo h n b c)).2:=by
 refine CodeL.code ?_
 rw [l1Ra_eq]
 refine CodeL.app (PT.code (sc:=[]) (ps:=[]) (Hd.of _) ((raA a b c h).at hk) raPlA trivial hid0) ?_ (fun x tm st hx h=>absurd h.1 hx)
 rintro tm st ⟨-,rfl,rfl⟩
 refine CodeL.app (P1:=fun x tm st=>x=.normal∧∃ t o i,tm=(inS a b c k h it t o i).1∧st=(inS a b c k h it t o i).2) (CodeQ.row (CodeQ.block (CodeL.code ?_))) ?_ (fun x tm st hx h=>absurd h.1 hx)
 ·rw [lbRa_eq]
  refine CodeL.app (PT.code (Hd.of _) hT raPlT trivial hid0) ?_ (fun x tm st hx h=>absurd h.1 hx)
  rintro tm st ⟨-,rfl,rfl⟩
  refine CodeQ.row (CodeQ.block ((raInner H ha).mono ?_))
  rintro x tm st ⟨rfl,t,o,i,rfl,rfl⟩
  exact ⟨rfl,t,o,i,rfl,rfl⟩
 ·rintro tm st ⟨-,t,o,i,rfl,rfl⟩
  refine (PT.code (sc:=[]) (ps:=[]) (Hd.of _) ((raU a b c (hCo h (cond o b t) b c) it t o i).at hk) raPlU trivial hid0).mono ?_
  rintro x tm st ⟨rfl,rfl,rfl⟩
  exact ⟨rfl,_,rfl,rfl⟩
def hTn (a b c:Int) (p:Nat × Int × Int):Hp:=match p.1 with
 | 0=>hRa a b c
 | 1=>hCo (hRa a b c) p.2.1 b c
 | _=>hCo (hCo (hRa a b c) p.2.1 b c) p.2.2 b c
theorem raLoop {a b c:Int} (H0:RaMid w a b c 0 (hRa a b c) 22) (H1:∀ m,RaMid w a b c 1 (hCo (hRa a b c) m b c) 23) (ha:i64R a) :
  CodeQ (B0.of w) nRa (.loop b1Ra) (sRa a b c 0 (hRa a b c)).1 (sRa a b c 0 (hRa a b c)).2 fun x tm st=>x=.exit 0∧∃ h,tm=(sRa a b c 2 h).1∧st=(sRa a b c 2 h).2:=by
 refine CodeQ.loop (α:=Nat × Int × Int) (S:=fun p=>sRa a b c p.1 (hTn a b c p)) (Inv:=fun p=>p.1≤2) (μ:=fun p=>2 - p.1) (fun p hp=>?_) (0,0,0) (by show (0:Nat)≤2;omega)
 obtain ⟨k,m,m2⟩:=p
 replace hp:k≤2:=hp
 match k,hp with
 | 0,_ =>
  refine (raTurn (by simp) H0 ha (raT0 a b c)).mono ?_
  rintro x tm st ⟨rfl,n,rfl,rfl⟩
  exact .inl ⟨rfl,(1,n,0),by show (1:Nat)≤2;omega,by show 2 - 1 < 2 - 0;omega,rfl,rfl⟩
 | 1,_ =>
  refine (raTurn (by simp) (H1 m) ha (raT1 a b c m)).mono ?_
  rintro x tm st ⟨rfl,n,rfl,rfl⟩
  exact .inl ⟨rfl,(2,m,n),by show (2:Nat)≤2;omega,by show 2 - 2 < 2 - 1;omega,rfl,rfl⟩
 | 2,_ =>
  refine CodeL.code ?_
  rw [l1Ra_eq]
  refine CodeL.app (PT.code (Hd.of _) (raE a b c (hTn a b c (2,m,m2))) raPlA trivial hid0) (fun tm st h=>by cases h.1) ?_
  rintro x tm st hx ⟨rfl,rfl,rfl⟩
  exact .inr ⟨hx,rfl,_,rfl,rfl⟩
theorem raAll {a b c:Int} (ha:i64R a) (hb:i64R b) (hc:i64R c):CodeQ (B0.of w) nRa cRa (initT [.int .i64 a,.int .i64 b,.int .i64 c] 0 .e) (st0 []) fun x tm st=>(x=.normal∨x=.ret)∧resS Tryz.prog st.m tm rsRa=some (.bool true):=by
 refine CodeL.code ?_
 by_cases h0:c=0
 ·exact PE.code (s:=(initT [.int .i64 a,.int .i64 b,.int .i64 c] 0 .e,st0 [])) (Hd.of _) (raZ a b c) raPlZ ⟨o_eq h0,o_eq h0,trivial⟩
 ·rw [lRa_eq]
  refine CodeL.app (PT.code (s:=(initT [.int .i64 a,.int .i64 b,.int .i64 c] 0 .e,st0 [])) (Hd.of _) (raP a b c) raPlP ⟨o_neq h0,o_neq h0,trivial⟩ hid0) ?_ (fun x tm st hx h=>absurd h.1 hx)
  rintro tm st ⟨-,rfl,rfl⟩
  refine CodeL.app (P1:=fun x tm st=>x=.normal∧∃ h,tm=(sRa a b c 2 h).1∧st=(sRa a b c 2 h).2) (CodeQ.row (CodeQ.block ?_)) ?_ (fun x tm st hx h=>absurd h.1 hx)
  ·have key:RaMid w a b c 0 (hRa a b c) 22∧∀ m,RaMid w a b c 1 (hCo (hRa a b c) m b c) 23:=by
    by_cases hp:0 < c
    ·exact ⟨raMid0p a b c hp hc hb,fun m=>raMid1p a b c m hp hc hb⟩
    ·have hn:c < 0:=by omega
     exact ⟨raMid0n a b c hn hc hb,fun m=>raMid1n a b c m hn hc hb⟩
   refine (raLoop key.1 key.2 ha).mono ?_
   rintro x tm st ⟨rfl,h,rfl,rfl⟩
   exact ⟨rfl,h,rfl,rfl⟩
  ·rintro tm st ⟨-,h,rfl,rfl⟩
   exact PE.code (Hd.of _) (raF a b c h) raPlF trivial
end
theorem range_any (a b c:Int) (ha:(Lit.int .i64 a).wf=true) (hb:(Lit.int .i64 b).wf=true) (hc:(Lit.int .i64 c).wf=true):LawT fRa [.int .i64 a,.int .i64 b,.int .i64 c] :=
 lawQ (c:=cRa) (vs:=[.int .i64 a,.int .i64 b,.int .i64 c]) Tryz.func3 (by kernel_rfl) (Nat.le_of_ble_eq_true (by kernel_rfl)) (Nat.le_of_ble_eq_true (by kernel_rfl)) (.cons (.int _ _) (.cons (.int _ _) (.cons (.int _ _) .nil))) fun w0 hg =>
  raAll (wf_i64 ha) (wf_i64 hb) (wf_i64 hc)
end
end Go.Proofs.YtobooojhmgicpaaGreatDoor.W.E
