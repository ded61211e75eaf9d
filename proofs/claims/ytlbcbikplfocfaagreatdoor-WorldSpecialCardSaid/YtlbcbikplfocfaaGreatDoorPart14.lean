/- Lin Lin2 RangeR Shelf -/
import Derived.Test.YtlbcbikplfocfaaGreatDoorPart13
import Derived.Shelf.Strings.Builder1
import Derived.Shelf.Strings.Builder2
import Derived.Shelf.Strings.OnBuilder
import Derived.Shelf.Small.Bits
import Derived.Shelf.Small.Wraps
import Derived.Shelf.Strings.BuilderF
import Derived.Shelf.Strings.BuilderK
import Derived.Shelf.Strings.Builder2Cap
import Derived.Shelf.Strconv.Itoa0
import Derived.Shelf.Strings.Search1
import Derived.Shelf.Strings.Search2
import Derived.Shelf.Strings.Search3
import Derived.Shelf.Strings.Cut
import Derived.Shelf.LaysM
import Derived.Shelf.Strings.Shaped
import Derived.Shelf.Strings.Prefix
import Derived.Shelf.Strings.Fields
import Derived.Shelf.Strings.SplitShaped
import Derived.Shelf.Unicode.Latin
import Derived.Shelf.Bits.Mul64
import Derived.Shelf.Strings.Repeat
import Derived.Shelf.Unicode.Is16White
import Derived.Shelf.Unicode.IsSpaceAny
import Derived.Shelf.Unicode.Is16WhiteD
import Derived.Shelf.Unicode.IsSpaceAnyD
import Derived.Shelf.Strings.FieldsAny
import Derived.Shelf.Strings.FieldsFuncAny
import Derived.Shelf.Unicode.Is16Any
import Derived.Shelf.Unicode.Is32Any
import Derived.Shelf.Unicode.ExclAny
import Derived.Shelf.Strings.FieldsFuncGrows
import Derived.Shelf.Strings.BuilderCap
import Derived.Shelf.Slices.Turned
import Derived.Ground.Names2Prog
import Derived.Shelf.Slices.SearchI
import Derived.Ground.SlgnProg
import Derived.Shelf.SlicesG.Turned
import Derived.Shelf.SlicesG.SearchI
import Derived.Shelf.SlicesE.Clone
import Derived.Test.YtlbcbikplfocfaaGreatDoorProg
set_option linter.unusedVariables false
set_option linter.unusedSimpArgs false
namespace Go.Proofs.YtlbcbikplfocfaaGreatDoor.W
section
open Go.RowKit
theorem Ix.form {F:Foot} {w:World} {x:Value} {l:List Int} (h:Ix F w x l):∃ a c,x=.slice a l.length c∧l.length≤c∧(0 < l.length→∃ b o,a=some ⟨b,o,none⟩∧b < w.heap.size∧¬ F b) ∧
  ∀ b o,a=some ⟨b,o,none⟩→∀ (j:Nat) (n:Int),l[j]?=some n→w.cell? ⟨b,o + j,none⟩=some (.int .i64 n):=by
 rcases h.is with ⟨rfl,rfl⟩ | ⟨b,o,c,rfl,q0,q1,q2,q3⟩
 ·exact ⟨none,0,rfl,Nat.le_refl _,fun h=>absurd h (by simp),fun b o e=>by cases e⟩
 ·exact ⟨_,c,rfl,q1,fun _=>⟨b,o,rfl,q0,h.out b o _ c rfl⟩,fun b o e=>by cases e;exact q3⟩
theorem Ix.tail {F:Foot} {w:World} {b o c:Nat} {n:Int} {l:List Int} (h:Ix F w (.slice (some ⟨b,o,none⟩) (l.length + 1) c) (n :: l)):Ix F w (.slice (if c=1 then some ⟨b,o,none⟩ else some ⟨b,o + 1,none⟩) l.length (c - 1)) l:=by
 rcases h.is with ⟨e,-⟩ | ⟨b',o',c',e,q0,q1,q2,q3⟩
 ·cases e
 ·injection e with e1 e2 e3
  injection e1 with e1
  injection e1 with e1 e4 _
  subst e1 e4 e3
  simp only [List.length_cons] at q1
  refine ⟨.inr ?_,fun b' o' n' c' e=>?_⟩
  ·by_cases hc:c=1
   ·rw [if_pos hc]
    have hl:l=[]:=List.eq_nil_of_length_eq_zero (by omega)
    subst hl
    exact ⟨b,o,c - 1,rfl,q0,by simp,by omega,fun j m hj=>by simp at hj⟩
   ·rw [if_neg hc]
    exact ⟨b,o + 1,c - 1,rfl,q0,by omega,by omega,fun j m hj=>by have:=q3 (j + 1) m (by simpa using hj);rw [show o + (j + 1)=o + 1 + j by omega] at this;exact this⟩
  ·have hb:b'=b:=by
    injection e with e1 _ _
    by_cases hc:c=1
    ·rw [if_pos hc] at e1;injection e1 with e1;injection e1 with e1 _ _;exact e1.symm
    ·rw [if_neg hc] at e1;injection e1 with e1;injection e1 with e1 _ _;exact e1.symm
   rw [hb];exact h.out b o _ c rfl
theorem index_int (w:World) (x:Value) (F:Foot) (l:List Int) (hx:Ix F w x l) (hl:l.length≤big) (m:Int) :
  Calls Tryz.prog 287 #[x,.int .i64 m] w fun e w'=>(∃ i:Int,e=.returned (.int .i64 i)∧decide (0≤i)=decide (m∈l))∧w=w':=by
 obtain ⟨n,hn⟩:∃ n,n=l.length:=⟨_,rfl⟩
 obtain ⟨a,c,rfl,-,ha,hcell⟩:=hx.form
 rw [← hn] at hl ha ⊢
 replace hl:n≤1048576:=hl
 have HN:=zH hn
 have HA:=zH (And.intro ha hcell)
 clear hx hn ha hcell
 go_enter Tryz.func287,Tryz.ntmps287
 go_wp2
 go_loopw [8] (fun v8 wr=>wr=w∧∃ k:Nat,k≤n∧v8=.int .i64 k∧m ∉ l.take k) (fun v8 _=>n - (intOf v8).toNat)
 case atStart=>exact ⟨rfl,0,Nat.zero_le _,rfl,by simp⟩
 case round =>
  obtain ⟨rfl,k,hk,rfl,hno⟩:=hrel
  by_cases hlt:k < n
  ·obtain ⟨b,o,rfl,-⟩:=HA.out.1 (by omega)
   obtain ⟨y,hy⟩:∃ y,l[k]?=some y:=⟨_,List.getElem?_eq_getElem (by rw [← HN.out];exact hlt)⟩
   have y0:wr.cell? ⟨b,o + k,none⟩=some (.int .i64 y):=HA.out.2 b o rfl k y hy
   have htk:l.take (k + 1)=l.take k++[y]:=by rw [List.take_add_one,hy];rfl
   by_cases e:m=y
   ·have t0:(m == y)=true:=by simpa using e
    have HE:=zH (show decide (0≤(k:Int))=decide (m∈l) from by
     rw [decide_eq_true (show (0:Int)≤k by omega),decide_eq_true]
     rw [e];exact List.mem_of_getElem? hy)
    clear hno htk hy e
    go_wp2
    go_ret
    exact ⟨⟨_,rfl,HE.out⟩,rfl⟩
   ·have t0:(m == y)=false:=by simpa using e
    have HE:=zH (show m ∉ l.take (k + 1) from by
     rw [htk,List.mem_append];simp only [List.mem_singleton]
     exact fun h=>h.elim hno e)
    clear hno htk hy e
    go_wp2
    go_round
    case rel=>exact ⟨trivial,k + 1,by omega,by go_num,HE.out⟩
    case measure=>simp [intOf];omega
  ·obtain rfl:k=n:=by omega
   have HE:=zH (show decide (0≤(-1:Int))=decide (m∈l) from by
    rw [HN.out,List.take_length] at hno
    rw [decide_eq_false hno];rfl)
   clear hno
   go_wp2
   go_ret
   exact ⟨⟨_,rfl,HE.out⟩,rfl⟩
theorem contains_int (w:World) (x:Value) (F:Foot) (l:List Int) (hx:Ix F w x l) (hl:l.length≤big) (m:Int) :
  Calls Tryz.prog 228 #[x,.int .i64 m] w fun e w'=>e=.returned (.bool (decide (m∈l)))∧w=w':=by
 have ci:=index_int w x F l hx hl m
 obtain ⟨a,c,rfl,-⟩:=hx.form
 clear hx
 go_enter Tryz.func228,Tryz.ntmps228
 go_wp2_with fail
 refine ci.mono ?_
 rintro e w' ⟨⟨i,rfl,hi⟩,rfl⟩
 have HI:=zH hi
 clear hi ci
 go_wp2
 go_ret
 exact ⟨by rw [← HI.out];rfl,rfl⟩
end
section
open Go.RowKit
def behindR (row:List Int) (m:Int):Bool:=match row with | []=>false | _ :: t=>decide (m∈t)
theorem behind1_nil (w:World) (b c:Nat) (a:Option Addr) (m:Int) (hb:w.cell? ⟨b,0,none⟩=some (.int .i64 m)) :
  Calls Tryz.prog 324 #[.slice a 0 c,.pointer (some ⟨b,0,none⟩)] w fun e w'=>e=.returned (.bool false)∧Bl w w':=by
 go_enter Tryz.func324,Tryz.ntmps324
 go_wp2
 go_quiet (fail)
 go_wp2
 go_ret
 exact ⟨rfl,by (repeat (first | exact qA _ | assumption | refine qB ?_ _ | refine qC ?_ | refine qD ?_ _ | refine qE ?_ _ (by simp<;>omega) _))⟩
set_option maxRecDepth 100000 in
set_option maxHeartbeats 4000000 in
theorem behind1_cons (w:World) (b:Nat) (x:Value) (F:Foot) (n:Int) (l:List Int) (hx:Ix F w x (n :: l)) (hl:l.length + 1≤big) (m:Int) (hb:w.cell? ⟨b,0,none⟩=some (.int .i64 m)) :
  Calls Tryz.prog 324 #[x,.pointer (some ⟨b,0,none⟩)] w fun e w'=>e=.returned (.bool (decide (m∈l)))∧Bl w w':=by
 obtain ⟨a,c,rfl,hc,ha,-⟩:=hx.form
 obtain ⟨bb,o,rfl,hlt,-⟩:=ha (by simp)
 rw [List.length_cons] at hx hc ⊢
 have ht:=hx.tail
 replace hl:l.length + 1≤1048576:=hl
 obtain ⟨k,hk⟩:∃ k,k=l.length:=⟨_,rfl⟩
 rw [← hk] at ht hc hl ⊢
 have HK:=zH hk
 by_cases h1:c=1
 ·subst h1
  rw [if_pos rfl] at ht
  obtain rfl:k=0:=by omega
  have cc:∀ W,Bl w W→Calls Tryz.prog 228 #[.slice (some ⟨bb,o,none⟩) 0 0,.int .i64 m] W fun e w'=>e=.returned (.bool (decide (m∈l)))∧W=w':=fun W hB=>contains_int W _ F l (ht.bl hB) (by have:=HK.out;show l.length≤1048576;omega) m
  clear hx ha ht hk
  go_enter Tryz.func324,Tryz.ntmps324
  go_wp2
  go_region_with ((go_at_call 228;refine (cc _ (by (repeat (first | exact qA _ | assumption | refine qB ?_ _ | refine qC ?_ | refine qD ?_ _ | refine qE ?_ _ (by simp<;>omega) _)))).mono ?_;rintro e w' ⟨rfl,rfl⟩))
  all_goals
   go_wp2
   go_ret
   exact ⟨rfl,by (repeat (first | exact qA _ | assumption | refine qB ?_ _ | refine qC ?_ | refine qD ?_ _ | refine qE ?_ _ (by simp<;>omega) _))⟩
 ·rw [if_neg h1] at ht
  have cc:∀ W,Bl w W→Calls Tryz.prog 228 #[.slice (some ⟨bb,o + 1,none⟩) k (c - 1),.int .i64 m] W fun e w'=>e=.returned (.bool (decide (m∈l)))∧W=w':=fun W hB=>contains_int W _ F l (ht.bl hB) (by have:=HK.out;show l.length≤1048576;omega) m
  clear hx ha ht hk
  go_enter Tryz.func324,Tryz.ntmps324
  go_wp2
  go_region_with ((go_at_call 228;refine (cc _ (by (repeat (first | exact qA _ | assumption | refine qB ?_ _ | refine qC ?_ | refine qD ?_ _ | refine qE ?_ _ (by simp<;>omega) _)))).mono ?_;rintro e w' ⟨rfl,rfl⟩))
  all_goals
   go_wp2
   go_ret
   exact ⟨rfl,by (repeat (first | exact qA _ | assumption | refine qB ?_ _ | refine qC ?_ | refine qD ?_ _ | refine qE ?_ _ (by simp<;>omega) _))⟩
theorem behind1_any (w:World) (b:Nat) (x:Value) (F:Foot) (r:List Int) (hx:Ix F w x r) (hl:r.length≤big) (m:Int) (hb:w.cell? ⟨b,0,none⟩=some (.int .i64 m)) :
  Calls Tryz.prog 324 #[x,.pointer (some ⟨b,0,none⟩)] w fun e w'=>e=.returned (.bool (behindR r m))∧Bl w w':=by
 cases r with
 | nil =>
  obtain ⟨a,c,rfl,-⟩:=hx.form
  exact behind1_nil w b c a m hb
 | cons n l=>exact behind1_cons w b x F n l hx (by simpa using hl) m hb
structure Rx (F:Foot) (w:World) (x:Value) (rows:List (List Int)):Prop where
 is:(x=.slice none 0 0∧rows=[])∨∃ (b o c:Nat) (xs:List Value),x=.slice (some ⟨b,o,none⟩) rows.length c∧b < w.heap.size∧rows.length≤c∧c≤maxLen∧xs.length=rows.length ∧
  (∀ (j:Nat) (y:Value),xs[j]?=some y→w.cell? ⟨b,o + j,none⟩=some y)∧∀ (j:Nat) (y:Value) (r:List Int),xs[j]?=some y→rows[j]?=some r→Ix F w y r
 out:∀ b o n c,x=.slice (some ⟨b,o,none⟩) n c→¬ F b
theorem Rx.form {F:Foot} {w:World} {x:Value} {rows:List (List Int)} (h:Rx F w x rows):∃ a c,x=.slice a rows.length c∧rows.length≤c ∧
  (0 < rows.length→∃ b o,a=some ⟨b,o,none⟩∧b < w.heap.size)∧∀ b o,a=some ⟨b,o,none⟩→∀ (j:Nat) (r:List Int),rows[j]?=some r→∃ y,w.cell? ⟨b,o + j,none⟩=some y∧Ix F w y r:=by
 rcases h.is with ⟨rfl,rfl⟩ | ⟨b,o,c,xs,rfl,q0,q1,q2,q3,q4,q5⟩
 ·exact ⟨none,0,rfl,Nat.le_refl _,fun h=>absurd h (by simp),fun b o e=>by cases e⟩
 ·refine ⟨_,c,rfl,q1,fun _=>⟨b,o,rfl,q0⟩,fun b o e j r hj=>?_⟩
  cases e
  have hlt:=(List.getElem?_eq_some_iff.1 hj).1
  have hxj:xs[j]?=some xs[j]:=List.getElem?_eq_getElem (by omega)
  exact ⟨xs[j],q4 j _ hxj,q5 j _ r hxj hj⟩
theorem Rx.bl {F:Foot} {w w':World} {x:Value} {rows:List (List Int)} (h:Rx F w x rows) (hb:Bl w w'):Rx F w' x rows :=
 ⟨h.is.elim .inl fun ⟨b,o,c,xs,e,h1,h2,h3,h4,h5,h6⟩=>.inr ⟨b,o,c,xs,e,Nat.lt_of_lt_of_le h1 hb.sz,h2,h3,h4,fun j n hj=>hb.sm (h5 j n hj),fun j y r h1 h2=>(h6 j y r h1 h2).bl hb⟩,h.out⟩
set_option maxRecDepth 100000 in
theorem index_behind (w:World) (x:Value) (F:Foot) (rows:List (List Int)) (hx:Rx F w x rows) (hl:rows.length≤big) (hr:∀ r∈rows,r.length≤big) (b:Nat) (m:Int) (hb:w.cell? ⟨b,0,none⟩=some (.int .i64 m)) :
  Calls Tryz.prog 337 #[x,.func (.func 324) #[] #[.pointer (some ⟨b,0,none⟩)]] w fun e w'=>(∃ i:Int,e=.returned (.int .i64 i)∧decide (0≤i)=rows.any (behindR · m))∧Bl w w':=by
 obtain ⟨n,hn⟩:∃ n,n=rows.length:=⟨_,rfl⟩
 obtain ⟨a,c,rfl,-,ha,hcell⟩:=hx.form
 rw [← hn] at hl ha ⊢
 replace hl:n≤1048576:=hl
 have HN:=zH hn
 have HA:=zH (And.intro ha hcell)
 have HB:=zH (And.intro hb hr)
 clear hx hn ha hcell hb hr
 go_enter Tryz.func337,Tryz.ntmps337
 go_wp2
 go_loopw [8] (fun v8 wr=>Bl w wr∧∃ k:Nat,k≤n∧v8=.int .i64 k∧(rows.take k).any (behindR · m)=false) (fun v8 _=>n - (intOf v8).toNat)
 case atStart=>exact ⟨Bl.refl _,0,Nat.zero_le _,rfl,by simp⟩
 case round =>
  obtain ⟨hbw,k,hk,rfl,hno⟩:=hrel
  by_cases hlt:k < n
  ·obtain ⟨bb,o,rfl,-⟩:=HA.out.1 (by omega)
   obtain ⟨r,hr⟩:∃ r,rows[k]?=some r:=⟨_,List.getElem?_eq_getElem (by rw [← HN.out];exact hlt)⟩
   obtain ⟨y,hy,hix⟩:=HA.out.2 bb o rfl k r hr
   have y0:wr.cell? ⟨bb,o + k,none⟩=some y:=hbw.sm hy
   have htk:rows.take (k + 1)=rows.take k++[r]:=by rw [List.take_add_one,hr];rfl
   have cb:=behind1_any wr b y F r (hix.bl hbw) (HB.out.2 r (List.mem_of_getElem? hr)) m (hbw.sm HB.out.1)
   have HT:=zH (And.intro hno (And.intro htk hr))
   have HW:=zH hbw
   obtain ⟨t,ht⟩:∃ t,t=behindR r m:=⟨_,rfl⟩
   rw [← ht] at cb
   have HTT:=zH ht
   obtain ⟨ya,yc,rfl,-⟩:=hix.form
   clear hno htk hy hix hr hbw ht
   go_wp2_with fail
   refine cb.mono ?_
   rintro e W1 ⟨rfl,hb1⟩
   have HB1:=zH (HW.out.trans hb1)
   clear hb1 cb
   cases t with
   | true =>
    have HE:=zH (show decide (0≤(k:Int))=rows.any (behindR · m) from by
     rw [decide_eq_true (show (0:Int)≤k by omega)]
     symm;rw [List.any_eq_true]
     exact ⟨r,List.mem_of_getElem? HT.out.2.2,HTT.out.symm⟩)
    go_wp2
    go_ret
    exact ⟨⟨_,rfl,HE.out⟩,HB1.out⟩
   | false =>
    have HE:=zH (show (rows.take (k + 1)).any (behindR · m)=false from by
     rw [HT.out.2.1,List.any_append,HT.out.1];simp [← HTT.out])
    go_wp2
    go_round
    case rel=>exact ⟨HB1.out,k + 1,by omega,by go_num,HE.out⟩
    case measure=>simp [intOf];omega
  ·obtain rfl:k=n:=by omega
   have HE:=zH (show decide (0≤(-1:Int))=rows.any (behindR · m) from by
    rw [HN.out,List.take_length] at hno
    rw [hno];rfl)
   have HW:=zH hbw
   clear hno hbw
   go_wp2
   go_ret
   exact ⟨⟨_,rfl,HE.out⟩,HW.out⟩
theorem containsF_behind (w:World) (x:Value) (F:Foot) (rows:List (List Int)) (hx:Rx F w x rows) (hl:rows.length≤big) (hr:∀ r∈rows,r.length≤big) (b:Nat) (m:Int) (hb:w.cell? ⟨b,0,none⟩=some (.int .i64 m)) :
  Calls Tryz.prog 323 #[x,.func (.func 324) #[] #[.pointer (some ⟨b,0,none⟩)]] w fun e w'=>e=.returned (.bool (rows.any (behindR · m)))∧Bl w w':=by
 have ci:=index_behind w x F rows hx hl hr b m hb
 obtain ⟨a,c,rfl,-⟩:=hx.form
 clear hx hr hb
 go_enter Tryz.func323,Tryz.ntmps323
 go_wp2_with fail
 refine ci.mono ?_
 rintro e w' ⟨⟨i,rfl,hi⟩,hb⟩
 have HI:=zH (And.intro hi hb)
 clear hi ci hb
 go_wp2
 go_ret
 exact ⟨by rw [← HI.out.1];rfl,HI.out.2⟩
theorem behind_any (w:World) (x:Value) (F:Foot) (rows:List (List Int)) (hx:Rx F w x rows) (hl:rows.length≤big) (hr:∀ r∈rows,r.length≤big) (m:Int) :
  Calls Tryz.prog 286 #[x,.int .i64 m] w fun e w'=>e=.returned (.bool (rows.any (behindR · m)))∧Bl w w':=by
 have ci:=containsF_behind (w.alloc (.cells #[.int .i64 m] 2)) x F rows (hx.bl (Bl.al _ _)) hl hr w.heap.size m (by rw [cell_of (MapKept.heap_alloc w _).1];rfl)
 obtain ⟨a,c,rfl,-⟩:=hx.form
 clear hx hr
 go_enter Tryz.func286,Tryz.ntmps286
 go_wp2_with fail
 refine ci.mono ?_
 rintro e w' ⟨rfl,hb⟩
 have HI:=zH ((Bl.al w (.cells #[.int .i64 m] 2)).trans hb)
 clear ci hb
 go_wp2
 go_ret
 exact ⟨rfl,HI.out⟩
end
section
open Go.RowKit
def SeqOfR (P:Program) (gf:Nat) (lb:Array Value) (xs:List (Array Value)) (R:World→Prop):Prop :=
 ∀ (l:Nat) (J:Nat→Foot→World→Prop) (Y:Foot→World→Prop),(∀ k,Stable (J k))→Stable Y→(∀ k F W,J k F W→∀ b,F b→b < W.heap.size)→(∀ k F W,J k F W→R W)→Rounds P l J Y xs →
  ∀ F W,J 0 F W→CallsIn Fence.wide 2 P gf (#[.func (.yield l) #[] #[]]++lb) W fun e W'=>(∃ v,e=.returned v)∧∃ F',Step W.heap.size F W W' F'∧(J xs.length F' W'∨Y F' W')
theorem range_fnR {P:Program} {g:Operand} {ps:Array Tmp} {assign body:Code} {Q:Exit→Go.Act→World→Prop} {a:Go.Act} {w:World} {gf:Nat} {lb:Array Value}
  (hg:a.eval g=.func (.func gf) #[] lb) (eg:∀ args w,(callFunc gf args).run P w=.ok (.enter gf args) w) {xs:List (Array Value)} {R:World→Prop} (hseq:SeqOfR P gf lb xs R)
  (hps:∀ x∈xs,x.size=ps.size) (I:Nat→Foot→World→Prop) (X:Code→Foot→World→Prop) (stI:∀ k,Stable (I k)) (stX:∀ c,Stable (X c)) (ltI:∀ k F W,I k F W→∀ b,F b→b < W.heap.size)
  (hR:∀ k F W,I k F W→R W) (F0:Foot) (h0:I 0 F0 w)
  (hround:∀ (l k:Nat) (x:Array Value) (F:Foot) (W:World) (K:Go.Act→World→Prop),xs[k]?=some x→I k F W→¬ F l→l < W.heap.size →
   (∀ a' Wa,Bl W Wa→(∀ Wb,(∀ b,b≠l→Wb.heap[b]?=Wa.heap[b]?)→Wb.heap.size=Wa.heap.size→Wb.os=Wa.os→Wb.tape=Wa.tape→Wb.output=Wa.output →
     body.wpIn (Fence.wide.inRound l) 1 P (roundQ I X k F Wb) a' Wb)→K a' Wa) →
   assign.wpIn (Fence.wide.inRound l) 1 P (Exit.then K fun _ _ _=>False) { tmps:=(ps.zip x).foldl (fun t (p,v)=>t.setIfInBounds p v) a.tmps,defers:=[] } W)
  (hdone:∀ F' W',Step w.heap.size F0 w W' F'→I xs.length F' W'→W'.heap[w.heap.size]?=some (.deferred (some []))→¬ F' w.heap.size→Q .normal { a with defers:={ target:=.collected w.heap.size,args:=#[] } :: a.defers } W')
  (hstop:∀ c F' W',Step w.heap.size F0 w W' F'→X c F' W'→W'.heap[w.heap.size]?=some (.deferred (some []))→¬ F' w.heap.size→c.wpIn Fence.wide 3 P Q { a with defers:={ target:=.collected w.heap.size,args:=#[] } :: a.defers } W') :
  (Code.rangeFunc g ps assign body).wpIn Fence.wide 3 P Q a w:=by
 refine wpIn_rangeFunc ?_
 intro fn hfn
 obtain ⟨rec,hrec⟩:∃ rec:LoopState→Option Code→Loop,rec=fun st pe=>{ state:=st,pending:=pe,fn,tmps:=a.tmps,params:=ps,assign,body,defers:=w.heap.size }:=⟨_,rfl⟩
 obtain ⟨W1,hW1⟩:∃ W1,(w.alloc (.deferred (some []))).alloc (.loop (rec .ready none))=W1:=⟨_,rfl⟩
 have hL1:W1.heap[w.heap.size + 1]?=some (.loop (rec .ready none)):=by
  rw [← hW1];have:=World.alloc_heap_new (w.alloc (.deferred (some []))) (.loop (rec .ready none));rwa [zL] at this
 have hK1:W1.heap[w.heap.size]?=some (.deferred (some [])):=by
  rw [← hW1];exact (Below.heap_alloc _ _ _ (by simp)).trans (World.alloc_heap_new w _)
 have hb1:Bl w W1:=by rw [← hW1];exact ((Bl.refl w).al' _).al' _
 have hs1:W1.heap.size=w.heap.size + 2:=by rw [← hW1,zL,zL]
 have hF0:=ltI 0 F0 w h0
 have nl0:¬ F0 (w.heap.size + 1):=fun h=>by have:=hF0 _ h;omega
 have nd0:¬ F0 w.heap.size:=fun h=>by have:=hF0 _ h;omega
 refine ⟨w.heap.size + 1,[{ target:=.collected w.heap.size,args:=#[] }],W1,{ target:=.fn (.func gf) lb,args:=#[.func (.yield (w.heap.size + 1)) #[] #[]] },W1,gf,
  #[.func (.yield (w.heap.size + 1)) #[] #[]]++lb,W1,?_,?_,?_,?_,fun _=>by omega,?_⟩
 ·rw [← hW1,hrec];exact run_enterLoop_outer _ _ _ _ _
 ·simp only [resolve,hg]
  simp [go_sem]
 ·intro f' hf';exact trivial
 ·simp [invoke,go_sem,eg]
 ·let Fp:Foot→Foot:=fun F b=>F b∨b=w.heap.size∨b=w.heap.size + 1
  let J:Nat→Foot→World→Prop:=fun k G W=>∃ F,(∀ b,G b↔Fp F b)∧I k F W∧¬ F (w.heap.size + 1)∧¬ F w.heap.size∧W.heap[w.heap.size + 1]?=some (.loop (rec .ready none))∧W.heap[w.heap.size]?=some (.deferred (some []))∧(∀ b,F b→F0 b∨w.heap.size + 2≤b)
  let Y:Foot→World→Prop:=fun G W=>∃ F c,(∀ b,G b↔Fp F b)∧X c F W∧¬ F (w.heap.size + 1)∧¬ F w.heap.size∧W.heap[w.heap.size + 1]?=some (.loop (rec .done (some c)))∧W.heap[w.heap.size]?=some (.deferred (some []))∧(∀ b,F b→F0 b∨w.heap.size + 2≤b)∧(∀ b,F b→b < W.heap.size)
  have hJ0:J 0 (Fp F0) W1:=⟨F0,fun _=>Iff.rfl,stI 0 F0 w W1 h0 (Keep.of_bl hb1 hF0),nl0,nd0,hL1,hK1,fun b hb=>.inl hb⟩
  refine (hseq (w.heap.size + 1) J Y ?_ ?_ ?_ (fun k G W ⟨F,_,hi,_⟩=>hR k F W hi) ?_ (Fp F0) W1 hJ0).mono ?_
  ·rintro k G W W' ⟨F,hG,hi,h1,h2,h3,h4,h5⟩ hk
   exact ⟨F,hG,stI k F W W' hi ⟨hk.os,hk.tape,hk.output,hk.size,fun b hb=>hk.block b ((hG b).2 (.inl hb))⟩,h1,h2,(hk.block _ ((hG _).2 (.inr (.inr rfl)))).trans h3,(hk.block _ ((hG _).2 (.inr (.inl rfl)))).trans h4,h5⟩
  ·rintro G W W' ⟨F,c,hG,hi,h1,h2,h3,h4,h5,h6⟩ hk
   exact ⟨F,c,hG,stX c F W W' hi ⟨hk.os,hk.tape,hk.output,hk.size,fun b hb=>hk.block b ((hG b).2 (.inl hb))⟩,h1,h2,(hk.block _ ((hG _).2 (.inr (.inr rfl)))).trans h3,(hk.block _ ((hG _).2 (.inr (.inl rfl)))).trans h4,h5,fun b hb=>Nat.lt_of_lt_of_le (h6 b hb) hk.size⟩
  ·rintro k G W ⟨F,hG,hi,h1,h2,h3,h4,h5⟩ b hb
   rcases (hG b).1 hb with h | rfl | rfl
   ·exact ltI k F W hi b h
   ·exact (zN h4).1
   ·exact (zN h3).1
  ·rintro k x G W hx ⟨F,hG,hi,h1,h2,h3,h4,h5⟩
   have hl3:=(zN h3).1
   have hF:=ltI k F W hi
   have hy:=run_yield (P:=P) (args:=x) h3 (by rw [hrec];exact hps x (List.mem_of_getElem? hx))
   rw [hrec] at hy
   refine ⟨fn,_,assign,body,hy,roundIn_of_wpIn hfn (hround _ k x F W _ hx hi h1 hl3 ?_)⟩
   clear hy
   intro a' Wa hba hbody
   have h3a:=(hba.at hl3).trans h3
   have hl3a:=(zN h3a).1
   have h4a:=(hba.at (by omega)).trans h4
   refine ⟨_,run_beginRound h3a (by rw [hrec]),?_⟩
   refine wpIn_mono (hbody (Wa.putObj (w.heap.size + 1) (.loop { rec .ready none with state:=.busy })) (fun b hb=>World.putObj_heap_other hb) (putObj_size _ _ _) rfl rfl rfl) ?_
   have hl2:(Wa.putObj (w.heap.size + 1) (.loop { rec .ready none with state:=.busy })).heap[w.heap.size + 1]?=some (.loop { rec .ready none with state:=.busy }):=World.putObj_heap_same hl3a
   have hk2:(Wa.putObj (w.heap.size + 1) (.loop { rec .ready none with state:=.busy })).heap[w.heap.size]?=some (.deferred (some [])):=(World.putObj_heap_other (by omega)).trans h4a
   have hs2:=putObj_size Wa (w.heap.size + 1) (.loop { rec .ready none with state:=.busy })
   have hsz:=hba.sz
   have fin:∀ (jump:Option Code) (F':Foot) (W3:World),Step (Wa.putObj (w.heap.size + 1) (.loop { rec .ready none with state:=.busy })).heap.size F (Wa.putObj (w.heap.size + 1) (.loop { rec .ready none with state:=.busy })) W3 F' →
     (Instr.endRound (w.heap.size + 1) jump).run P W3=.ok (.bool jump.isNone) (W3.putObj (w.heap.size + 1) (.loop (rec (if jump.isNone then .ready else .done) jump))) ∧
     (W3.putObj (w.heap.size + 1) (.loop (rec (if jump.isNone then .ready else .done) jump))).heap[w.heap.size + 1]?=some (.loop (rec (if jump.isNone then .ready else .done) jump)) ∧
     (W3.putObj (w.heap.size + 1) (.loop (rec (if jump.isNone then .ready else .done) jump))).heap[w.heap.size]?=some (.deferred (some [])) ∧
     Step W.heap.size G W (W3.putObj (w.heap.size + 1) (.loop (rec (if jump.isNone then .ready else .done) jump))) (Fp F')∧¬ F' (w.heap.size + 1)∧¬ F' w.heap.size∧(∀ b,F' b→F0 b∨w.heap.size + 2≤b):=fun jump F' W3 hst=>by
    have hl3':=(hst.block (w.heap.size + 1) (by rw [hs2];exact hl3a) h1).trans hl2
    have hk3':=(hst.block w.heap.size (by rw [hs2];omega) h2).trans hk2
    have hr:=run_endRound (P:=P) jump hl3'
    have n1:¬ F' (w.heap.size + 1):=fun h=>(hst.foot _ h).elim h1 (fun h=>by rw [hs2] at h;omega)
    have n2:¬ F' w.heap.size:=fun h=>(hst.foot _ h).elim h2 (fun h=>by rw [hs2] at h;omega)
    have hW3s:=hst.size
    rw [hs2] at hW3s
    rw [hrec] at hr ⊢
    refine ⟨hr,World.putObj_heap_same (by omega),(World.putObj_heap_other (by omega)).trans hk3',⟨?_,?_,?_,?_,?_,?_,?_⟩,n1,n2,?_⟩
    ·exact hst.os.trans hba.os
    ·exact hst.tape.trans hba.tape
    ·exact hst.output.trans hba.output
    ·rw [putObj_size];omega
    ·intro b hb hnb
     have hne:b≠w.heap.size + 1:=fun e=>hnb ((hG b).2 (.inr (.inr e)))
     rw [World.putObj_heap_other hne,hst.block b (by rw [hs2];omega) (fun h=>hnb ((hG b).2 (.inl h))),World.putObj_heap_other hne]
     exact hba.at hb
    ·intro b hb
     rcases hb with h | h | h
     ·rcases hst.foot b h with h | h
      ·exact .inl ((hG b).2 (.inl h))
      ·rw [hs2] at h;exact .inr (by omega)
     ·exact .inl ((hG b).2 (.inr (.inl h)))
     ·exact .inl ((hG b).2 (.inr (.inr h)))
    ·intro b hb
     rw [putObj_size]
     rcases hb with h | h | h
     ·exact hst.lt b h
     ·omega
     ·omega
    ·intro b hb
     rcases hst.foot b hb with h | h
     ·exact h5 b h
     ·rw [hs2] at h;exact .inr (by omega)
   rintro e a3 W3 hp
   cases e with
   | normal =>
    obtain ⟨F',hst,hi3⟩:=hp
    obtain ⟨hr,q1,q2,q3,q4,q5,q6⟩:=fin none F' W3 hst
    exact ⟨_,_,hr,_,q3,.inl ⟨rfl,F',fun _=>Iff.rfl,stI _ F' W3 _ hi3 (Keep.put q4),q4,q5,q1,q2,q6⟩⟩
   | ret =>
    obtain ⟨F',hst,hi3⟩:=hp
    obtain ⟨hr,q1,q2,q3,q4,q5,q6⟩:=fin (some .ret) F' W3 hst
    exact ⟨_,_,hr,_,q3,.inr ⟨rfl,F',.ret,fun _=>Iff.rfl,stX _ F' W3 _ hi3 (Keep.put q4),q4,q5,q1,q2,q6,fun b hb=>by rw [putObj_size];exact hst.lt b hb⟩⟩
   | exit id =>
    obtain ⟨F',hst,hi3⟩:=hp
    obtain ⟨hr,q1,q2,q3,q4,q5,q6⟩:=fin (some (.exit id)) F' W3 hst
    exact ⟨_,_,hr,_,q3,.inr ⟨rfl,F',.exit id,fun _=>Iff.rfl,stX _ F' W3 _ hi3 (Keep.put q4),q4,q5,q1,q2,q6,fun b hb=>by rw [putObj_size];exact hst.lt b hb⟩⟩
   | goto t =>
    obtain ⟨F',hst,hi3⟩:=hp
    obtain ⟨hr,q1,q2,q3,q4,q5,q6⟩:=fin (some (.goto t)) F' W3 hst
    exact ⟨_,_,hr,_,q3,.inr ⟨rfl,F',.goto t,fun _=>Iff.rfl,stX _ F' W3 _ hi3 (Keep.put q4),q4,q5,q1,q2,q6,fun b hb=>by rw [putObj_size];exact hst.lt b hb⟩⟩
   | panic ch=>exact hp.elim
   | outgrown=>exact hp.elim
  ·rintro e W2 ⟨⟨v,rfl⟩,G,hst,h⟩
   have stepTo:∀ (F:Foot) (o:Obj),(∀ b,F b→F0 b∨w.heap.size + 2≤b)→(∀ b,F b→b < W2.heap.size)→Step w.heap.size F0 w (W2.putObj (w.heap.size + 1) o) F:=fun F o h5 h6=>by
    have hz:=hst.size
    refine ⟨hst.os.trans hb1.os,hst.tape.trans hb1.tape,hst.output.trans hb1.output,by rw [putObj_size];omega,fun b q1 q2=>?_,fun b hb=>(h5 b hb).elim .inl (fun h=>.inr (by omega)),fun b hb=>by rw [putObj_size];exact h6 b hb⟩
    rw [World.putObj_heap_other (by omega),hst.block b (by omega) (fun h=>by rcases h with h | h | h;exact q2 h;omega;omega)]
    exact hb1.at q1
   rcases h with ⟨F,hG,hi,h1,h2,h3,h4,h5⟩ | ⟨F,c,hG,hi,h1,h2,h3,h4,h5,h6⟩
   ·refine ⟨none,_,by have:=run_endLoop (P:=P) h3 (by rw [hrec];simp);rw [hrec] at this;exact this,?_⟩
    exact hdone F _ (stepTo F _ h5 (ltI _ F W2 hi)) (stI _ F W2 _ hi (Keep.put h1)) ((World.putObj_heap_other (by omega)).trans h4) h2
   ·refine ⟨some c,_,by have:=run_endLoop (P:=P) h3 (by rw [hrec];simp);rw [hrec] at this;exact this,?_⟩
    exact hstop c F _ (stepTo F _ h5 h6) (stX c F W2 _ hi (Keep.put h1)) ((World.putObj_heap_other (by omega)).trans h4) h2
end
end Go.Proofs.YtlbcbikplfocfaaGreatDoor.W
namespace Go.Proofs
section
open Go.Shelf
def Tryz.lays156_ren:Go.Shelf.Ren:=⟨fun | 156=>300 | 165=>328 | 166=>275 | 169=>138 | 240=>310 | 241=>340 | 276=>334 | 277=>344 | n=>n,fun | 31=>38 | 9=>9 | 3=>3 | 4=>4 | 0=>0 | 20=>20 | 72=>148 | 76=>260 | 70=>145 | 37=>146 | 75=>259 | 127=>222 | 164=>324 | 5=>5 | 80=>48 | n=>n,fun | n=>n⟩
theorem Tryz.lays156:Go.Proofs.Lays.n156 Tryz.prog Tryz.lays156_ren:={
 mixed:=by kernel_rfl
 f156:=Tryz.func300.trans (congrArg some (by kernel_rfl))
 f165:=Tryz.func328.trans (congrArg some (by kernel_rfl))
 f166:=Tryz.func275.trans (congrArg some (by kernel_rfl))
 f169:=Tryz.func138.trans (congrArg some (by kernel_rfl))
 f240:=Tryz.func310.trans (congrArg some (by kernel_rfl))
 f241:=Tryz.func340.trans (congrArg some (by kernel_rfl))
 f276:=Tryz.func334.trans (congrArg some (by kernel_rfl))
 f277:=Tryz.func344.trans (congrArg some (by kernel_rfl))
 t0:=Tryz.underlying0
 a0:=Tryz.isAgg0
 z0:=Tryz.sizeOf0
 v0:=Tryz.zeroValue0
 t3:=Tryz.underlying3
 a3:=Tryz.isAgg3
 z3:=Tryz.sizeOf3
 v3:=Tryz.zeroValue3
 t4:=Tryz.underlying4
 a4:=Tryz.isAgg4
 z4:=Tryz.sizeOf4
 v4:=Tryz.zeroValue4
 t9:=Tryz.underlying9
 a9:=Tryz.isAgg9
 z9:=Tryz.sizeOf9
 v9:=Tryz.zeroValue9
 t20:=Tryz.underlying20
 a20:=Tryz.isAgg20
 z20:=Tryz.sizeOf20
 v20:=Tryz.zeroValue20
 t31:=Tryz.underlying38
 a31:=Tryz.isAgg38
 z31:=Tryz.sizeOf38
 v31:=Tryz.zeroValue38
 t37:=Tryz.underlying146
 a37:=Tryz.isAgg146
 z37:=Tryz.sizeOf146
 v37:=Tryz.zeroValue146
 t70:=Tryz.underlying145
 a70:=Tryz.isAgg145
 z70:=Tryz.sizeOf145
 v70:=Tryz.zeroValue145
 t72:=Tryz.underlying148
 a72:=Tryz.isAgg148
 z72:=Tryz.sizeOf148
 v72:=Tryz.zeroValue148
 t75:=Tryz.underlying259
 a75:=Tryz.isAgg259
 z75:=Tryz.sizeOf259
 v75:=Tryz.zeroValue259
 t76:=Tryz.underlying260
 a76:=Tryz.isAgg260
 z76:=Tryz.sizeOf260
 v76:=Tryz.zeroValue260
 t127:=Tryz.underlying222
 a127:=Tryz.isAgg222
 z127:=Tryz.sizeOf222
 v127:=Tryz.zeroValue222
 t164:=Tryz.underlying324
 a164:=Tryz.isAgg324
 z164:=Tryz.sizeOf324
 v164:=Tryz.zeroValue324 }
theorem Tryz.Builder_Extra_156:Builder.Extra Tryz.prog Tryz.lays156_ren:={
 sizeBuilder:=by kernel_rfl
 liesBuilder:=by kernel_rfl
 t5:=Tryz.underlying5
 a5:=Tryz.isAgg5
 z5:=Tryz.sizeOf5
 v5:=Tryz.zeroValue5
 infoByte:=by kernel_rfl
 cellsByte:=by kernel_rfl
 sizeByte:=by kernel_rfl
 neB5:=by decide }
open Go.RowKit in
theorem Tryz.strings_Join_none (a:Option Addr) (c:Nat) (sep:ByteArray) (w:World) :
  Calls Tryz.prog 300 #[.slice a 0 c,.string sep] w fun e w'=>e=.returned (.string ⟨#[]⟩)∧w'=w:=Any.strings_Join_none Tryz.lays156 Tryz.Builder_Extra_156 a c sep w
open Go.RowKit in
theorem Tryz.strings_Join (bk o c:Nat) (xs:List ByteArray) (sep:ByteArray) (w:World) (hcells:∀ (j:Nat) x,xs[j]?=some x→w.cell? ⟨bk,o + j,none⟩=some (.string x)) (hbk:bk < w.heap.size) (hN:xs.length≤140737488355328) (hcap:xs.length≤c) (hlen:(Lib.join (xs.map (·.data.toList)) sep.data.toList).length≤140737488355328) :
  Calls Tryz.prog 300 #[.slice (some ⟨bk,o,none⟩) xs.length c,.string sep] w fun e w'=>e=.returned (.string ⟨(Lib.join (xs.map (·.data.toList)) sep.data.toList).toArray⟩)∧Below w.heap.size w w':=Any.strings_Join Tryz.lays156 Tryz.Builder_Extra_156 bk o c xs sep w hcells hbk hN hcap hlen
def Tryz.lays219_ren:Go.Shelf.Ren:=⟨fun | 219=>281 | 217=>318 | 225=>319 | 224=>320 | 267=>321 | 266=>335 | 314=>336 | n=>n,fun | 9=>9 | 3=>3 | 4=>4 | 5=>5 | 46=>40 | 146=>328 | 51=>271 | n=>n,fun | 1=>2 | n=>n⟩
def Tryz.lays143_ren:Go.Shelf.Ren:=⟨fun | 143=>296 | 219=>281 | 217=>318 | 225=>319 | 224=>320 | 267=>321 | 266=>335 | 314=>336 | n=>n,fun | 9=>9 | 3=>3 | 4=>4 | 5=>5 | 46=>40 | 146=>328 | 51=>271 | n=>n,fun | 1=>2 | n=>n⟩
theorem Tryz.lays143:Go.Proofs.Lays.n143 Tryz.prog Tryz.lays143_ren:={
 mixed:=by kernel_rfl
 f143:=Tryz.func296.trans (congrArg some (by kernel_rfl))
 f217:=Tryz.func318.trans (congrArg some (by kernel_rfl))
 f219:=Tryz.func281.trans (congrArg some (by kernel_rfl))
 f224:=Tryz.func320.trans (congrArg some (by kernel_rfl))
 f225:=Tryz.func319.trans (congrArg some (by kernel_rfl))
 f266:=Tryz.func335.trans (congrArg some (by kernel_rfl))
 f267:=Tryz.func321.trans (congrArg some (by kernel_rfl))
 f314:=Tryz.func336.trans (congrArg some (by kernel_rfl))
 t3:=Tryz.underlying3
 a3:=Tryz.isAgg3
 z3:=Tryz.sizeOf3
 v3:=Tryz.zeroValue3
 t4:=Tryz.underlying4
 a4:=Tryz.isAgg4
 z4:=Tryz.sizeOf4
 v4:=Tryz.zeroValue4
 t5:=Tryz.underlying5
 a5:=Tryz.isAgg5
 z5:=Tryz.sizeOf5
 v5:=Tryz.zeroValue5
 t9:=Tryz.underlying9
 a9:=Tryz.isAgg9
 z9:=Tryz.sizeOf9
 v9:=Tryz.zeroValue9
 t46:=Tryz.underlying40
 a46:=Tryz.isAgg40
 z46:=Tryz.sizeOf40
 v46:=Tryz.zeroValue40
 t51:=Tryz.underlying271
 a51:=Tryz.isAgg271
 z51:=Tryz.sizeOf271
 v51:=Tryz.zeroValue271
 t146:=Tryz.underlying328
 a146:=Tryz.isAgg328
 z146:=Tryz.sizeOf328
 v146:=Tryz.zeroValue328
 g1:=by kernel_rfl }
open Go.RowKit Go.Lib in
theorem Tryz.strings_Index (s sub:ByteArray) (m:Int) (w:World) (hs:s.size < 4294967281) (hm:w.cell? ⟨2,0,none⟩=some (.int .i64 m)) :
  Calls Tryz.prog 296 #[.string s,.string sub] w fun e w'=>e=.returned (.int .i64 (Lib.index s.data.toList sub.data.toList))∧w'=w:=Any.strings_Index Tryz.lays143 s sub m w hs hm
def Tryz.lays145_ren:Go.Shelf.Ren:=⟨fun | 145=>149 | 220=>223 | 219=>281 | 217=>318 | 225=>319 | 224=>320 | 267=>321 | 266=>335 | 314=>336 | n=>n,fun | 9=>9 | 4=>4 | 59=>161 | 3=>3 | 5=>5 | 46=>40 | 146=>328 | 51=>271 | n=>n,fun | 1=>2 | n=>n⟩
theorem Tryz.lays145:Go.Proofs.Lays.n145 Tryz.prog Tryz.lays145_ren:={
 mixed:=by kernel_rfl
 f145:=Tryz.func149.trans (congrArg some (by kernel_rfl))
 f217:=Tryz.func318.trans (congrArg some (by kernel_rfl))
 f219:=Tryz.func281.trans (congrArg some (by kernel_rfl))
 f220:=Tryz.func223.trans (congrArg some (by kernel_rfl))
 f224:=Tryz.func320.trans (congrArg some (by kernel_rfl))
 f225:=Tryz.func319.trans (congrArg some (by kernel_rfl))
 f266:=Tryz.func335.trans (congrArg some (by kernel_rfl))
 f267:=Tryz.func321.trans (congrArg some (by kernel_rfl))
 f314:=Tryz.func336.trans (congrArg some (by kernel_rfl))
 t3:=Tryz.underlying3
 a3:=Tryz.isAgg3
 z3:=Tryz.sizeOf3
 v3:=Tryz.zeroValue3
 t4:=Tryz.underlying4
 a4:=Tryz.isAgg4
 z4:=Tryz.sizeOf4
 v4:=Tryz.zeroValue4
 t5:=Tryz.underlying5
 a5:=Tryz.isAgg5
 z5:=Tryz.sizeOf5
 v5:=Tryz.zeroValue5
 t9:=Tryz.underlying9
 a9:=Tryz.isAgg9
 z9:=Tryz.sizeOf9
 v9:=Tryz.zeroValue9
 t46:=Tryz.underlying40
 a46:=Tryz.isAgg40
 z46:=Tryz.sizeOf40
 v46:=Tryz.zeroValue40
 t51:=Tryz.underlying271
 a51:=Tryz.isAgg271
 z51:=Tryz.sizeOf271
 v51:=Tryz.zeroValue271
 t59:=Tryz.underlying161
 a59:=Tryz.isAgg161
 z59:=Tryz.sizeOf161
 v59:=Tryz.zeroValue161
 t146:=Tryz.underlying328
 a146:=Tryz.isAgg328
 z146:=Tryz.sizeOf328
 v146:=Tryz.zeroValue328
 g1:=by kernel_rfl }
open Go.RowKit Go.Lib in
theorem Tryz.strings_Cut (s sep:ByteArray) (m:Int) (w:World) (hs:s.size < 4294967281) (hm:w.cell? ⟨2,0,none⟩=some (.int .i64 m)) :
  Calls Tryz.prog 149 #[.string s,.string sep] w fun e w'=>e=.returned (.tuple #[.string ⟨(Lib.cut s.data.toList sep.data.toList).1.toArray⟩,.string ⟨(Lib.cut s.data.toList sep.data.toList).2.1.toArray⟩,.bool (Lib.cut s.data.toList sep.data.toList).2.2])∧∃ n,w'=w.drewN n:=Any.strings_Cut Tryz.lays145 s sep m w hs hm
def Tryz.laysM143_ren:Go.Shelf.Ren:=⟨fun | 143=>296 | 219=>281 | 217=>318 | 225=>319 | 224=>320 | 267=>321 | 266=>335 | 314=>336 | n=>n,fun | 9=>9 | 3=>3 | 4=>4 | 5=>5 | 46=>40 | 146=>328 | 51=>271 | n=>n,fun | 1=>2 | n=>n⟩
theorem Tryz.laysM143:Go.Proofs.LaysM.n143 Tryz.prog Tryz.laysM143_ren:={
 mixed:=by kernel_rfl
 f143:=Tryz.func296.trans (congrArg some (by kernel_rfl))
 f217:=Tryz.func318.trans (congrArg some (by kernel_rfl))
 f219:=Tryz.func281.trans (congrArg some (by kernel_rfl))
 f224:=Tryz.func320.trans (congrArg some (by kernel_rfl))
 f225:=Tryz.func319.trans (congrArg some (by kernel_rfl))
 f266:=Tryz.func335.trans (congrArg some (by kernel_rfl))
 f267:=Tryz.func321.trans (congrArg some (by kernel_rfl))
 f314:=Tryz.func336.trans (congrArg some (by kernel_rfl))
 t3:=Tryz.underlying3
 a3:=Tryz.isAgg3
 z3:=Tryz.sizeOf3
 v3:=Tryz.zeroValue3
 t4:=Tryz.underlying4
 a4:=Tryz.isAgg4
 z4:=Tryz.sizeOf4
 v4:=Tryz.zeroValue4
 t5:=Tryz.underlying5
 a5:=Tryz.isAgg5
 z5:=Tryz.sizeOf5
 v5:=Tryz.zeroValue5
 t9:=Tryz.underlying9
 a9:=Tryz.isAgg9
 z9:=Tryz.sizeOf9
 v9:=Tryz.zeroValue9
 t46:=Tryz.underlying40
 a46:=Tryz.isAgg40
 z46:=Tryz.sizeOf40
 v46:=Tryz.zeroValue40
 t51:=Tryz.underlying271
 a51:=Tryz.isAgg271
 z51:=Tryz.sizeOf271
 v51:=Tryz.zeroValue271
 t146:=Tryz.underlying328
 a146:=Tryz.isAgg328
 z146:=Tryz.sizeOf328
 v146:=Tryz.zeroValue328
 g1:=by kernel_rfl
 i3:=by kernel_rfl
 i4:=by kernel_rfl
 i5:=by kernel_rfl
 i9:=by kernel_rfl
 i46:=by kernel_rfl
 i51:=by kernel_rfl
 i146:=by kernel_rfl
 m1:=by kernel_rfl
 s1_3:=fun w h=>Go.Proofs.cell_of_shapedOpen_int (zero:=#[.int .i64 0]) (t:=3) h (of_decide_eq_true (by kernel_rfl)) (by kernel_rfl) rfl (by kernel_rfl) (by kernel_rfl) Tryz.underlying3 }
def Tryz.lays206_ren:Go.Shelf.Ren:=⟨fun | 206=>339 | n=>n,fun | 9=>9 | 4=>4 | 3=>3 | n=>n,fun | n=>n⟩
def Tryz.lays100_ren:Go.Shelf.Ren:=⟨fun | 100=>278 | 207=>313 | n=>n,fun | 9=>9 | 4=>4 | 3=>3 | n=>n,fun | n=>n⟩
theorem Tryz.lays100:Go.Proofs.Lays.n100 Tryz.prog Tryz.lays100_ren:={
 mixed:=by kernel_rfl
 f100:=Tryz.func278.trans (congrArg some (by kernel_rfl))
 f207:=Tryz.func313.trans (congrArg some (by kernel_rfl))
 t3:=Tryz.underlying3
 a3:=Tryz.isAgg3
 z3:=Tryz.sizeOf3
 v3:=Tryz.zeroValue3
 t4:=Tryz.underlying4
 a4:=Tryz.isAgg4
 z4:=Tryz.sizeOf4
 v4:=Tryz.zeroValue4
 t9:=Tryz.underlying9
 a9:=Tryz.isAgg9
 z9:=Tryz.sizeOf9
 v9:=Tryz.zeroValue9 }
open Go.RowKit Go.Lib in
theorem Tryz.strings_HasSuffix (s p:ByteArray) (w:World) (hs:s.size≤9223372036854775807) :
  Calls Tryz.prog 278 #[.string s,.string p] w fun e w'=>e=.returned (.bool (Lib.hasSuffix s.data.toList p.data.toList))∧w'=w:=Any.strings_HasSuffix Tryz.lays100 s p w hs
def Tryz.lays157_ren:Go.Shelf.Ren:=⟨fun | 157=>148 | 229=>221 | 199=>222 | 261=>280 | 311=>316 | 312=>317 | n=>n,fun | 9=>9 | 31=>38 | 3=>3 | 5=>5 | 4=>4 | 119=>226 | 0=>0 | 40=>228 | 152=>268 | 21=>21 | 154=>270 | 51=>271 | 141=>273 | 196=>306 | 193=>303 | 198=>309 | 49=>307 | 194=>304 | 201=>312 | 226=>326 | 46=>40 | 227=>327 | n=>n,fun | 0=>0 | 6=>1 | n=>n⟩
def Tryz.laysM157_ren:Go.Shelf.Ren:=⟨fun | 157=>148 | 229=>221 | 199=>222 | 261=>280 | 311=>316 | 312=>317 | n=>n,fun | 9=>9 | 31=>38 | 3=>3 | 5=>5 | 4=>4 | 119=>226 | 0=>0 | 40=>228 | 152=>268 | 21=>21 | 154=>270 | 51=>271 | 141=>273 | 196=>306 | 193=>303 | 198=>309 | 49=>307 | 194=>304 | 201=>312 | 226=>326 | 46=>40 | 227=>327 | n=>n,fun | 0=>0 | 6=>1 | n=>n⟩
theorem Tryz.laysM157:Go.Proofs.LaysM.n157 Tryz.prog Tryz.laysM157_ren:={
 mixed:=by kernel_rfl
 f157:=Tryz.func148.trans (congrArg some (by kernel_rfl))
 f199:=Tryz.func222.trans (congrArg some (by kernel_rfl))
 f229:=Tryz.func221.trans (congrArg some (by kernel_rfl))
 f261:=Tryz.func280.trans (congrArg some (by kernel_rfl))
 f311:=Tryz.func316.trans (congrArg some (by kernel_rfl))
 f312:=Tryz.func317.trans (congrArg some (by kernel_rfl))
 t0:=Tryz.underlying0
 a0:=Tryz.isAgg0
 z0:=Tryz.sizeOf0
 v0:=Tryz.zeroValue0
 t3:=Tryz.underlying3
 a3:=Tryz.isAgg3
 z3:=Tryz.sizeOf3
 v3:=Tryz.zeroValue3
 t4:=Tryz.underlying4
 a4:=Tryz.isAgg4
 z4:=Tryz.sizeOf4
 v4:=Tryz.zeroValue4
 t5:=Tryz.underlying5
 a5:=Tryz.isAgg5
 z5:=Tryz.sizeOf5
 v5:=Tryz.zeroValue5
 t9:=Tryz.underlying9
 a9:=Tryz.isAgg9
 z9:=Tryz.sizeOf9
 v9:=Tryz.zeroValue9
 t21:=Tryz.underlying21
 a21:=Tryz.isAgg21
 z21:=Tryz.sizeOf21
 v21:=Tryz.zeroValue21
 t31:=Tryz.underlying38
 a31:=Tryz.isAgg38
 z31:=Tryz.sizeOf38
 v31:=Tryz.zeroValue38
 t40:=Tryz.underlying228
 a40:=Tryz.isAgg228
 z40:=Tryz.sizeOf228
 v40:=Tryz.zeroValue228
 t46:=Tryz.underlying40
 a46:=Tryz.isAgg40
 z46:=Tryz.sizeOf40
 v46:=Tryz.zeroValue40
 t49:=Tryz.underlying307
 a49:=Tryz.isAgg307
 z49:=Tryz.sizeOf307
 v49:=Tryz.zeroValue307
 t51:=Tryz.underlying271
 a51:=Tryz.isAgg271
 z51:=Tryz.sizeOf271
 v51:=Tryz.zeroValue271
 t119:=Tryz.underlying226
 a119:=Tryz.isAgg226
 z119:=Tryz.sizeOf226
 t141:=Tryz.underlying273
 a141:=Tryz.isAgg273
 z141:=Tryz.sizeOf273
 v141:=Tryz.zeroValue273
 t152:=Tryz.underlying268
 a152:=Tryz.isAgg268
 z152:=Tryz.sizeOf268
 v152:=Tryz.zeroValue268
 t154:=Tryz.underlying270
 a154:=Tryz.isAgg270
 z154:=Tryz.sizeOf270
 v154:=Tryz.zeroValue270
 t193:=Tryz.underlying303
 a193:=Tryz.isAgg303
 z193:=Tryz.sizeOf303
 v193:=Tryz.zeroValue303
 t194:=Tryz.underlying304
 a194:=Tryz.isAgg304
 z194:=Tryz.sizeOf304
 v194:=Tryz.zeroValue304
 t196:=Tryz.underlying306
 a196:=Tryz.isAgg306
 z196:=Tryz.sizeOf306
 v196:=Tryz.zeroValue306
 t198:=Tryz.underlying309
 a198:=Tryz.isAgg309
 z198:=Tryz.sizeOf309
 v198:=Tryz.zeroValue309
 t201:=Tryz.underlying312
 a201:=Tryz.isAgg312
 z201:=Tryz.sizeOf312
 v201:=Tryz.zeroValue312
 t226:=Tryz.underlying326
 a226:=Tryz.isAgg326
 z226:=Tryz.sizeOf326
 v226:=Tryz.zeroValue326
 t227:=Tryz.underlying327
 a227:=Tryz.isAgg327
 z227:=Tryz.sizeOf327
 v227:=Tryz.zeroValue327
 g0:=by kernel_rfl
 g6:=by kernel_rfl
 i0:=by kernel_rfl
 i3:=by kernel_rfl
 i4:=by kernel_rfl
 i5:=by kernel_rfl
 i9:=by kernel_rfl
 i21:=by kernel_rfl
 i31:=by kernel_rfl
 i40:=by kernel_rfl
 i46:=by kernel_rfl
 i49:=by kernel_rfl
 i51:=by kernel_rfl
 i141:=by kernel_rfl
 i152:=by kernel_rfl
 i154:=by kernel_rfl
 i193:=by kernel_rfl
 i194:=by kernel_rfl
 i196:=by kernel_rfl
 i198:=by kernel_rfl
 i201:=by kernel_rfl
 i226:=by kernel_rfl
 i227:=by kernel_rfl
 m0:=by kernel_rfl
 m6:=by kernel_rfl }
open Go.RowKit Go.Lib in
theorem Tryz.strings_Fields_laid (s:ByteArray) (w:World) (hs:s.size < 4294967281) (hascii:∀ (j:Nat) b,s.data.toList[j]?=some b→b.toNat < 128) (htab:Lib.TabIs Tryz.prog w "strings.asciiSpace" .u8 Lib.asciiSpaceTab) :
  Calls Tryz.prog 148 #[.string s] w fun e w' =>
   e=.returned (.slice (some ⟨w.heap.size,0,none⟩) (Lib.fields s.data.toList).length (Lib.fields s.data.toList).length)∧w'=w.alloc (.cells ((Lib.fields s.data.toList).map fun l=>Value.string ⟨l.toArray⟩).toArray 9):=Any.strings_Fields_laid Tryz.laysM157 s w hs hascii htab
def Tryz.lays105_ren:Go.Shelf.Ren:=⟨fun | 105=>295 | 212=>326 | 99=>327 | 165=>328 | 166=>275 | 170=>274 | 169=>138 | 263=>338 | 264=>291 | 206=>339 | 240=>310 | 241=>340 | 276=>334 | 277=>344 | n=>n,fun | 9=>9 | 3=>3 | 4=>4 | 20=>20 | 0=>0 | 46=>40 | 109=>318 | 5=>5 | 72=>148 | 76=>260 | 51=>271 | 146=>328 | 53=>282 | 148=>283 | 70=>145 | 37=>146 | 75=>259 | 127=>222 | 164=>324 | 80=>48 | n=>n,fun | n=>n⟩
theorem Tryz.lays105:Go.Proofs.Lays.n105 Tryz.prog Tryz.lays105_ren:={
 mixed:=by kernel_rfl
 f99:=Tryz.func327.trans (congrArg some (by kernel_rfl))
 f105:=Tryz.func295.trans (congrArg some (by kernel_rfl))
 f165:=Tryz.func328.trans (congrArg some (by kernel_rfl))
 f166:=Tryz.func275.trans (congrArg some (by kernel_rfl))
 f169:=Tryz.func138.trans (congrArg some (by kernel_rfl))
 f170:=Tryz.func274.trans (congrArg some (by kernel_rfl))
 f206:=Tryz.func339.trans (congrArg some (by kernel_rfl))
 f212:=Tryz.func326.trans (congrArg some (by kernel_rfl))
 f240:=Tryz.func310.trans (congrArg some (by kernel_rfl))
 f241:=Tryz.func340.trans (congrArg some (by kernel_rfl))
 f263:=Tryz.func338.trans (congrArg some (by kernel_rfl))
 f264:=Tryz.func291.trans (congrArg some (by kernel_rfl))
 f276:=Tryz.func334.trans (congrArg some (by kernel_rfl))
 f277:=Tryz.func344.trans (congrArg some (by kernel_rfl))
 t0:=Tryz.underlying0
 a0:=Tryz.isAgg0
 z0:=Tryz.sizeOf0
 v0:=Tryz.zeroValue0
 t3:=Tryz.underlying3
 a3:=Tryz.isAgg3
 z3:=Tryz.sizeOf3
 v3:=Tryz.zeroValue3
 t4:=Tryz.underlying4
 a4:=Tryz.isAgg4
 z4:=Tryz.sizeOf4
 v4:=Tryz.zeroValue4
 t5:=Tryz.underlying5
 a5:=Tryz.isAgg5
 z5:=Tryz.sizeOf5
 v5:=Tryz.zeroValue5
 t9:=Tryz.underlying9
 a9:=Tryz.isAgg9
 z9:=Tryz.sizeOf9
 v9:=Tryz.zeroValue9
 t20:=Tryz.underlying20
 a20:=Tryz.isAgg20
 z20:=Tryz.sizeOf20
 v20:=Tryz.zeroValue20
 t37:=Tryz.underlying146
 a37:=Tryz.isAgg146
 z37:=Tryz.sizeOf146
 v37:=Tryz.zeroValue146
 t46:=Tryz.underlying40
 a46:=Tryz.isAgg40
 z46:=Tryz.sizeOf40
 v46:=Tryz.zeroValue40
 t51:=Tryz.underlying271
 a51:=Tryz.isAgg271
 z51:=Tryz.sizeOf271
 v51:=Tryz.zeroValue271
 t53:=Tryz.underlying282
 a53:=Tryz.isAgg282
 z53:=Tryz.sizeOf282
 v53:=Tryz.zeroValue282
 t70:=Tryz.underlying145
 a70:=Tryz.isAgg145
 z70:=Tryz.sizeOf145
 v70:=Tryz.zeroValue145
 t72:=Tryz.underlying148
 a72:=Tryz.isAgg148
 z72:=Tryz.sizeOf148
 v72:=Tryz.zeroValue148
 t75:=Tryz.underlying259
 a75:=Tryz.isAgg259
 z75:=Tryz.sizeOf259
 v75:=Tryz.zeroValue259
 t76:=Tryz.underlying260
 a76:=Tryz.isAgg260
 z76:=Tryz.sizeOf260
 v76:=Tryz.zeroValue260
 t109:=Tryz.underlying318
 a109:=Tryz.isAgg318
 z109:=Tryz.sizeOf318
 v109:=Tryz.zeroValue318
 t127:=Tryz.underlying222
 a127:=Tryz.isAgg222
 z127:=Tryz.sizeOf222
 v127:=Tryz.zeroValue222
 t146:=Tryz.underlying328
 a146:=Tryz.isAgg328
 z146:=Tryz.sizeOf328
 v146:=Tryz.zeroValue328
 t148:=Tryz.underlying283
 a148:=Tryz.isAgg283
 z148:=Tryz.sizeOf283
 v148:=Tryz.zeroValue283
 t164:=Tryz.underlying324
 a164:=Tryz.isAgg324
 z164:=Tryz.sizeOf324
 v164:=Tryz.zeroValue324 }
theorem Tryz.Builder_Extra_105:Builder.Extra Tryz.prog Tryz.lays105_ren:={
 sizeBuilder:=by kernel_rfl
 liesBuilder:=by kernel_rfl
 t5:=Tryz.underlying5
 a5:=Tryz.isAgg5
 z5:=Tryz.sizeOf5
 v5:=Tryz.zeroValue5
 infoByte:=by kernel_rfl
 cellsByte:=by kernel_rfl
 sizeByte:=by kernel_rfl
 neB5:=by decide }
open Go.RowKit Go.Lib in
theorem Tryz.strings_Repeat (s:ByteArray) (c:Nat) (w:World) (hc:c≤9223372036854775807) (hlen:s.size * c≤140737488355328) :
  Calls Tryz.prog 295 #[.string s,.int .i64 c] w fun e w'=>e=.returned (.string ⟨(Lib.repeatL s.data.toList c).toArray⟩)∧Below w.heap.size w w':=Any.strings_Repeat Tryz.lays105 Tryz.Builder_Extra_105 s c w hc hlen
end
end Go.Proofs
