/- RowA -/
import Derived.Test.YtobooojhmgicpaaGreatDoorPart27
import Derived.Test.YtobooojhmgicpaaGreatDoorPart28
import Derived.ChangeArms
import Derived.Carry
set_option linter.unusedVariables false
set_option linter.unusedSimpArgs false
set_option maxRecDepth 100000
namespace Go.Proofs.YtobooojhmgicpaaGreatDoor.R
open Go Go.ChangeShapes Go.WideShapes Go.ChangeAt Go.RowKit
section
variable {H:Type} {enc:TypeId × Value→H} {w:World} {r:Reach} {b0:Nat}
structure RowI (w:World) (s:Nat) (v:Value) where
 c:Nat
 o:Nat
 len:Nat
 cap:Nat
 cs:List Int
 at_:Nat→Option (Nat × Nat × Nat)
theorem open_rowI {T E s:Nat} (hT:Tryz.prog.underlying T=some (.slice E)) (hs:Tryz.prog.cellsOf E=s) {v:Value} {d:DataW H} {ps:List MemPlace}
  (hel:∀ n cs y,DataW.trod enc Tryz.prog w 0 (fun _=>true) true n E cs=some y→cs.length=s→∀ j,j < s→∃ m,cs[j]?=some (.int .i64 m)∧(Lit.int .i64 m).wf=true)
  (hval:Value.okWide Tryz.prog w r b0 T v) (hd:DataW.Trod enc Tryz.prog w 0 (fun _=>true) true T v d ps) :
  v=.slice none 0 0∨∃ (c o len cap:Nat) (cs:List Int) (arr:Array Value) (t:TypeId) (fr:Nat × Nat),v=.slice (some ⟨c,o,none⟩) len cap∧len≤cap∧cap≤maxLen∧w.heap[c]?=some (.cells arr t fr)∧cs.length=cap * s ∧
   ∀ i n,cs[i]?=some n→arr[o + i]?=some (.int .i64 n)∧(Lit.int .i64 n).wf=true:=by
 have hok:Cell.okWide Tryz.prog w r b0 T v:=by
  unfold Value.okWide at hval
  rw [hT] at hval
  exact hval
 obtain ⟨fuel,hd⟩:=hd
 have hcells:v.cells.toList=[v]∨∃ a,v=.agg a:=by
  cases v<;>first | (exact .inl rfl) | (exact .inr ⟨_,rfl⟩)
 rcases hcells with hc | ⟨a,rfl⟩
 rotate_left
 ·unfold Cell.okWide Cell.ok at hok
  simp [hT] at hok
 rw [hc] at hd
 rcases DataW.trod_slice hT hd with ⟨h0,-⟩ | ⟨a,len,cap,elems,rest,n,-,h1,-,-,hl,hm,hlen,hel1,hsp,-⟩
 ·exact .inl (List.cons.inj h0).1
 right
 obtain rfl:=(List.cons.inj h1).1
 obtain ⟨c,o,sp⟩:=a
 have hok2:len≤cap∧(cap:Int)≤IntKind.i64.max∧w.has Tryz.prog r b0 ⟨c,o,sp⟩ E cap:=by
  unfold Cell.okWide Cell.ok at hok
  simpa [hT] using hok
 obtain ⟨-,-,-,rfl,row,cells,hsh,-⟩:=hok2
 have hheap:∃ arr t fr,w.heap[c]?=some (.cells arr t fr):=by
  unfold World.shape? at hsh
  split at hsh
  ·exact ⟨_,_,_,by assumption⟩
  ·cases hsh
 obtain ⟨arr,t,fr,hheap⟩:=hheap
 obtain ⟨hr1,hr2⟩:=hsp rfl
 have cell:∀ i,i < cap * s→∃ m,arr[o + i]?=some (.int .i64 m)∧(Lit.int .i64 m).wf=true:=by
  intro i hi
  have hs0:0 < s:=by
   rcases Nat.eq_zero_or_pos s with h | h
   ·rw [h] at hi;omega
   ·exact h
  have hq:i / s < cap:=by
   rw [Nat.div_lt_iff_lt_mul hs0];exact hi
  have hb:∃ y,(w.cells? 0 ((⟨c,o,none⟩:Addr).add (i / s * Tryz.prog.cellsOf E)) (Tryz.prog.cellsOf E)).bind (DataW.trod enc Tryz.prog w 0 (fun _=>true) true n E)=some y:=by
   by_cases h:i / s < len
   ·rw [hel1 _ h]
    exact ⟨_,List.getElem?_eq_getElem (by omega)⟩
   ·have:=hr2 (i / s - len) (by omega)
    rw [show len + (i / s - len)=i / s by omega] at this
    rw [this]
    exact ⟨_,List.getElem?_eq_getElem (by omega)⟩
  obtain ⟨y,hy⟩:=hb
  rw [Option.bind_eq_some_iff] at hy
  obtain ⟨cs,hcs,hy⟩:=hy
  obtain ⟨-,k2,k3⟩:=World.cells?_some hcs
  rw [hs] at k2 k3
  obtain ⟨m,m1,m2⟩:=hel n cs y hy k2 (i % s) (Nat.mod_lt _ hs0)
  have:=k3 (i % s) (Nat.mod_lt _ hs0)
  rw [m1] at this
  have hm (b o j:Nat):(⟨b,o,none⟩:Addr).add j=⟨b,o + j,none⟩:=by unfold Addr.add;split<;>simp_all
  rw [hm,hm] at this
  simp only [World.cell?,hheap,Option.isSome_none,Bool.false_eq_true,if_false] at this
  refine ⟨m,?_,m2⟩
  have e:o + i / s * s + i % s=o + i:=by
   have:=Nat.div_add_mod i s
   rw [Nat.mul_comm] at this
   omega
  rw [e] at this
  simpa using this
 refine ⟨c,o,len,cap,(List.range (cap * s)).map fun i=>match arr[o + i]? with
  | some (.int _ n)=>n
  | _=>0,arr,t,fr,rfl,hl,hm,hheap,by simp,fun i n hn=>?_⟩
 rw [List.getElem?_map] at hn
 have hi:i < cap * s:=by
  rcases Nat.lt_or_ge i (cap * s) with h | h
  ·exact h
  ·rw [List.getElem?_eq_none (by simpa using h)] at hn;cases hn
 obtain ⟨m,h1,h2⟩:=cell i hi
 rw [List.getElem?_eq_getElem (by simpa using hi)] at hn
 simp only [List.getElem_range,Option.map_some,Option.some.injEq,h1] at hn
 subst hn
 exact ⟨h1,h2⟩
theorem el3 (n:Nat) (cs:List Value) (y:DataW H × List MemPlace) (h:DataW.trod enc Tryz.prog w 0 (fun _=>true) true n 39 cs=some y) (hl:cs.length=3) (j:Nat) (hj:j < 3):∃ m,cs[j]?=some (.int .i64 m)∧(Lit.int .i64 m).wf=true:=by
 obtain ⟨xs,m,-,-,-,hx,hf⟩:=DataW.trod_array Tryz.underlying39 h
 have hc1:Tryz.prog.cellsOf 3=1:=by kernel_rfl
 have:=hf j hj
 rw [hc1,Nat.mul_one,List.getElem?_eq_getElem (by omega)] at this
 obtain ⟨k,e0,-,w0⟩:=DataW.trod_int Tryz.underlying3 this
 refine ⟨k,?_,w0⟩
 have h2:(cs.drop j).take 1=[cs[j]]:=by
  rw [List.drop_eq_getElem_cons (by omega)];rfl
 rw [h2] at e0
 rw [List.getElem?_eq_getElem (by omega),(List.cons.inj e0).1]
end
end Go.Proofs.YtobooojhmgicpaaGreatDoor.R
namespace Go.Proofs.YtobooojhmgicpaaGreatDoor.W.E
open Go.RowKit
def bRow (w:World) (c o z:Nat) (cs:List Int) (h:c < w.heap.size):B0:=⟨w,foC (cs.map (SV.int .i64)),fun b=>match b with
 | 0=>some (c,o,z)
 | _=>none,fun b c' o' z' hb=>by
  cases b with
  | zero=>cases hb;exact h
  | succ b=>cases hb⟩
theorem renL_ints (ρ:Nat→Option Nat):∀ cs:List Int,renL (SV.ren ρ renF) (cs.map (SV.int .i64))=some (cs.map (SV.int .i64))
 | []=>rfl
 | n :: t=>by
  have h:SV.ren ρ renF (SV.int .i64 n)=some (.int .i64 n):=rfl
  simp only [List.map_cons,renL,h,renL_ints ρ t]
def LawI (f:Nat) (T s:Nat):Prop:=∀ (w:World) (v:Value),Gl w→(v=.slice none 0 0∨∃ (c o len cap:Nat) (cs:List Int) (arr:Array Value) (t:TypeId) (fr:Nat × Nat),v=.slice (some ⟨c,o,none⟩) len cap∧len≤cap∧cap≤maxLen∧w.heap[c]?=some (.cells arr t fr)∧cs.length=cap * s ∧
   ∀ i n,cs[i]?=some n→arr[o + i]?=some (.int .i64 n)∧(Lit.int .i64 n).wf=true) →
 Calls Tryz.prog f ⟨[v]⟩ w fun en w'=>en=.returned (.bool true)∧Bl w w'
theorem lawI {f T s:Nat} (hs:0 < s) {g:Func} {c:Code} (hf:Tryz.prog.funcs[f]?=some g) (hc:g.body=some c) (hl:1≤g.ntmps)
  (h0:LawT f [.slice none 0 0])
  (h:∀ (w0:B0) (n:Nat) (cs:List Int),Hd w0 (foC (cs.map (SV.int .i64))) 1→n * s≤cs.length→(∀ (i:Nat) (m:Int),cs[i]?=some m→(Lit.int .i64 m).wf=true)→CodeQ w0 g.ntmps c (initT [.sl 0 0 n s none] 0 .e) (st0N 1 []) fun x tm st=>(x=.normal∨x=.ret)∧resS Tryz.prog st.m tm g.results=some (.bool true)):LawI f T s:=by
 intro w v hg hv
 rcases hv with rfl | ⟨cb,o,len,cap,cs,arr,t,fr,rfl,h1,h2,h3,h4,h5⟩
 ·exact h0 w hg
 have hsz:cb < w.heap.size:=(Array.getElem?_eq_some_iff.1 h3).1
 have key:∀ (o1 z:Nat),o1 + z≤arr.size→cs.length≤z→(∀ i n,cs[i]?=some n→arr[o1 + i]?=some (.int .i64 n))→VR (bRow w cb o1 z cs hsz).env (.sl 0 0 len s none) (.slice (some ⟨cb,o,none⟩) len cap) →
   Calls Tryz.prog f ⟨[.slice (some ⟨cb,o,none⟩) len cap]⟩ w fun en w'=>en=.returned (.bool true)∧Bl w w':=by
  intro o1 z k1 k2 k3 k4
  have hfo:FoE (bRow w cb o1 z cs hsz) (bRow w cb o1 z cs hsz).env:=by
   intro b l hb
   cases b with
   | succ b=>cases hb
   | zero =>
    cases hb
    refine ⟨cb,o1,z,rfl,rfl,arr,t,fr,h3,k1,⟨nofun,nofun⟩,by simpa using k2,fun j u hj=>?_⟩
    rw [List.getElem?_map] at hj
    cases hq:cs[j]? with
    | none=>rw [hq] at hj;cases hj
    | some n =>
     rw [hq] at hj;cases hj
     exact ⟨rfl,_,k3 j n hq,.int _ _⟩
  have hd:∀ b x,(bRow w cb o1 z cs hsz).fa b=some x→b < 1:=fun b x hb=>by
   cases b with
   | zero=>omega
   | succ b=>cases hb
  refine lawF (w0:=bRow w cb o1 z cs hsz) (fn:=1) (vs:=[.sl 0 0 len s none]) hf hc hl (by show 1 < TMax;exact Nat.le_of_ble_eq_true (by kernel_rfl)) (.cons k4 .nil) hg hd hfo (h _ len cs ⟨rfl,fun b l hb=>?_,fun b l hb=>?_⟩ ?_ ?_)
  ·cases b with
   | zero=>omega
   | succ b=>cases hb
  ·cases b with
   | zero=>cases hb;exact renL_ints _ _
   | succ b=>cases hb
  ·rw [h4];exact Nat.mul_le_mul_right _ h1
  ·exact fun i m hm=>(h5 i m hm).2
 by_cases hcap:cap=0
 ·subst hcap
  obtain rfl:len=0:=by omega
  obtain rfl:cs=[]:=List.eq_nil_of_length_eq_zero (by omega)
  exact key 0 0 (by omega) (by simp) (fun i n hi=>by simp at hi) (.sle _ _ _ rfl)
 ·have hpos:0 < cap * s:=Nat.mul_pos (by omega) hs
  have hlast:=(h5 (cap * s - 1) _ (List.getElem?_eq_getElem (by omega))).1
  have:=(Array.getElem?_eq_some_iff.1 hlast).1
  exact key o (cap * s) (by omega) (by omega) (fun i n hi=>(h5 i n hi).1) (.sl rfl h1 (by omega) h2 (.inl rfl))
end Go.Proofs.YtobooojhmgicpaaGreatDoor.W.E
