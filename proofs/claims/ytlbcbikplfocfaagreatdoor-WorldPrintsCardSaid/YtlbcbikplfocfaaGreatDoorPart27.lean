/- RowS EvQ5 EvQ6 Hj LpC -/
import Derived.Test.YtlbcbikplfocfaaGreatDoorPart26
set_option linter.unusedVariables false
set_option linter.unusedSimpArgs false
section
set_option maxRecDepth 100000
namespace Go.Proofs.YtlbcbikplfocfaaGreatDoor.R
open Go Go.ChangeShapes Go.WideShapes Go.ChangeAt Go.RowKit
def RowQ (w:World) (s:Nat) (Q:List Value→Prop) (v:Value):Prop :=
 v=.slice none 0 0∨(∃ a,v=.slice (some a) 0 0)∨∃ (c o len cap:Nat) (arr:Array Value) (t:TypeId) (fr:Nat × Nat),v=.slice (some ⟨c,o,none⟩) len cap∧len≤cap∧cap≤maxLen∧0 < cap∧w.heap[c]?=some (.cells arr t fr) ∧
  ∀ i,i < cap→∃ cs,Q cs∧cs.length=s∧∀ j,j < s→arr[o + (i * s + j)]?=cs[j]?
def qStr (cs:List Value):Prop:=∃ s:ByteArray,cs=[.string s]
def qInt (cs:List Value):Prop:=∃ n,cs=[.int .i64 n]∧(Lit.int .i64 n).wf=true
def qStrs (w:World) (cs:List Value):Prop:=∃ v,cs=[v]∧RowQ w 1 qStr v
section
variable {H:Type} {enc:TypeId × Value→H} {w:World}
theorem trod_row {T E s:Nat} (hT:Tryz.prog.underlying T=some (.slice E)) (hs:Tryz.prog.cellsOf E=s) (h0:0 < s) {Q:List Value→Prop}
  (hel:∀ n cs y,DataW.trod enc Tryz.prog w 0 (fun _=>true) true n E cs=some y→cs.length=s→Q cs)
  {cs:List Value} {fuel:Nat} {x:DataW H × List MemPlace} (hd:DataW.trod enc Tryz.prog w 0 (fun _=>true) true fuel T cs=some x):∃ v,cs=[v]∧RowQ w s Q v:=by
 rcases DataW.trod_slice hT hd with ⟨h1,-⟩ | ⟨a,len,cap,elems,rest,n,-,h1,-,-,hl,hm,hlen,hel1,hsp,-⟩
 ·exact ⟨_,h1,.inl rfl⟩
 refine ⟨_,h1,?_⟩
 right
 obtain ⟨c,o,sp⟩:=a
 by_cases hcap:cap=0
 ·subst hcap
  obtain rfl:len=0:=by omega
  exact .inl ⟨_,rfl⟩
 right
 obtain ⟨hr1,hr2⟩:=hsp rfl
 have el:∀ i,i < cap→∃ cs,Q cs∧cs.length=s∧∀ j,j < s→w.cell? (((⟨c,o,sp⟩:Addr).add (i * s)).add j)=cs[j]?:=by
  intro i hq
  have hb:∃ y,(w.cells? 0 ((⟨c,o,sp⟩:Addr).add (i * Tryz.prog.cellsOf E)) (Tryz.prog.cellsOf E)).bind (DataW.trod enc Tryz.prog w 0 (fun _=>true) true n E)=some y:=by
   by_cases h:i < len
   ·rw [hel1 _ h]
    exact ⟨_,List.getElem?_eq_getElem (by omega)⟩
   ·have:=hr2 (i - len) (by omega)
    rw [show len + (i - len)=i by omega] at this
    rw [this]
    exact ⟨_,List.getElem?_eq_getElem (by omega)⟩
  obtain ⟨y,hy⟩:=hb
  rw [Option.bind_eq_some_iff] at hy
  obtain ⟨cs,hcs,hy⟩:=hy
  obtain ⟨-,k2,k3⟩:=World.cells?_some hcs
  rw [hs] at k2 k3
  exact ⟨cs,hel n cs y hy k2,k2,fun j hj=>k3 j hj⟩
 obtain ⟨cs0,-,q2,q3⟩:=el 0 (by omega)
 have h00:=q3 0 h0
 rw [Nat.zero_mul,List.getElem?_eq_getElem (by omega)] at h00
 have hz:((⟨c,o,sp⟩:Addr).add 0).add 0=⟨c,o,sp⟩:=rfl
 rw [hz] at h00
 obtain ⟨arr,t,fr,hheap,rfl⟩:∃ arr t fr,w.heap[c]?=some (.cells arr t fr)∧sp=none:=by
  unfold World.cell? at h00
  split at h00
  ·rename_i c1 _ _ hh
   refine ⟨_,_,_,hh,?_⟩
   cases sp with
   | none=>rfl
   | some k=>simp at h00
  ·cases h00
 refine ⟨c,o,len,cap,arr,t,fr,rfl,hl,hm,by omega,hheap,fun i hi=>?_⟩
 obtain ⟨cs1,r1,r2,r3⟩:=el i hi
 refine ⟨cs1,r1,r2,fun j hj=>?_⟩
 have hm (b o j:Nat):(⟨b,o,none⟩:Addr).add j=⟨b,o + j,none⟩:=by unfold Addr.add;split<;>simp_all
 have:=r3 j hj
 rw [hm,hm] at this
 simp only [World.cell?,hheap,Option.isSome_none,Bool.false_eq_true,if_false] at this
 rw [← Nat.add_assoc];exact this
theorem open_row {T E s:Nat} (hT:Tryz.prog.underlying T=some (.slice E)) (hs:Tryz.prog.cellsOf E=s) (h0:0 < s) {Q:List Value→Prop}
  (hel:∀ n cs y,DataW.trod enc Tryz.prog w 0 (fun _=>true) true n E cs=some y→cs.length=s→Q cs) {r:Reach} {b0:Nat}
  {v:Value} {d:DataW H} {ps:List MemPlace} (hval:Value.okWide Tryz.prog w r b0 T v) (hd:DataW.Trod enc Tryz.prog w 0 (fun _=>true) true T v d ps):RowQ w s Q v:=by
 have hok:Cell.okWide Tryz.prog w r b0 T v:=by
  unfold Value.okWide at hval
  rw [hT] at hval
  exact hval
 obtain ⟨fuel,hd⟩:=hd
 obtain ⟨v',h1,h2⟩:=trod_row hT hs h0 hel hd
 have hcells:v.cells.toList=[v]∨∃ a,v=.agg a:=by
  cases v<;>first | (exact .inl rfl) | (exact .inr ⟨_,rfl⟩)
 rcases hcells with hc | ⟨a,rfl⟩
 ·rw [hc] at h1
  rw [(List.cons.inj h1).1];exact h2
 ·unfold Cell.okWide Cell.ok at hok
  simp [hT] at hok
theorem el_str (n:Nat) (cs:List Value) (y:DataW H × List MemPlace) (h:DataW.trod enc Tryz.prog w 0 (fun _=>true) true n 9 cs=some y) (_:cs.length=1):qStr cs:=by
 obtain ⟨s,e,-,-⟩:=DataW.trod_string Tryz.underlying9 h
 exact ⟨s,e⟩
theorem el_int (n:Nat) (cs:List Value) (y:DataW H × List MemPlace) (h:DataW.trod enc Tryz.prog w 0 (fun _=>true) true n 3 cs=some y) (_:cs.length=1):qInt cs:=by
 obtain ⟨k,e,-,wk⟩:=DataW.trod_int Tryz.underlying3 h
 exact ⟨k,e,wk⟩
theorem el_strs (n:Nat) (cs:List Value) (y:DataW H × List MemPlace) (h:DataW.trod enc Tryz.prog w 0 (fun _=>true) true n 38 cs=some y) (_:cs.length=1):qStrs w cs :=
 trod_row Tryz.underlying38 (by kernel_rfl) (by decide) el_str h
end
end Go.Proofs.YtlbcbikplfocfaaGreatDoor.R
namespace Go.Proofs.YtlbcbikplfocfaaGreatDoor.W.E
open Go.RowKit
def foP (cs:List SV) (ss:Nat→List SV) (ts:List SV):Nat→Option (List SV):=fun b =>
 bif Nat.beq b 0 then some cs else bif Nat.blt b 7 then some (ss (Nat.pred b)) else bif Nat.beq b 7 then some ts else none
def RowF (b K:Nat) (v:SV) (l:List SV) (f:SV→Prop):Prop:=v=.nils∨v=.we∨∃ n,v=.sl b 0 n 1 none∧∀ i,i < n→i < K→∃ x,l[i]?=some x∧f x
def isStr (x:SV):Prop:=∃ s,x=.str s
def isInt (x:SV):Prop:=∃ n,x=.int .i64 n∧(Lit.int .i64 n).wf=true
def renId (l:List SV):Prop:=renL (SV.ren (fun b=>if b < 8 then some b else none) renF) l=some l
theorem renId_of {l:List SV} (h:∀ x∈l,SV.ren (fun b=>if b < 8 then some b else none) renF x=some x):renId l:=by
 induction l with
 | nil=>rfl
 | cons x t ih =>
  have h1:=h x (List.mem_cons_self ..)
  have h2:renL (SV.ren (fun b=>if b < 8 then some b else none) renF) t=some t:=ih fun y hy=>h y (List.mem_cons_of_mem _ hy)
  unfold renId
  simp only [renL,h1,h2]
def PlAt (w:World) (l:List SV) (y:Nat × Nat × Nat):Prop:=y.1 < w.heap.size∧∀ e:Env,BlkR e w y.1 y.2.1 y.2.2 (.cells l true [] none)
theorem leaf {w:World} {Q:List Value→Prop} {f:SV→Prop} (hQ:∀ cs,Q cs→∃ u x,cs=[u]∧(∀ e,VR e x u)∧x.one=true∧f x∧SV.ren (fun b=>if b < 8 then some b else none) renF x=some x) {v:Value} (h:R.RowQ w 1 Q v) (b K:Nat)
  {c0 o0:Nat} (hp:PlAt w [] (c0,o0,0)):∃ y:SV × List SV × (Nat × Nat × Nat),PlAt w y.2.1 y.2.2∧(∀ e:Env,e b=some y.2.2→VR e y.1 v)∧RowF b K y.1 y.2.1 f∧renId y.2.1∧(b < 8→SV.ren (fun b=>if b < 8 then some b else none) renF y.1=some y.1)∧y.1.one=true:=by
 rcases h with rfl | ⟨a,rfl⟩ | ⟨c,o,len,cap,arr,t,fr,rfl,h1,h2,h3,h4,h5⟩
 ·exact ⟨(.nils,[],(c0,o0,0)),hp,fun e _=>.nils,.inl rfl,rfl,fun _=>rfl,rfl⟩
 ·exact ⟨(.we,[],(c0,o0,0)),hp,fun e _=>.we a,.inr (.inl rfl),rfl,fun _=>rfl,rfl⟩
 have hx:∀ i,∃ x:SV,i < cap→∃ u,arr[o + i]?=some u∧(∀ e,VR e x u)∧x.one=true∧f x∧SV.ren (fun b=>if b < 8 then some b else none) renF x=some x:=by
  intro i
  by_cases hi:i < cap
  ·obtain ⟨cs,q1,q2,q3⟩:=h5 i hi
   obtain ⟨u,x,rfl,r1,r2,r3,r4⟩:=hQ cs q1
   exact ⟨x,fun _=>⟨u,by simpa using q3 0 (by omega),r1,r2,r3,r4⟩⟩
  ·exact ⟨.nils,fun h=>absurd h hi⟩
 obtain ⟨X,hX⟩:=Classical.skolem.1 hx
 have hsz:c < w.heap.size:=(zN h4).1
 have hlast:o + cap≤arr.size:=by
  obtain ⟨u,hu,-⟩:=hX (cap - 1) (by omega)
  have:=(zN hu).1
  omega
 refine ⟨(.sl b 0 len 1 none,(List.range cap).map X,(c,o,cap)),⟨hsz,fun e=>⟨arr,t,fr,h4,hlast,⟨nofun,nofun⟩,by simp,fun j x hj=>?_⟩⟩,fun e he=>?_,.inr (.inr ⟨len,rfl,fun i hi _=>?_⟩),renId_of fun x hx=>?_,fun hb=>?_,rfl⟩
 ·rw [List.getElem?_map] at hj
  have hj2:j < cap:=by
   rcases Nat.lt_or_ge j cap with h | h
   ·exact h
   ·rw [List.getElem?_eq_none (by simpa using h)] at hj;cases hj
  rw [List.getElem?_range hj2] at hj
  cases hj
  obtain ⟨u,r1,r2,r3,-⟩:=hX j hj2
  exact ⟨r3,u,r1,r2 e⟩
 ·have:VR e (.sl b 0 len 1 none) (.slice (some ⟨c,o + 0,none⟩) len cap):=.sl he h1 (by omega) h2 (.inl rfl)
  simpa using this
 ·obtain ⟨u,-,-,-,r4,-⟩:=hX i (by omega)
  exact ⟨X i,by simp [List.getElem?_range (show i < cap by omega)],r4⟩
 ·obtain ⟨i,hi,rfl⟩:=List.mem_map.1 hx
  obtain ⟨u,-,-,-,-,r5⟩:=hX i (List.mem_range.1 hi)
  exact r5
 ·show ren1 (fun b=>if b < 8 then some b else none) (SV.ren (fun b=>if b < 8 then some b else none) 29) (.sl b 0 len 1 none)=_
  simp [ren1,hb]
theorem leafStr (cs:List Value) (h:R.qStr cs):∃ u x,cs=[u]∧(∀ e,VR e x u)∧x.one=true∧isStr x∧SV.ren (fun b=>if b < 8 then some b else none) renF x=some x:=by
 obtain ⟨s,rfl⟩:=h
 refine ⟨_,.str s.data.toList,rfl,fun e=>?_,rfl,⟨_,rfl⟩,rfl⟩
 have:VR e (.str s.data.toList) (.string (bs s.data.toList)):=.str _
 simpa [bs] using this
theorem leafInt (cs:List Value) (h:R.qInt cs):∃ u x,cs=[u]∧(∀ e,VR e x u)∧x.one=true∧isInt x∧SV.ren (fun b=>if b < 8 then some b else none) renF x=some x:=by
 obtain ⟨n,rfl,hw⟩:=h
 exact ⟨_,.int .i64 n,rfl,fun e=>.int _ _,rfl,⟨n,rfl,hw⟩,rfl⟩
def LawSs (f:Nat):Prop:=∀ (w:World) (v u:Value),Gl w→R.RowQ w 1 (R.qStrs w) v→R.RowQ w 1 R.qInt u →
 Calls Tryz.prog f ⟨[v,u]⟩ w fun en w'=>en=.returned (.bool true)∧Bl w w'
def faP (p0:Nat × Nat × Nat) (p:Nat→Nat × Nat × Nat) (p7:Nat × Nat × Nat):Nat→Option (Nat × Nat × Nat):=fun b =>
 bif Nat.beq b 0 then some p0 else bif Nat.blt b 7 then some (p (Nat.pred b)) else bif Nat.beq b 7 then some p7 else none
theorem faP_lt {p0:Nat × Nat × Nat} {p:Nat→Nat × Nat × Nat} {p7:Nat × Nat × Nat} {b:Nat} {x:Nat × Nat × Nat} (h:faP p0 p p7 b=some x):b < 8:=by
 unfold faP at h
 cases h0:Nat.beq b 0 with
 | true=>have:=Nat.eq_of_beq_eq_true h0;omega
 | false =>
  cases h1:Nat.blt b 7 with
  | true=>have:b < 7:=(by simpa [Nat.blt_eq] using h1);omega
  | false =>
   cases h2:Nat.beq b 7 with
   | true=>have:=Nat.eq_of_beq_eq_true h2;omega
   | false=>simp [h0,h1,h2] at h
theorem lt8 {b:Nat} (h:b < 8):b=0∨(∃ i,b=i + 1∧i < 6)∨b=7:=by
 rcases Nat.lt_or_ge b 1 with h1 | h1
 ·exact .inl (by omega)
 ·rcases Nat.lt_or_ge b 7 with h2 | h2
  ·exact .inr (.inl ⟨b - 1,by omega,by omega⟩)
  ·exact .inr (.inr (by omega))
theorem faP_in {p0:Nat × Nat × Nat} {p:Nat→Nat × Nat × Nat} {p7:Nat × Nat × Nat} {i:Nat} (h:i < 6):faP p0 p p7 (i + 1)=some (p i):=by
 have h1:Nat.blt (i + 1) 7=true:=(by rw [Nat.blt_eq];omega)
 have h0:Nat.beq (i + 1) 0=false:=rfl
 show (bif Nat.beq (i + 1) 0 then some p0 else bif Nat.blt (i + 1) 7 then some (p (Nat.pred (i + 1))) else _)=_
 rw [h0,h1];rfl
theorem foP_in {cs:List SV} {ss:Nat→List SV} {ts:List SV} {i:Nat} (h:i < 6):foP cs ss ts (i + 1)=some (ss i):=by
 have h1:Nat.blt (i + 1) 7=true:=(by rw [Nat.blt_eq];omega)
 have h0:Nat.beq (i + 1) 0=false:=rfl
 show (bif Nat.beq (i + 1) 0 then some cs else bif Nat.blt (i + 1) 7 then some (ss (Nat.pred (i + 1))) else _)=_
 rw [h0,h1];rfl
theorem foP_lt {cs:List SV} {ss:Nat→List SV} {ts:List SV} {b:Nat} {x:List SV} (h:foP cs ss ts b=some x):b < 8:=by
 unfold foP at h
 cases h0:Nat.beq b 0 with
 | true=>have:=Nat.eq_of_beq_eq_true h0;omega
 | false =>
  cases h1:Nat.blt b 7 with
  | true=>have:b < 7:=(by simpa [Nat.blt_eq] using h1);omega
  | false =>
   cases h2:Nat.beq b 7 with
   | true=>have:=Nat.eq_of_beq_eq_true h2;omega
   | false=>simp [h0,h1,h2] at h
theorem lawSs {f:Nat} {g:Func} {c:Code} (hf:Tryz.prog.funcs[f]?=some g) (hc:g.body=some c) (hl:2≤g.ntmps)
  (h0:∀ (w0:B0) (vo vt:SV),Hd w0 fo0 8→(vo=.nils∨vo=.we)→CodeQ w0 g.ntmps c (initT [vo,vt] 0 .e) (st0N 8 []) fun x tm st=>(x=.normal∨x=.ret)∧resS Tryz.prog st.m tm g.results=some (.bool true))
  (h:∀ (w0:B0) (n:Nat) (cs:List SV) (ss:Nat→List SV) (vt:SV) (ts:List SV),Hd w0 (foP cs ss ts) 8→(∀ i,i < n→i < 6→∃ x,cs[i]?=some x∧RowF (i + 1) 4 x (ss i) isStr)→RowF 7 6 vt ts isInt →
   CodeQ w0 g.ntmps c (initT [.sl 0 0 n 1 none,vt] 0 .e) (st0N 8 []) fun x tm st=>(x=.normal∨x=.ret)∧resS Tryz.prog st.m tm g.results=some (.bool true)):LawSs f:=by
 intro w v u hg hv hu
 have hT2:∀ (a b:SV),[a,b].length < TMax:=fun _ _=>zB (by show Nat.ble 3 TMax=true;kernel_rfl)
 have empty:∀ vo:SV,(vo=.nils∨vo=.we)→(∀ e,VR e vo v)→Calls Tryz.prog f ⟨[v,u]⟩ w fun en w'=>en=.returned (.bool true)∧Bl w w':=by
  intro vo hvo hvr
  have hp:PlAt w [] (2,0,0):=by
   obtain ⟨-,⟨m,hm⟩,h2⟩:=hg
   unfold World.cell? at hm
   split at hm
   ·rename_i c1 t1 f1 hh
    exact ⟨h2,fun e=>⟨c1,t1,f1,hh,Nat.zero_le _,⟨nofun,nofun⟩,Nat.le_refl _,fun j x hj=>by simp at hj⟩⟩
   ·cases hm
  obtain ⟨⟨vt,ts,p7⟩,k1,k2,-⟩:=leaf (f:=isInt) leafInt hu 7 6 hp
  have hlt:∀ b c o z,(fun b=>bif Nat.beq b 7 then some p7 else none:Nat→Option (Nat × Nat × Nat)) b=some (c,o,z)→c < w.heap.size:=fun b c o z hb=>by
   cases hq:Nat.beq b 7 with
   | true=>simp only [hq,cond_true] at hb;cases hb;exact k1.1
   | false=>simp [hq] at hb
  have hd:∀ b x,(fun b=>bif Nat.beq b 7 then some p7 else none:Nat→Option (Nat × Nat × Nat)) b=some x→b < 8:=fun b x hb=>by
   cases hq:Nat.beq b 7 with
   | true=>have:=Nat.eq_of_beq_eq_true hq;omega
   | false=>simp [hq] at hb
  exact lawF (w0:=⟨w,fo0,fun b=>bif Nat.beq b 7 then some p7 else none,hlt,fun _=>False,fun _=>none⟩) (fn:=8) (vs:=[vo,vt]) hf hc hl (hT2 ..) (.cons (hvr _) (.cons (k2 _ rfl) .nil)) hg hd nofun (fun _ h=>h) (fun _=>rfl) (h0 _ vo vt ⟨rfl,⟨nofun,nofun,nofun⟩,hd⟩ hvo)
 rcases hv with rfl | ⟨a,rfl⟩ | ⟨c0,o0,len,cap,arr,t,fr,rfl,h1,h2,h3,h4,h5⟩
 ·exact empty .nils (.inl rfl) fun e=>.nils
 ·exact empty .we (.inr rfl) fun e=>.we a
 have hsz:c0 < w.heap.size:=(zN h4).1
 have hel:∀ i,i < cap→∃ x,arr[o0 + i]?=some x∧R.RowQ w 1 R.qStr x:=fun i hi=>by
  obtain ⟨cs,⟨x,rfl,q1⟩,q2,q3⟩:=h5 i hi
  exact ⟨x,by simpa using q3 0 (by omega),q1⟩
 have hlast:o0 + cap≤arr.size:=by
  obtain ⟨u,hu,-⟩:=hel (cap - 1) (by omega)
  have:=(zN hu).1
  omega
 have hp:PlAt w [] (c0,o0,0):=⟨hsz,fun e=>⟨arr,t,fr,h4,(by show o0 + 0≤arr.size;omega),⟨nofun,nofun⟩,by simp,fun j x hj=>by simp at hj⟩⟩
 have hin:∀ i,∃ y:SV × List SV × (Nat × Nat × Nat),PlAt w y.2.1 y.2.2∧renId y.2.1∧(i < cap→∃ x,arr[o0 + i]?=some x∧(∀ e:Env,e (i + 1)=some y.2.2→VR e y.1 x)∧RowF (i + 1) 4 y.1 y.2.1 isStr)∧(i < 6→SV.ren (fun b=>if b < 8 then some b else none) renF y.1=some y.1)∧y.1.one=true:=by
  intro i
  by_cases hi:i < cap
  ·obtain ⟨x,q1,q2⟩:=hel i hi
   obtain ⟨y,r1,r2,r3,r4,r5,r6⟩:=leaf (f:=isStr) leafStr q2 (i + 1) 4 hp
   exact ⟨y,r1,r4,fun _=>⟨x,q1,r2,r3⟩,fun hi=>r5 (by omega),r6⟩
  ·exact ⟨(.nils,[],(c0,o0,0)),hp,rfl,fun h=>absurd h hi,fun _=>rfl,rfl⟩
 obtain ⟨Y,hY⟩:=Classical.skolem.1 hin
 obtain ⟨⟨vt,ts,p7⟩,k1,k2,k3,k4,-⟩:=leaf (f:=isInt) leafInt hu 7 6 hp
 obtain ⟨cs,hcs⟩:∃ cs,cs=(List.range (min cap 6)).map fun i=>(Y i).1:=⟨_,rfl⟩
 have hcl:cs.length=min cap 6:=by rw [hcs];simp
 have hci:∀ i,i < min cap 6→cs[i]?=some (Y i).1:=fun i hi=>by rw [hcs];simp [List.getElem?_range hi]
 have hlt:∀ b c o z,faP (c0,o0,cap) (fun i=>(Y i).2.2) p7 b=some (c,o,z)→c < w.heap.size:=fun b c o z hb=>by
  rcases lt8 (faP_lt hb) with rfl | ⟨i,rfl,hi⟩ | rfl
  ·cases hb;exact hsz
  ·rw [faP_in hi] at hb
   have:=(hY i).1.1
   rw [Option.some.inj hb] at this;exact this
  ·cases hb;exact k1.1
 have hfo:FoE ⟨w,foP cs (fun i=>(Y i).2.1) ts,faP (c0,o0,cap) (fun i=>(Y i).2.2) p7,hlt,fun _=>False,fun _=>none⟩ (faP (c0,o0,cap) (fun i=>(Y i).2.2) p7):=by
  intro b l hb
  replace hb:foP cs (fun i=>(Y i).2.1) ts b=some l:=hb
  rcases lt8 (foP_lt hb) with rfl | ⟨i,rfl,hi⟩ | rfl
  ·cases hb
   refine ⟨c0,o0,cap,rfl,rfl,arr,t,fr,h4,hlast,⟨nofun,nofun⟩,by omega,fun j x hj=>?_⟩
   have hj2:j < min cap 6:=by
    rcases Nat.lt_or_ge j (min cap 6) with h | h
    ·exact h
    ·rw [List.getElem?_eq_none (by omega)] at hj;cases hj
   rw [hci j hj2] at hj
   cases hj
   obtain ⟨-,-,q3,-,q5⟩:=hY j
   obtain ⟨x,r1,r2,-⟩:=q3 (by omega)
   exact ⟨q5,x,r1,r2 _ (faP_in (by omega))⟩
  ·rw [foP_in hi] at hb
   cases hb
   have:=(hY i).1.2
   exact ⟨(Y i).2.2.1,(Y i).2.2.2.1,(Y i).2.2.2.2,faP_in (p0:=(c0,o0,cap)) (p:=fun i=>(Y i).2.2) (p7:=p7) hi,faP_in (p0:=(c0,o0,cap)) (p:=fun i=>(Y i).2.2) (p7:=p7) hi,this _⟩
  ·cases hb
   exact ⟨_,_,_,rfl,rfl,k1.2 _⟩
 have hd:∀ b x,faP (c0,o0,cap) (fun i=>(Y i).2.2) p7 b=some x→b < 8:=fun b x hb=>faP_lt hb
 refine lawF (w0:=⟨w,foP cs (fun i=>(Y i).2.1) ts,faP (c0,o0,cap) (fun i=>(Y i).2.2) p7,hlt,fun _=>False,fun _=>none⟩) (fn:=8) (vs:=[.sl 0 0 len 1 none,vt]) hf hc hl (hT2 ..) (.cons ?_ (.cons (k2 _ rfl) .nil)) hg hd hfo (fun _ h=>h) (fun _=>rfl) (h _ len cs (fun i=>(Y i).2.1) vt ts ⟨rfl,⟨fun b l hb=>foP_lt (cs:=cs) (ss:=fun i=>(Y i).2.1) (ts:=ts) hb,fun b l hb=>?_,nofun⟩,hd⟩ (fun i hi h6=>?_) k3)
 ·have:VR (faP (c0,o0,cap) (fun i=>(Y i).2.2) p7) (.sl 0 0 len 1 none) (.slice (some ⟨c0,o0 + 0,none⟩) len cap):=.sl rfl h1 (by omega) h2 (.inl rfl)
  exact this
 ·replace hb:foP cs (fun i=>(Y i).2.1) ts b=some l:=hb
  rcases lt8 (foP_lt hb) with rfl | ⟨i,rfl,hi⟩ | rfl
  ·cases hb
   refine renId_of fun x hx=>?_
   rw [hcs] at hx
   obtain ⟨i,hi,rfl⟩:=List.mem_map.1 hx
   have:=List.mem_range.1 hi
   exact (hY i).2.2.2.1 (by omega)
  ·rw [foP_in hi] at hb
   cases hb
   exact (hY i).2.1
  ·cases hb;exact k4
 ·obtain ⟨x,r1,r2,r3⟩:=(hY i).2.2.1 (by omega)
  exact ⟨_,hci i (by omega),r3⟩
end Go.Proofs.YtlbcbikplfocfaaGreatDoor.W.E
end
namespace Go.Proofs.YtlbcbikplfocfaaGreatDoor.W.E
section
open Go.RowKit
def toldS (s:Sc) (st:St HX):Option (SV × St HX):=match s with
 | .res v h=>some (v,st.wh (hnum st.x) h)
 | .row l=>some (st.row l)
 | _=>none
def toldP (x:ExtF) (vs:List SV) (h:Option (Nat × Hp)) (s:Sc):Prop:=∀ m nx,x vs ⟨m,nx,⟨h,0,[],[],[]⟩⟩=toldS s ⟨m,nx,⟨h,0,[],[],[]⟩⟩
def xTold (x:ExtF):ExtF:=fun vs st=>match st with
 | ⟨m,nx,⟨h,cnt,sc,pc,rc⟩⟩=>match sc with
  | []=>x vs ⟨m,nx,⟨h,cnt,[],pc,rc⟩⟩
  | (k,s) :: t=>bif Nat.beq k cnt then nxtC cnt fun n=>toldS s ⟨m,nx,⟨h,n,t,toldP x vs h s :: pc,rc⟩⟩
   else nxtC cnt fun n=>x vs ⟨m,nx,⟨h,n,(k,s) :: t,pc,rc⟩⟩
theorem Rl.xs {w0:B0} {e:Env} {m:T SB} {nx:Nat} {hp:Option (Nat × Hp)} {c c':Nat} {s s':List (Nat × Sc)} {p p':List Prop} {r r':List (SV × SV)} {w:World} {F:FootE} (h:Rl (HL w0) e ⟨m,nx,⟨hp,c,s,p,r⟩⟩ w F):Rl (HL w0) e ⟨m,nx,⟨hp,c',s',p',r'⟩⟩ w F:=by
 refine ⟨h.blk,h.dis,h.old,h.dom,h.sib,?_⟩
 have:=h.ext
 exact ⟨this.1,this.2⟩
theorem Nxt.xs {B:Nat} {e e':Env} {m m':T SB} {nx nx':Nat} {x x2 x' x2':HX} {w w':World} {F F':FootE} (h:Nxt B e ⟨m,nx,x⟩ w F e' ⟨m',nx',x'⟩ w' F'):Nxt B e ⟨m,nx,x2⟩ w F e' ⟨m',nx',x2'⟩ w' F' :=
 ⟨h.le,h.os,h.tape,h.output,h.size,h.frame,h.img,h.und,h.nx⟩
theorem toldS_ok {s:Sc} {m:T SB} {nx:Nat} {h:Option (Nat × Hp)} {cnt:Nat} {sc:List (Nat × Sc)} {pc:List Prop} {rc:List (SV × SV)} {v:SV} {st':St HX} (hs:toldS s ⟨m,nx,⟨h,cnt,sc,pc,rc⟩⟩=some (v,st')) :
  ∃ m' nx' h',st'=⟨m',nx',⟨h',cnt,sc,pc,rc⟩⟩∧toldS s ⟨m,nx,⟨h,0,[],[],[]⟩⟩=some (v,⟨m',nx',⟨h',0,[],[],[]⟩⟩):=by
 cases s with
 | bit b=>cases hs
 | val b=>cases hs
 | res u g=>cases hs;exact ⟨_,_,_,rfl,rfl⟩
 | row l =>
  cases l with
  | nil=>cases hs;exact ⟨_,_,_,rfl,rfl⟩
  | cons y t=>cases hs;exact ⟨_,_,_,rfl,rfl⟩
theorem xTold_ok {f:Nat} {x:ExtF} (hx:ExtOk f x):ExtOk f (xTold x):=fun w0 vs st v st' h=>by
 obtain ⟨m,nx,⟨hh,cnt,sc,pc,rc⟩⟩:=st
 unfold xTold at h
 cases sc with
 | nil=>exact hx w0 vs _ v st' h
 | cons p t =>
  obtain ⟨k,s⟩:=p
  simp only [nxtC_ok] at h
  cases hb:Nat.beq k cnt with
  | true =>
   rw [hb,cond_true] at h
   obtain ⟨m',nx',h',rfl,h2⟩:=toldS_ok h
   intro hg
   have hp:toldP x vs hh s:=hg.1 _ (List.mem_cons_self ..)
   have H:=hx w0 vs _ v _ ((hp m nx).trans h2)
   refine ⟨⟨fun p hp=>hg.1 p (List.mem_cons_of_mem _ hp),hg.2⟩,fun e w F us hR hvs=>?_⟩
   refine ((H ⟨nofun,nofun⟩).2 e w F us hR.xs hvs).mono fun en w' ⟨u,e',F',q1,q2,q3,q4⟩=>?_
   exact ⟨u,e',F',q1,q2,q3.xs,q4.xs⟩
  | false =>
   rw [hb,cond_false] at h
   intro hg
   obtain ⟨g1,H⟩:=hx w0 vs _ v st' h hg
   refine ⟨g1,fun e w F us hR hvs=>?_⟩
   refine (H e w F us hR.xs hvs).mono fun en w' ⟨u,e',F',q1,q2,q3,q4⟩=>?_
   obtain ⟨m',nx',x'⟩:=st'
   exact ⟨u,e',F',q1,q2,q3,q4.xs⟩
def extM:ExtT:=fun f=>match extL f with
 | some x=>some (xTold x)
 | none=>none
theorem extM_ok:∀ f h,extM f=some h→extP f h:=fun f h hf=>by
 unfold extM at hf
 split at hf
 ·rename_i x hx
  cases hf
  obtain ⟨h1,h2⟩:=extL_ok f x hx
  exact ⟨h1,xTold_ok h2⟩
 ·cases hf
end
section
open Go.RowKit
def xToldG (x:ExtF) (P:List SV→T SB→Nat→Option (Nat × Hp)→Sc→Option Prop):ExtF:=fun vs st=>match st with
 | ⟨m,nx,⟨h,cnt,sc,pc,rc⟩⟩=>match sc with
  | []=>x vs ⟨m,nx,⟨h,cnt,[],pc,rc⟩⟩
  | (k,s) :: t=>bif Nat.beq k cnt then (match P vs m nx h s with
    | some p=>nxtC cnt fun n=>toldS s ⟨m,nx,⟨h,n,t,p :: pc,rc⟩⟩
    | none=>none)
   else nxtC cnt fun n=>x vs ⟨m,nx,⟨h,n,(k,s) :: t,pc,rc⟩⟩
theorem xToldG_ok {f:Nat} {x:ExtF} {P:List SV→T SB→Nat→Option (Nat × Hp)→Sc→Option Prop} (hP:∀ vs m nx h s p,P vs m nx h s=some p→p→x vs ⟨m,nx,⟨h,0,[],[],[]⟩⟩=toldS s ⟨m,nx,⟨h,0,[],[],[]⟩⟩) (hx:ExtOk f x):ExtOk f (xToldG x P):=fun w0 vs st v st' h=>by
 obtain ⟨m,nx,⟨hh,cnt,sc,pc,rc⟩⟩:=st
 unfold xToldG at h
 cases sc with
 | nil=>exact hx w0 vs _ v st' h
 | cons p t =>
  obtain ⟨k,s⟩:=p
  simp only [nxtC_ok] at h
  cases hb:Nat.beq k cnt with
  | true =>
   rw [hb,cond_true] at h
   split at h
   ·rename_i q hq
    obtain ⟨m',nx',h',rfl,h2⟩:=toldS_ok h
    intro hg
    have hp:q:=hg.1 _ (List.mem_cons_self ..)
    have H:=hx w0 vs _ v _ ((hP _ _ _ _ _ _ hq hp).trans h2)
    refine ⟨⟨fun p hp=>hg.1 p (List.mem_cons_of_mem _ hp),hg.2⟩,fun e w F us hR hvs=>?_⟩
    refine ((H ⟨nofun,nofun⟩).2 e w F us hR.xs hvs).mono fun en w' ⟨u,e',F',q1,q2,q3,q4⟩=>?_
    exact ⟨u,e',F',q1,q2,q3.xs,q4.xs⟩
   ·cases h
  | false =>
   rw [hb,cond_false] at h
   intro hg
   obtain ⟨g1,H⟩:=hx w0 vs _ v st' h hg
   refine ⟨g1,fun e w F us hR hvs=>?_⟩
   refine (H e w F us hR.xs hvs).mono fun en w' ⟨u,e',F',q1,q2,q3,q4⟩=>?_
   obtain ⟨m',nx',x'⟩:=st'
   exact ⟨u,e',F',q1,q2,q3,q4.xs⟩
def mkP (h:Hp) (k:Int) (nm:List UInt8) (n:Int) (l:List V) (v:SV) (h':Hp):Prop:=smallB h l.length=true∧(get h.all (wrap64 (h.last + 1))).isNone=true∧(h.make k nm n l).2.sv=v∧(h.make k nm n l).1=h'
def repP (h:Hp) (x:V) (a b:Int) (l:List V) (v:SV) (h':Hp):Prop:=smallB h l.length=true∧fitsB h x l.length=true∧SV.bool (h.replace x a b l).2=v∧(h.replace x a b l).1=h'
def at_ (h:Option (Nat × Hp)) (p:SV):Option Hp:=heapAt ⟨h,0,[],[],[]⟩ p
def pMake (vs:List SV) (m:T SB) (_:Nat) (h:Option (Nat × Hp)) (s:Sc):Option Prop:=match vs with
 | [p,a0,a1,a2,a3]=>match at_ h p with
  | some hh=>match toI a0 with
   | some k=>match toS a1 with
    | some nm=>match toI a2 with
     | some n=>match rowV m a3 with
      | some l=>match s with
       | .res v h'=>some (mkP hh k nm n l v h')
       | _=>none
      | none=>none
     | none=>none
    | none=>none
   | none=>none
  | none=>none
 | _=>none
def pReplace (vs:List SV) (m:T SB) (_:Nat) (h:Option (Nat × Hp)) (s:Sc):Option Prop:=match vs with
 | [p,a0,a1,a2,a3]=>match at_ h p with
  | some hh=>match toV a0 with
   | some x=>match toI a1 with
    | some a=>match toI a2 with
     | some b=>match rowV m a3 with
      | some l=>match s with
       | .res v h'=>some (repP hh x a b l v h')
       | _=>none
      | none=>none
     | none=>none
    | none=>none
   | none=>none
  | none=>none
 | _=>none
theorem pMake_ok:∀ vs m nx h s p,pMake vs m nx h s=some p→p→xMake vs ⟨m,nx,⟨h,0,[],[],[]⟩⟩=toldS s ⟨m,nx,⟨h,0,[],[],[]⟩⟩:=by
 intro vs m nx h s p hp hq
 unfold pMake at hp
 split at hp<;>try (cases hp;done)
 split at hp<;>try (cases hp;done)
 split at hp<;>try (cases hp;done)
 split at hp<;>try (cases hp;done)
 split at hp<;>try (cases hp;done)
 split at hp<;>try (cases hp;done)
 split at hp<;>try (cases hp;done)
 rename_i e1 _ _ e2 _ _ e3 _ _ e4 _ _ e5 _ v h'
 cases hp
 obtain ⟨q1,q2,rfl,rfl⟩:=hq
 unfold at_ at e1
 simp only [xMake,e1,e2,e3,e4,e5,q1,q2,Bool.and_self,cond_true]
 rfl
theorem pReplace_ok:∀ vs m nx h s p,pReplace vs m nx h s=some p→p→xReplace vs ⟨m,nx,⟨h,0,[],[],[]⟩⟩=toldS s ⟨m,nx,⟨h,0,[],[],[]⟩⟩:=by
 intro vs m nx h s p hp hq
 unfold pReplace at hp
 split at hp<;>try (cases hp;done)
 split at hp<;>try (cases hp;done)
 split at hp<;>try (cases hp;done)
 split at hp<;>try (cases hp;done)
 split at hp<;>try (cases hp;done)
 split at hp<;>try (cases hp;done)
 split at hp<;>try (cases hp;done)
 rename_i e1 _ _ e2 _ _ e3 _ _ e4 _ _ e5 _ v h'
 cases hp
 obtain ⟨q1,q2,rfl,rfl⟩:=hq
 unfold at_ at e1
 simp only [xReplace,e1,e2,e3,e4,e5,q1,q2,Bool.and_self,cond_true]
 rfl
def pRow (f:Hp→V→List V) (vs:List SV) (_:T SB) (nx:Nat) (h:Option (Nat × Hp)) (s:Sc):Option Prop:=match vs with
 | [p,a0]=>match at_ h p with
  | some hh=>match toV a0 with
   | some x=>match s with
    | .row l=>bif Nat.blt nx TMax then some (f hh x=l) else none
    | _=>none
   | none=>none
  | none=>none
 | _=>none
theorem pItems_ok:∀ vs m nx h s p,pRow Hp.items vs m nx h s=some p→p→xItems vs ⟨m,nx,⟨h,0,[],[],[]⟩⟩=toldS s ⟨m,nx,⟨h,0,[],[],[]⟩⟩:=by
 intro vs m nx h s p hp hq
 unfold pRow at hp
 split at hp<;>try (cases hp;done)
 split at hp<;>try (cases hp;done)
 split at hp<;>try (cases hp;done)
 split at hp<;>try (cases hp;done)
 rename_i e1 _ _ e2 _ l
 cases hb:Nat.blt nx TMax with
 | false=>rw [hb] at hp;cases hp
 | true =>
  rw [hb,cond_true] at hp
  cases hp
  subst hq
  unfold at_ at e1
  simp only [xItems,e1,e2,hb,cond_true]
  rfl
theorem pKeys_ok:∀ vs m nx h s p,pRow Hp.keys vs m nx h s=some p→p→xKeys vs ⟨m,nx,⟨h,0,[],[],[]⟩⟩=toldS s ⟨m,nx,⟨h,0,[],[],[]⟩⟩:=by
 intro vs m nx h s p hp hq
 unfold pRow at hp
 split at hp<;>try (cases hp;done)
 split at hp<;>try (cases hp;done)
 split at hp<;>try (cases hp;done)
 split at hp<;>try (cases hp;done)
 rename_i e1 _ _ e2 _ l
 cases hb:Nat.blt nx TMax with
 | false=>rw [hb] at hp;cases hp
 | true =>
  rw [hb,cond_true] at hp
  cases hp
  subst hq
  unfold at_ at e1
  simp only [xKeys,e1,e2,hb,cond_true]
  rfl
def extS:ExtT:=fun f=>bif Nat.beq f 23 then some (xToldG xMake pMake) else bif Nat.beq f 83 then some (xToldG xReplace pReplace) else
 bif Nat.beq f 116 then some (xToldG xItems (pRow Hp.items)) else bif Nat.beq f 153 then some (xToldG xKeys (pRow Hp.keys)) else extM f
theorem extS_one {k:Nat} {x y:ExtF} {g:ExtT} (h1:extP k y) (h2:∀ f h,g f=some h→extP f h):∀ f h,(bif Nat.beq f k then some y else g f)=some h→extP f h:=fun f h hf=>by
 cases hb:Nat.beq f k with
 | true=>rw [hb,cond_true] at hf;cases hf;obtain rfl:=Nat.eq_of_beq_eq_true hb;exact h1
 | false=>rw [hb,cond_false] at hf;exact h2 f h hf
theorem extS_told {k:Nat} {x:ExtF} {P:List SV→T SB→Nat→Option (Nat × Hp)→Sc→Option Prop} (hl:extL k=some x) (hP:∀ vs m nx h s p,P vs m nx h s=some p→p→x vs ⟨m,nx,⟨h,0,[],[],[]⟩⟩=toldS s ⟨m,nx,⟨h,0,[],[],[]⟩⟩):extP k (xToldG x P):=by
 obtain ⟨k1,k2⟩:=extL_ok _ _ hl
 exact ⟨k1,xToldG_ok hP k2⟩
theorem extS_ok:∀ f h,extS f=some h→extP f h :=
 extS_one (x:=xMake) (extS_told (by kernel_rfl) pMake_ok) (extS_one (x:=xReplace) (extS_told (by kernel_rfl) pReplace_ok) (extS_one (x:=xItems) (extS_told (by kernel_rfl) pItems_ok) (extS_one (x:=xKeys) (extS_told (by kernel_rfl) pKeys_ok) extM_ok)))
abbrev tRes (x:ExtF) (b:Nat) (h:Hp) (vs:List SV) (v:SV) (h':Hp):Prop:=toldP x (.ptr b 0 :: vs) (some (b,h)) (.res v h')
abbrev vr (n:Int):V:=⟨4,n,[]⟩
abbrev vt (v:V) (b:Bool):SV:=.tup [v.sv,.bool b]
theorem heapAt_b {b:Nat} {h:Hp} {c:Nat} {s:List (Nat × Sc)} {p:List Prop} {r:List (SV × SV)}:heapAt ⟨some (b,h),c,s,p,r⟩ (.ptr b 0)=some h:=by
 simp [heapAt]
theorem toV_sv (v:V):toV v.sv=some v:=rfl
theorem tKind {b:Nat} {h:Hp} {v:V} {k:Int} (e:h.kind v=k):tRes xKind b h [v.sv] (.int .i64 k) h:=fun m nx=>by
 subst e;simp only [xKind,heapAt_b,toV_sv];rfl
theorem tAt {b:Nat} {h:Hp} {v:V} {i:Int} {x:V} {o:Bool} (e:h.at v i=(x,o)):tRes xAt b h [v.sv,.int .i64 i] (vt x o) h:=fun m nx=>by
 simp only [xAt,heapAt_b,toV_sv,toI,e];rfl
theorem tGet {b:Nat} {h:Hp} {v k:V} {x:V} {o:Bool} (e:h.get v k=(x,o)):tRes xGet b h [v.sv,k.sv] (vt x o) h:=fun m nx=>by
 simp only [xGet,heapAt_b,toV_sv,e];rfl
theorem tPut {b:Nat} {h h':Hp} {v k x:V} {o:Bool} (hs:smallB h 2=true) (e:h.put v k x=(h',o)):tRes xPut b h [v.sv,k.sv,x.sv] (.bool o) h':=fun m nx=>by
 simp only [xPut,heapAt_b,toV_sv,hs,cond_true,e];rfl
end
section
open Go.RowKit
abbrev Obs:=List (Int × Ob)
def hZ (l:Obs) (n:Int):Hp:=Hp.nm ⟨l,fun _=>0,n⟩
theorem hZ_ok (l:Obs) (n:Int):RefsOk (hZ l n):=fun _=>rfl
theorem hZ_eq {h:Hp} {l:Obs} {n:Int} (r:RefsOk h) (ha:h.all=l) (hn:h.last=n):h=hZ l n:=by
 obtain ⟨a,f,m⟩:=h
 subst ha hn
 show Hp.mk a f m=Hp.mk a _ m
 congr 1
 exact funext r
structure HJ (l:Obs) (n:Int) (u:Nat):Prop where
 ids:∀ p∈l,p.1≤n
 lo:0≤n
 hi:n≤u
 sm:valsN l≤u
theorem HJ.up {l:Obs} {n:Int} {u v:Nat} (H:HJ l n u) (h:u≤v):HJ l n v:=⟨H.ids,H.lo,by have:=H.hi;omega,Nat.le_trans H.sm h⟩
abbrev uMax:Nat:=1000000
theorem HJ.small {l:Obs} {n:Int} {u:Nat} (H:HJ l n u) (hu:u≤uMax) {k:Nat} (hk:k≤uMax):smallB (hZ l n) k=true:=by
 have h:=H.sm
 simp only [uMax] at hu hk
 exact Nat.ble_eq_true_of_le (by show valsN l + k≤1000000000;omega)
theorem get_le {l:Obs} {n m:Int} (h:∀ p∈l,p.1≤n) (hm:n < m):get l m=none:=by
 induction l with
 | nil=>rfl
 | cons p t ih =>
  obtain ⟨k,v⟩:=p
  have h1:k≤n:=h _ (List.mem_cons_self ..)
  rw [get,if_neg (by omega)]
  exact ih fun p hp=>h p (List.mem_cons_of_mem _ hp)
theorem get_app_l {l t:Obs} {m:Int} {o:Ob} (h:get l m=some o):get (l++t) m=some o:=by
 induction l with
 | nil=>cases h
 | cons p l ih =>
  obtain ⟨k,v⟩:=p
  rw [List.cons_append]
  by_cases e:k=m
  ·rw [get,if_pos e] at h ⊢;exact h
  ·rw [get,if_neg e] at h ⊢;exact ih h
theorem get_app_r {l t:Obs} {m:Int} (h:get l m=none):get (l++t) m=get t m:=by
 induction l with
 | nil=>rfl
 | cons p l ih =>
  obtain ⟨k,v⟩:=p
  rw [List.cons_append]
  by_cases e:k=m
  ·rw [get,if_pos e] at h;cases h
  ·rw [get,if_neg e] at h ⊢;exact ih h
theorem put_app_r {l t:Obs} {m:Int} {o':Ob} (h:get l m=none):put (l++t) m o'=l++put t m o':=by
 induction l with
 | nil=>rfl
 | cons p l ih =>
  obtain ⟨k,v⟩:=p
  rw [List.cons_append,List.cons_append]
  by_cases e:k=m
  ·rw [get,if_pos e] at h;cases h
  ·rw [get,if_neg e] at h
   rw [put,if_neg e,ih h]
theorem HJ.next {l:Obs} {n:Int} {u:Nat} (H:HJ l n u):get l (n + 1)=none:=get_le H.ids (by omega)
theorem get_last {l:Obs} {n:Int} {u:Nat} (H:HJ l n u) (o:Ob):get (l++[(n + 1,o)]) (n + 1)=some o:=by
 rw [get_app_r H.next,get,if_pos rfl]
theorem put_last {l:Obs} {n:Int} {u:Nat} (H:HJ l n u) (o o':Ob):put (l++[(n + 1,o)]) (n + 1) o'=l++[(n + 1,o')]:=by
 rw [put_app_r H.next,put,if_pos rfl]
theorem valsN_app (a b:Obs):valsN (a++b)=valsN a + valsN b:=by
 induction a with
 | nil=>simp [valsN]
 | cons p t ih=>simp only [valsN,List.cons_append,List.foldr_cons] at ih ⊢;omega
theorem valsN_put {l:Obs} {m:Int} {o:Ob} (o':Ob) (h:get l m=some o):valsN (put l m o') + (o.items.length + o.d.length)=valsN l + (o'.items.length + o'.d.length):=by
 induction l with
 | nil=>cases h
 | cons p t ih =>
  obtain ⟨k,v⟩:=p
  by_cases e:k=m
  ·rw [get,if_pos e] at h;cases h
   rw [put,if_pos e];simp only [valsN,List.foldr_cons];omega
  ·rw [get,if_neg e] at h
   rw [put,if_neg e];have:=ih h;simp only [valsN,List.foldr_cons] at this ⊢;omega
theorem ids_put {l:Obs} {m n:Int} {o':Ob} (h:∀ p∈l,p.1≤n) (hm:m≤n):∀ p∈put l m o',p.1≤n:=by
 induction l with
 | nil=>intro p hp;rw [put] at hp;rcases List.mem_singleton.1 hp with rfl;exact hm
 | cons q t ih =>
  obtain ⟨k,v⟩:=q
  have h1:k≤n:=h _ (List.mem_cons_self ..)
  have h2:=ih fun p hp=>h p (List.mem_cons_of_mem _ hp)
  by_cases e:k=m
  ·rw [put,if_pos e];intro p hp
   rcases List.mem_cons.1 hp with rfl | hp
   ·exact h1
   ·exact h p (List.mem_cons_of_mem _ hp)
  ·rw [put,if_neg e];intro p hp
   rcases List.mem_cons.1 hp with rfl | hp
   ·exact h1
   ·exact h2 p hp
theorem get_id {l:Obs} {m n:Int} {o:Ob} (h:∀ p∈l,p.1≤n) (hg:get l m=some o):m≤n:=by
 by_cases hl:n < m
 ·rw [get_le h hl] at hg;cases hg
 ·omega
theorem HJ.add {l:Obs} {n:Int} {u:Nat} (H:HJ l n u) (o:Ob) {v:Nat} (hv:u + 1 + o.items.length + o.d.length≤v):HJ (l++[(n + 1,o)]) (n + 1) v:=by
 have h1:=H.lo
 have h2:=H.hi
 have h3:=H.sm
 refine ⟨fun p hp=>?_,by omega,by omega,?_⟩
 ·rcases List.mem_append.1 hp with hp | hp
  ·have:=H.ids p hp;omega
  ·rcases List.mem_singleton.1 hp with rfl;exact Int.le_refl _
 ·rw [valsN_app];simp only [valsN,List.foldr_cons,List.foldr_nil] at h3 ⊢;omega
theorem HJ.set {l:Obs} {n m:Int} {u:Nat} {o:Ob} (H:HJ l n u) (hg:get l m=some o) (o':Ob) {v:Nat} (hv:u + o'.items.length + o'.d.length≤v + o.items.length + o.d.length) (huv:u≤v):HJ (put l m o') n v:=by
 have h2:=H.hi
 have h3:=H.sm
 refine ⟨ids_put H.ids (get_id H.ids hg),H.lo,by omega,?_⟩
 have:=valsN_put o' hg
 omega
section
variable {l l':Obs} {n:Int} {u b:Nat}
theorem tMk (H:HJ l n u) (hu:u≤uMax) {k m:Int} {nm:List UInt8} {xs:List V} (hk:1≤k∧k≤12) (hx:xs.length≤uMax):mkP (hZ l n) k nm m xs (vr (n + 1)).sv (hZ (l++[(n + 1,⟨k,nm,m,xs,[]⟩)]) (n + 1)):=by
 have h1:=H.lo
 have h2:=H.hi
 have hw:wrap64 (n + 1)=n + 1:=by simp only [uMax] at hu;unfold wrap64;omega
 have hf:(get (hZ l n).all (wrap64 ((hZ l n).last + 1))).isNone=true:=by
  show (get l (wrap64 (n + 1))).isNone=true
  rw [hw,H.next];rfl
 have hm:(hZ l n).make k nm m xs=({ all:=put l (wrap64 (n + 1)) ⟨k,nm,m,xs,[]⟩,refs:=hold 1 (hZ l n).refs xs,last:=wrap64 (n + 1) },vref (wrap64 (n + 1))):=by
  unfold Hp.make
  rw [if_pos hk];rfl
 refine ⟨H.small hu hx,hf,by rw [hm,hw],?_⟩
 have hr:=RefsOk.make (hZ_ok l n) (kind:=k) (name:=nm) (n:=m) (H.small hu hx) hf
 refine hZ_eq hr ?_ ?_
 ·rw [hm];show put l _ _=_;rw [hw,put_new H.next]
 ·rw [hm];exact hw
theorem of_vr {m:Int}:(hZ l n).of (vr m)=get l m:=by
 unfold Hp.of
 rw [if_pos rfl];rfl
variable {m:Int} {o:Ob}
theorem zKind (e:get l m=some o) {k:Int} (hk:o.kind=k):tRes xKind b (hZ l n) [(vr m).sv] (.int .i64 k) (hZ l n):=tKind (by unfold Hp.kind;rw [of_vr,e];exact hk)
theorem zAt (e:get l m=some o) {i:Nat} {x:V} (hx:o.items[i]?=some x):tRes xAt b (hZ l n) [(vr m).sv,.int .i64 (Int.ofNat i)] (vt x true) (hZ l n):=tAt (by
 have hi:=(List.getElem?_eq_some_iff.1 hx).1
 unfold Hp.at;rw [of_vr,e]
 simp only
 rw [if_pos ⟨by simp,by simpa using hi⟩]
 congr 1
 simp [hx])
theorem zAtN (e:get l m=some o) {i:Int} (hi:i < 0∨(o.items.length:Int)≤i):tRes xAt b (hZ l n) [(vr m).sv,.int .i64 i] (vt V.nil false) (hZ l n):=tAt (by
 unfold Hp.at;rw [of_vr,e]
 simp only
 rw [if_neg (by omega)])
theorem zGet (e:get l m=some o) {k x:V} (hx:W.get o.d k=some x):tRes xGet b (hZ l n) [(vr m).sv,k.sv] (vt x true) (hZ l n):=tGet (by
 unfold Hp.get;rw [of_vr,e];simp only [hx];rfl)
theorem zPut (H:HJ l n u) (hu:u≤uMax) (e:get l m=some o) {k x:V} (hd:dputB o.d k=true) (hl:put l m { o with d:=W.put o.d k x }=l'):tRes xPut b (hZ l n) [(vr m).sv,k.sv,x.sv] (.bool true) (hZ l' n):=by
 have hs:smallB (hZ l n) 2=true:=H.small hu (by simp [uMax])
 have key:(hZ l n).put (vr m) k x=(hZ l' n,true):=by
  have hr:=RefsOk.put (hZ_ok l n) (v:=vr m) (k:=k) (x:=x) hs
  have e1:((hZ l n).put (vr m) k x).2=true∧((hZ l n).put (vr m) k x).1.all=l'∧((hZ l n).put (vr m) k x).1.last=n:=by
   unfold Hp.put
   rw [of_vr,e]
   simp only [hd,if_true]
   exact ⟨trivial,hl,rfl⟩
  exact Prod.ext (hZ_eq hr e1.2.1 e1.2.2) e1.1
 exact tPut hs key
end
def o1 (arg:List V):Ob:=⟨2,[],0,arg,[]⟩
def o2 (nm:List UInt8) (c:Int) (d:Row):Ob:=⟨6,nm,0,[vr c],d⟩
abbrev sArgs:List UInt8:=[97,114,103,115]
def e1 (l:Obs) (n:Int) (arg:List V):Obs:=l++[(n + 1,o1 arg)]
def e2 (l:Obs) (n:Int) (arg:List V) (nm:List UInt8) (c:Int) (d:Row):Obs:=e1 l n arg++[(n + 1 + 1,o2 nm c d)]
abbrev e3 (l:Obs) (n:Int) (arg:List V) (nm:List UInt8) (c:Int):Obs:=e2 l n arg nm c [(vstr sArgs,vr (n + 1))]
section
variable {l:Obs} {n:Int} {u b:Nat} {arg:List V} {nm:List UInt8} {c:Int} {d:Row}
theorem HJ.e1 (H:HJ l n u) (ha:arg.length≤1):HJ (E.e1 l n arg) (n + 1) (u + 2):=H.add _ (by simp only [o1,List.length_nil];omega)
theorem HJ.e2 (H:HJ l n u) (ha:arg.length≤1) (hd:d.length≤1):HJ (E.e2 l n arg nm c d) (n + 1 + 1) (u + 5):=(H.e1 ha).add _ (by simp only [o2,List.length_cons,List.length_nil];omega)
theorem xE1 (H:HJ l n u) (hu:u + 5≤uMax) (ha:arg.length≤1):mkP (hZ l n) 2 [] 0 arg (vr (n + 1)).sv (hZ (E.e1 l n arg) (n + 1)):=tMk H (by omega) ⟨by decide,by decide⟩ (by simp only [uMax];omega)
theorem xE2 (H:HJ l n u) (hu:u + 5≤uMax) (ha:arg.length≤1):mkP (hZ (E.e1 l n arg) (n + 1)) 6 nm 0 [vr c] (vr (n + 1 + 1)).sv (hZ (E.e2 l n arg nm c []) (n + 1 + 1)):=tMk (H.e1 ha) (by omega) ⟨by decide,by decide⟩ (by simp [uMax])
theorem gE2 (H:HJ l n u) (ha:arg.length≤1):get (E.e2 l n arg nm c d) (n + 1 + 1)=some (o2 nm c d):=get_last (H.e1 ha) _
theorem gE1 (H:HJ l n u) (ha:arg.length≤1):get (E.e2 l n arg nm c d) (n + 1)=some (o1 arg):=get_app_l (get_last H _)
theorem xE3 (H:HJ l n u) (hu:u + 5≤uMax) (ha:arg.length≤1):tRes xPut b (hZ (E.e2 l n arg nm c []) (n + 1 + 1)) [(vr (n + 1 + 1)).sv,(vstr sArgs).sv,(vr (n + 1)).sv] (.bool true) (hZ (e3 l n arg nm c) (n + 1 + 1)) :=
 zPut (H.e2 ha (by simp)) hu (gE2 H ha) (by rfl) (put_last (H.e1 ha) _ _)
end
end
section
set_option maxRecDepth 100000
open Go.RowKit
abbrev TL:=List (Nat × Sc × Prop)
def TL.sc:TL→List (Nat × Sc)
 | []=>[]
 | q :: t=>(q.1,q.2.1) :: TL.sc t
def TL.ps:TL→List Prop→List Prop
 | [],a=>a
 | q :: t,a=>TL.ps t (q.2.2 :: a)
def TL.ok:TL→Prop
 | []=>True
 | q :: t=>q.2.2∧TL.ok t
theorem TL.ps_all:∀ (t:TL) (a:List Prop),t.ok→AllP a→AllP (t.ps a)
 | [],a,_,h=>h
 | q :: t,a,h,ha=>TL.ps_all t (q.2.2 :: a) h.2 ⟨h.1,ha⟩
theorem TL.ok_app:∀ {t s:TL},t.ok→s.ok→TL.ok (t++s)
 | [],s,_,h=>h
 | q :: t,s,h,hs=>⟨h.1,TL.ok_app (t:=t) h.2 hs⟩
noncomputable abbrev goS (fo:Nat→Option (List SV)) (f N:Nat) (l:List Code) (s:SS):ExR HX:=runL extS fo 100000 100 f N l s.1 s.2
abbrev QT (fo:Nat→Option (List SV)) (f N:Nat) (live:Live) (keep:List Nat) (nx:Nat) (l:List Code) (s s2:SS) (x:Ex) (tl:TL):Prop :=
 outC live keep nx (goS fo f N l (s.tell tl.sc))=outD x s2.1 s2.2 (tl.ps []) (goS fo f N l (s.tell tl.sc))
theorem QT.code {w0:B0} {fo:Nat→Option (List SV)} {fn:Nat} (hH:Hd w0 fo fn) {f N:Nat} {live:Live} {keep:List Nat} {nx:Nat} {l:List Code} {s s2:SS} {x:Ex} {tl:TL}
  (h:QT fo f N live keep nx l s s2 x tl) (hp:(l.all fun c=>planOkC (plan f) c)=true) (ht:tl.ok) (hid:∀ b,b < fn→(b,b)∈live) :
  CodeL w0 N l s.1 s.2 (fun x' tm' st'=>x'=x∧tm'=s2.1∧st'=s2.2):=by
 obtain ⟨tm,m,nx0,hx⟩:=s
 exact CodeL.sc (x':=⟨hx.h,0,tl.sc,[],[]⟩) rfl (CodeL.runG hH extS_ok hp h (TL.ps_all tl [] ht trivial) hid)
abbrev QE (fo:Nat→Option (List SV)) (f N:Nat) (rs:Array ResultVar) (l:List Code) (s:SS) (tl:TL):Prop:=endC rs (goS fo f N l (s.tell tl.sc))=endD (tl.ps []) (goS fo f N l (s.tell tl.sc))
theorem QE.code {w0:B0} {fo:Nat→Option (List SV)} {fn:Nat} (hH:Hd w0 fo fn) {f N:Nat} {rs:Array ResultVar} {l:List Code} {s:SS} {tl:TL}
  (h:QE fo f N rs l s tl) (hp:(l.all fun c=>planOkC (plan f) c)=true) (ht:tl.ok) :
  CodeL w0 N l s.1 s.2 (fun x tm' st'=>(x=.normal∨x=.ret)∧resS Tryz.prog st'.m tm' rs=some (.bool true)):=by
 obtain ⟨tm,m,nx0,hx⟩:=s
 exact CodeL.sc (x':=⟨hx.h,0,tl.sc,[],[]⟩) rfl (CodeL.runE hH extS_ok hp h (TL.ps_all tl [] ht trivial))
abbrev QA (fo:Nat→Option (List SV)) (f N:Nat) (live:Live) (keep:List Nat) (nx:Nat) (l:List Code) (is:List Nat) (s s2:Nat→SS) (x:Ex) (tl:Nat→TL):Prop :=
 (is.map fun i=>outC live keep nx (goS fo f N l ((s i).tell (tl i).sc)))=is.map fun i=>outD x (s2 i).1 (s2 i).2 ((tl i).ps []) (goS fo f N l ((s i).tell (tl i).sc))
theorem QA.at {fo:Nat→Option (List SV)} {f N:Nat} {live:Live} {keep:List Nat} {nx:Nat} {l:List Code} {is:List Nat} {s s2:Nat→SS} {x:Ex} {tl:Nat→TL} (h:QA fo f N live keep nx l is s s2 x tl) {i:Nat} (hi:i∈is):QT fo f N live keep nx l (s i) (s2 i) x (tl i):=List.map_inj_left.1 h i hi
abbrev TE:=Nat × Sc × Prop
def qI (o:Nat) (u:Option SV) (v:SV):TE:=(o,.val v,u=some v)
def qKind (o b:Nat) (l:Obs) (n m k:Int):TE:=(o,.res (.int .i64 k) (hZ l n),tRes xKind b (hZ l n) [(vr m).sv] (.int .i64 k) (hZ l n))
def qAt (o b:Nat) (l:Obs) (n m i:Int) (x:V) (t:Bool):TE:=(o,.res (vt x t) (hZ l n),tRes xAt b (hZ l n) [(vr m).sv,.int .i64 i] (vt x t) (hZ l n))
def qGet (o b:Nat) (l:Obs) (n m:Int) (k x:V) (t:Bool):TE:=(o,.res (vt x t) (hZ l n),tRes xGet b (hZ l n) [(vr m).sv,k.sv] (vt x t) (hZ l n))
def qPut (o b:Nat) (l:Obs) (n m:Int) (k x:V) (l':Obs):TE:=(o,.res (.bool true) (hZ l' n),tRes xPut b (hZ l n) [(vr m).sv,k.sv,x.sv] (.bool true) (hZ l' n))
def qRaise (o p q b:Nat) (l:Obs) (n:Int) (arg:List V) (nm:List UInt8) (c:Int):TL :=
  [(o,.res (vr (n + 1)).sv (hZ (e1 l n arg) (n + 1)),mkP (hZ l n) 2 [] 0 arg (vr (n + 1)).sv (hZ (e1 l n arg) (n + 1))),
   (p,.res (vr (n + 1 + 1)).sv (hZ (e2 l n arg nm c []) (n + 1 + 1)),mkP (hZ (e1 l n arg) (n + 1)) 6 nm 0 [vr c] (vr (n + 1 + 1)).sv (hZ (e2 l n arg nm c []) (n + 1 + 1))),
   qPut q b (e2 l n arg nm c []) (n + 1 + 1) (n + 1 + 1) (vstr sArgs) (vr (n + 1)) (e3 l n arg nm c)]
theorem qRaise_ok {o p q b:Nat} {l:Obs} {n:Int} {u:Nat} {arg:List V} {nm:List UInt8} {c:Int} (H:HJ l n u) (hu:u + 5≤uMax) (ha:arg.length≤1):(qRaise o p q b l n arg nm c).ok:=⟨xE1 H hu ha,xE2 H hu ha,xE3 H hu ha,trivial⟩
def bA:Obs:=[(2,⟨5,[69,120,99,101,112,116,105,111,110],0,[],[]⟩),
 (3,⟨5,[76,111,111,107,117,112,69,114,114,111,114],0,[vr 2],[]⟩),
 (4,⟨5,[73,110,100,101,120,69,114,114,111,114],0,[vr 3,vr 2],[]⟩),
 (5,⟨5,[75,101,121,69,114,114,111,114],0,[vr 3,vr 2],[]⟩),
 (6,⟨5,[65,114,105,116,104,109,101,116,105,99,69,114,114,111,114],0,[vr 2],[]⟩),
 (7,⟨5,[90,101,114,111,68,105,118,105,115,105,111,110,69,114,114,111,114],0,[vr 6,vr 2],[]⟩),
 (8,⟨5,[79,118,101,114,102,108,111,119,69,114,114,111,114],0,[vr 6,vr 2],[]⟩),
 (9,⟨5,[84,121,112,101,69,114,114,111,114],0,[vr 2],[]⟩),
 (10,⟨5,[86,97,108,117,101,69,114,114,111,114],0,[vr 2],[]⟩),
 (11,⟨5,[78,97,109,101,69,114,114,111,114],0,[vr 2],[]⟩),
 (12,⟨5,[85,110,98,111,117,110,100,76,111,99,97,108,69,114,114,111,114],0,[vr 11,vr 2],[]⟩),
 (13,⟨5,[65,116,116,114,105,98,117,116,101,69,114,114,111,114],0,[vr 2],[]⟩),
 (14,⟨5,[83,116,111,112,73,116,101,114,97,116,105,111,110],0,[vr 2],[]⟩),
 (15,⟨5,[82,117,110,116,105,109,101,69,114,114,111,114],0,[vr 2],[]⟩),
 (16,⟨5,[82,101,99,117,114,115,105,111,110,69,114,114,111,114],0,[vr 15,vr 2],[]⟩),
 (17,⟨5,[65,115,115,101,114,116,105,111,110,69,114,114,111,114],0,[vr 2],[]⟩),
 (18,⟨5,[77,101,109,111,114,121,69,114,114,111,114],0,[vr 2],[]⟩),
 (19,⟨12,[101,120,99,101,112,116,105,111,110,115],0,[],[(vstr [69,120,99,101,112,116,105,111,110],vr 2),(vstr [76,111,111,107,117,112,69,114,114,111,114],vr 3),(vstr [73,110,100,101,120,69,114,114,111,114],vr 4),(vstr [75,101,121,69,114,114,111,114],vr 5),(vstr [65,114,105,116,104,109,101,116,105,99,69,114,114,111,114],vr 6),(vstr [90,101,114,111,68,105,118,105,115,105,111,110,69,114,114,111,114],vr 7),(vstr [79,118,101,114,102,108,111,119,69,114,114,111,114],vr 8),(vstr [84,121,112,101,69,114,114,111,114],vr 9),(vstr [86,97,108,117,101,69,114,114,111,114],vr 10),(vstr [78,97,109,101,69,114,114,111,114],vr 11),(vstr [85,110,98,111,117,110,100,76,111,99,97,108,69,114,114,111,114],vr 12),(vstr [65,116,116,114,105,98,117,116,101,69,114,114,111,114],vr 13),(vstr [83,116,111,112,73,116,101,114,97,116,105,111,110],vr 14),(vstr [82,117,110,116,105,109,101,69,114,114,111,114],vr 15),(vstr [82,101,99,117,114,115,105,111,110,69,114,114,111,114],vr 16),(vstr [65,115,115,101,114,116,105,111,110,69,114,114,111,114],vr 17),(vstr [77,101,109,111,114,121,69,114,114,111,114],vr 18)]⟩)]
def lZ (D:Row) (z:Obs):Obs:=bA++((20,⟨12,[109,97,105,110],0,[],D⟩) :: z)
theorem lZ_app (D:Row) (z y:Obs):lZ D z++y=lZ D (z++y):=by
 unfold lZ;rw [List.append_assoc];rfl
theorem HJ.zero:HJ (lZ [] []) 20 100:=⟨by
 have h:((lZ [] []).all fun p=>decide (p.1≤20))=true:=by kernel_rfl
 exact fun p hp=>by simpa using List.all_eq_true.1 h p hp,by decide,by decide,zB (by kernel_rfl)⟩
end
end Go.Proofs.YtlbcbikplfocfaaGreatDoor.W.E
