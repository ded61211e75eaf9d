/- Abs Mem Lw Lw2 CoA Srt CoB CoC CoD CoE CoF -/
import Derived.Lib.Hide
import Derived.Test.YtlbcbikplfocfaaGreatDoorProg
import Derived.WalkKit
import Derived.BigQuiet
import Derived.Deep.QuietTactic
import Derived.Deep.Draws
import Derived.Outline
import Derived.Laws.AppendOwn
import Derived.Laws.OwnMore
import Derived.Maps.AppendAt
import Derived.RangeFuncBox
import Derived.Sort.OwnSortedInts
import Derived.Sort.EveryDepth
import Derived.Shelf.SlGeneric
import Derived.Shelf.SortM.AssemblyIn
import Derived.Ground.SlgmProg
import Derived.Maps.RangeRun
import Derived.Test.YtlbcbikplfocfaaGreatDoorEvB
import Derived.Test.YtlbcbikplfocfaaGreatDoorEvR2
import Derived.Test.YtlbcbikplfocfaaGreatDoorObjD
import Derived.Test.YtlbcbikplfocfaaGreatDoorPart0
import Derived.Test.YtlbcbikplfocfaaGreatDoorPart1
import Derived.Test.YtlbcbikplfocfaaGreatDoorPart10
import Derived.Test.YtlbcbikplfocfaaGreatDoorPart11
import Derived.Test.YtlbcbikplfocfaaGreatDoorPart12
import Derived.Test.YtlbcbikplfocfaaGreatDoorPart13
import Derived.Test.YtlbcbikplfocfaaGreatDoorPart14
import Derived.Test.YtlbcbikplfocfaaGreatDoorPart15
import Derived.Test.YtlbcbikplfocfaaGreatDoorPart16
import Derived.Test.YtlbcbikplfocfaaGreatDoorPart17
import Derived.Test.YtlbcbikplfocfaaGreatDoorPart18
import Derived.Test.YtlbcbikplfocfaaGreatDoorPart19
import Derived.Test.YtlbcbikplfocfaaGreatDoorPart2
import Derived.Test.YtlbcbikplfocfaaGreatDoorPart20
import Derived.Test.YtlbcbikplfocfaaGreatDoorPart21
import Derived.Test.YtlbcbikplfocfaaGreatDoorPart22
import Derived.Test.YtlbcbikplfocfaaGreatDoorPart24
import Derived.Test.YtlbcbikplfocfaaGreatDoorPart25
import Derived.Test.YtlbcbikplfocfaaGreatDoorPart26
import Derived.Test.YtlbcbikplfocfaaGreatDoorPart4
import Derived.Test.YtlbcbikplfocfaaGreatDoorPart6
import Derived.Test.YtlbcbikplfocfaaGreatDoorPart7
import Derived.Test.YtlbcbikplfocfaaGreatDoorPart8
import Derived.Test.YtlbcbikplfocfaaGreatDoorPart9
set_option linter.unusedVariables false
set_option linter.unusedSimpArgs false
namespace Go.Proofs.YtlbcbikplfocfaaGreatDoor.W
section
open Go.RowKit
def Hp.count (h:Hp) (v:V):Int:=match h.of v with | some _=>h.refs v.n | none=>0
def Hp.refsOf (h:Hp) (v:V):List Int:=match h.of v with | some o=>(o.values.filter fun x=>(h.of x).isSome).map (·.n) | none=>[]
end
section
open Go.RowKit
section
variable {B:Nat} {F F1 F2:Nat→Prop} {a w w1 w2:World}
theorem Loc.cell {b:Nat} (h:Loc F w b) (k:Step w.heap.size F w w1 F1) (o:Nat):w1.cell? ⟨b,o,none⟩=w.cell? ⟨b,o,none⟩:=World.cell?_of_block (w:=w) (a:=⟨b,o,none⟩) (h.block k)
end
end
end Go.Proofs.YtlbcbikplfocfaaGreatDoor.W
namespace Go.Proofs.YtlbcbikplfocfaaGreatDoor.W.E
section
set_option maxRecDepth 100000
open Go.RowKit
def LawT (f:Nat) (us:List Value):Prop:=∀ w,Gl w→Calls Tryz.prog f ⟨us⟩ w fun en w'=>en=.returned (.bool true)∧Bl w w'
def modI (d m:Int):Int:=Int.tmod (andI d 65535) m
theorem modI_eq (d m:Int):modI d m=d % 65536 % m:=by
 unfold modI
 rw [andI_ffff]
 exact Int.tmod_eq_emod_of_nonneg (Int.emod_nonneg _ (by omega))
end
section
open Go.RowKit
abbrev Tab:=List (SV × SV)
abbrev Scr:=List (Nat × Nat)
def scOf (tab:Tab):Scr→List (Nat × Sc)
 | []=>[]
 | p :: t=>match tab[p.2]? with
  | some q=>(p.1,.val q.2) :: scOf tab t
  | none=>[]
def psOf (tab:Tab):Scr→List Prop→List Prop
 | [],acc=>acc
 | p :: t,acc=>match tab[p.2]? with
  | some q=>psOf tab t ((some q.1=some q.2) :: acc)
  | none=>acc
theorem psOf_all {tab:Tab} (h:∀ q∈tab,q.1=q.2):∀ (s:Scr) (acc:List Prop),AllP acc→AllP (psOf tab s acc)
 | [],acc,ha=>ha
 | p :: t,acc,ha=>by
  unfold psOf
  split
  ·rename_i q hq
   exact psOf_all h t _ ⟨congrArg some (h q (List.mem_of_getElem? hq)),ha⟩
  ·exact ha
def tI (n m:Int):SV × SV:=(.int .i64 n,.int .i64 m)
theorem tI_ok {n m:Int} (h:n=m):(tI n m).1=(tI n m).2:=congrArg (SV.int .i64) h
theorem tab_nil:∀ q∈([]:Tab),q.1=q.2:=nofun
theorem tab_cons {n m:Int} {t:Tab} (h:n=m) (ht:∀ q∈t,q.1=q.2):∀ q∈tI n m :: t,q.1=q.2:=fun q hq=>by
 rcases List.mem_cons.1 hq with rfl | hq
 ·exact tI_ok h
 ·exact ht q hq
end
end Go.Proofs.YtlbcbikplfocfaaGreatDoor.W.E
namespace Go.Proofs.YtlbcbikplfocfaaGreatDoor.W
section
open Go.RowKit
theorem count_any (w:World) (hp:Nat) (h:Hp) (F:Foot) (r:HR w hp h F) (v:V) :
  Calls Tryz.prog 272 #[.pointer (some ⟨hp,0,none⟩),v.agg] w fun e w'=>e=.returned (.int .i64 (h.count v))∧Bl w w':=by
 rcases r.case v with ⟨h0,co⟩ | ⟨L,c,r,hc,hn,hk,h1,co⟩
 ·have e1:h.count v=0:=by unfold Hp.count;rw [h0]
  rw [e1]
  clear e1 h0 r
  go_enter Tryz.func272,Tryz.ntmps272
  go_wp2_with fail
  refine (co _ (by (repeat (first | exact qA _ | assumption | refine qB ?_ _ | refine qC ?_ | refine qD ?_ _ | refine qE ?_ _ (by simp<;>omega) _)))).mono ?_
  rintro e W1 ⟨rfl,hb1⟩
  go_wp2
  go_ret
  exact ⟨rfl,(Bl.trans (by (repeat (first | exact qA _ | assumption | refine qB ?_ _ | refine qC ?_ | refine qD ?_ _ | refine qE ?_ _ (by simp<;>omega) _))) hb1)⟩
 ·have e1:h.count v=h.refs v.n:=by unfold Hp.count;rw [h1]
  rw [e1]
  have HRR:=zH r
  clear e1 h1 hn hk hc
  go_enter Tryz.func272,Tryz.ntmps272
  go_wp2_with fail
  refine (co _ (by (repeat (first | exact qA _ | assumption | refine qB ?_ _ | refine qC ?_ | refine qD ?_ _ | refine qE ?_ _ (by simp<;>omega) _)))).mono ?_
  rintro e W1 ⟨rfl,hb1⟩
  have hbb:Bl w W1:=Bl.trans (by (repeat (first | exact qA _ | assumption | refine qB ?_ _ | refine qC ?_ | refine qD ?_ _ | refine qE ?_ _ (by simp<;>omega) _))) hb1
  have r1:=HRR.out.bl hbb
  obtain ⟨⟨f1,f2,f3⟩,f4,f5,f6,f7⟩:=r1.head
  have lr:∀ n,(Instr.lookup 76 (.map (some L.rm)) (.int .i64 v.n) false).run Tryz.prog (W1.drewN n)=.ok (.int .i64 (h.refs v.n)) (W1.drewN n):=fun n=>r1.lookR v.n (W1.drewN n) rfl
  obtain ⟨z0,z1,z2,-⟩:=hb1.three (MapKept.heap_alloc w (.cells v.ca 27)).1
  have HB:=zH hbb
  clear r1 r hbb f1 f3 f4
  go_wp2
  go_quiet (fail)
  go_wp2
  go_ret
  exact ⟨rfl,(HB.out.trans (Bl.drn _ _))⟩
theorem Tryz.results273:Tryz.f273.results=#[.cell 2 27]:=by kernel_rfl
theorem cref_any (w:World) (n:Int):Calls Tryz.prog 273 #[.int .i64 n] w fun e w'=>e=.returned (vref n).agg∧Bl w w':=by
 go_enter Tryz.func273,Tryz.ntmps273
 go_wp2
 refine bodyPost_ret (v:=(vref n).agg) (by simp [results,Tryz.results273,go_sem]) rfl ⟨rfl,?_⟩
 (repeat (first | exact qA _ | assumption | refine qB ?_ _ | refine qC ?_ | refine qD ?_ _ | refine qE ?_ _ (by simp<;>omega) _))
abbrev Own (w:World) (base:Nat) (v:Value) (l:List Int):Prop:=w.ownsRow base 2 1 v l.length (ints l)
theorem Own.keep {W W':World} {base:Nat} {v:Value} {l:List Int} (h:Own W base v l) (hk:∀ b,v.ownBlock=some b→W'.heap[b]?=W.heap[b]?):Own W' base v l :=
 ⟨h.1,h.2.elim .inl fun ⟨g,cap,cur,e,h0,hg,r⟩=>.inr ⟨g,cap,cur,e,h0,(hk g (by rw [e];rfl)).trans hg,r⟩⟩
theorem Own.bl {W W':World} {base:Nat} {v:Value} {l:List Int} (h:Own W base v l) (hb:Bl W W'):Own W' base v l:=h.keep fun _ hb2=>hb.at (h.lt _ hb2).2
theorem Own.nil (W:World) (base:Nat):Own W base (.slice none 0 0) []:=World.ownsRow_nil _ _ _ _
theorem Own.base {W:World} {base base':Nat} {v:Value} {l:List Int} (h:Own W base v l) (hb:base'≤base):Own W base' v l :=
 ⟨h.1,h.2.elim .inl fun ⟨g,cap,cur,e,h0,r⟩=>.inr ⟨g,cap,cur,e,Nat.le_trans hb h0,r⟩⟩
theorem Own.form {W:World} {base:Nat} {v:Value} {l:List Int} (h:Own W base v l):∃ a c,v=.slice a l.length c∧(0 < l.length→∃ g,a=some ⟨g,0,none⟩∧base≤g∧g < W.heap.size∧∀ (j:Nat) (n:Int),l[j]?=some n→W.cell? ⟨g,j,none⟩=some (.int .i64 n)):=by
 rcases h.2 with ⟨rfl,hz⟩ | ⟨g,cap,cur,rfl,h0,hg,-⟩
 ·exact ⟨none,0,by rw [hz],fun h=>by omega⟩
 ·refine ⟨_,_,rfl,fun _=>⟨g,rfl,h0,(zN hg).1,fun j n hj=>?_⟩⟩
  have hlt:=(List.getElem?_eq_some_iff.1 hj).1
  have e1:=World.ownsRow.cellAt h j (by omega)
  rw [e1]
  simp [ints,List.getElem?_map,hj]
theorem Own.appB {W:World} {base:Nat} {v:Value} {l:List Int} (hbs:base≤W.heap.size) (h:Own W base v l) (n:Int) (hl:l.length≤4398046511104) :
  ∃ g' cap' W',(∀ ty,(Builtin.append_ #[156,156] ty #[v,.slice (some ⟨W.heap.size,0,none⟩) 1 1]).run Tryz.prog (W.alloc (.cells #[.int .i64 n] 2))=.ok (.slice (some ⟨g',0,none⟩) (l.length + 1) cap') W') ∧
   Own W' base (.slice (some ⟨g',0,none⟩) (l.length + 1) cap') (l++[n])∧Below base W W'∧W.heap.size < W'.heap.size∧base≤g'∧(∀ b,b < W.heap.size→v.ownBlock≠some b→W'.heap[b]?=W.heap[b]?∧b≠g'):=by
 obtain ⟨i0,hi,hz0,hz1,hz2⟩:=info_parts Tryz.infoI
 have hown:W.ownsRow 0 2 1 v l.length (ints l):=Own.base h (Nat.zero_le _)
 obtain ⟨v',w4,hap,ho,hgrow,hblk⟩:=run_app (P:=Tryz.prog) (W.alloc (.cells #[.int .i64 n] 2)) 156 156 2 i0 _ 1 8 Tryz.underlying156 hi hz0 hz1 hz2 rfl (by decide) v l.length (ints l) (hown.alloc _) ⟨W.heap.size,0,none⟩ 1 1 [.int .i64 n] rfl (by
  intro j u h;rw [Addr.add_lit,Nat.zero_add,cell_of (MapKept.heap_alloc W _).1];simpa using h) (by intro u hu;simp at hu;rw [hu];rfl) (by unfold maxLen;omega) (by omega)
 obtain ⟨g',cap',rfl⟩:=ownsRow_succ ho
 have hz:=hgrow.size
 rw [zL] at hz
 have hg':v.ownBlock=some g'∨W.heap.size + 1≤g':=by
  rcases hblk with e | ⟨g2,e,h2⟩
  ·exact .inl (e.symm.trans rfl)
  ·simp [Value.ownBlock] at e;rw [zL] at h2;exact .inr (by omega)
 have hbg:base≤g':=by
  rcases hg' with e | h1
  ·exact (h.lt g' e).1
  ·omega
 have h4:∀ b,b < W.heap.size→v.ownBlock≠some b→w4.heap[b]?=W.heap[b]?:=fun b h1 h2 =>
  (hgrow.block b (by rw [zL];omega) (fun e=>h2 e.symm)).trans (Below.heap_alloc W _ b h1)
 refine ⟨g',cap',w4,fun ty=>?_,?_,⟨hgrow.os,hgrow.tape,hgrow.output,by omega,fun b hb1=>?_⟩,by omega,hbg,fun b h1 h2=>⟨h4 b h1 h2,?_⟩⟩
 ·exact hap
 ·have e:(l++[n]).length=l.length + 1:=by simp
  rcases ho.2 with ⟨e1,-⟩ | ⟨g,cap,cur,e1,-,hg,r⟩
  ·cases e1
  ·cases e1
   refine ⟨by simp [ints],.inr ⟨g',cap',cur,by rw [e],hbg,hg,?_⟩⟩
   rw [e]
   simpa [ints] using r
 ·have h1:¬ v.ownBlock=some b:=fun e=>by have:=(h.lt b e).1;omega
  exact h4 b (by omega) h1
 ·rintro rfl
  rcases hg' with e | h3
  ·exact h2 e
  ·omega
theorem Own.app {w W:World} {v:Value} {l:List Int} (hb:Bl w W) (h:Own W w.heap.size v l) (n:Int) (hl:l.length≤4398046511104) :
  ∃ g' cap' W',(∀ ty,(Builtin.append_ #[156,156] ty #[v,.slice (some ⟨W.heap.size,0,none⟩) 1 1]).run Tryz.prog (W.alloc (.cells #[.int .i64 n] 2))=.ok (.slice (some ⟨g',0,none⟩) (l.length + 1) cap') W') ∧
   Own W' w.heap.size (.slice (some ⟨g',0,none⟩) (l.length + 1) cap') (l++[n])∧Bl w W'∧W.heap.size < W'.heap.size∧(∀ b,b < W.heap.size→v.ownBlock≠some b→W'.heap[b]?=W.heap[b]?∧b≠g'):=by
 obtain ⟨g',cap',W',h1,h2,h3,h4,-,h5⟩:=Own.appB hb.sz h n hl
 exact ⟨g',cap',W',h1,h2,Below.trans hb h3,h4,h5⟩
def Hp.refsIn (h:Hp) (l:List V):List Int:=(l.filter fun x=>(h.of x).isSome).map (·.n)
theorem refsIn_take {h:Hp} {l:List V} {j:Nat} {y:V} (hy:l[j]?=some y):h.refsIn (l.take (j + 1))=h.refsIn (l.take j)++if (h.of y).isSome then [y.n] else []:=by
 unfold Hp.refsIn
 rw [List.take_add_one,hy,List.filter_append,List.map_append]
 congr 1
 cases h1:(h.of y).isSome<;>simp [h1]
theorem refsIn_len (h:Hp) (l:List V):(h.refsIn l).length≤l.length:=by unfold Hp.refsIn;rw [List.length_map];exact List.length_filter_le _ _
set_option maxRecDepth 100000 in
set_option maxHeartbeats 8000000 in
theorem refs_any (w:World) (hp:Nat) (h:Hp) (F:Foot) (r:HR w hp h F) (v:V) :
  Calls Tryz.prog 309 #[.pointer (some ⟨hp,0,none⟩),v.agg] w fun e w'=>∃ x,e=.returned x∧Own w' w.heap.size x (h.refsOf v)∧Bl w w':=by
 have r0:=r
 rcases r.case v with ⟨h0,co⟩ | ⟨L,c,r,hc,hn,hk,h1,co⟩
 ·have e1:h.refsOf v=[]:=by unfold Hp.refsOf;rw [h0]
  rw [e1]
  clear e1 h0 r r0
  go_enter Tryz.func309,Tryz.ntmps309
  go_wp2_with fail
  refine (co _ (by (repeat (first | exact qA _ | assumption | refine qB ?_ _ | refine qC ?_ | refine qD ?_ _ | refine qE ?_ _ (by simp<;>omega) _)))).mono ?_
  rintro e W1 ⟨rfl,hb1⟩
  go_wp2
  go_ret
  exact ⟨_,rfl,Own.nil _ _,(Bl.trans (by (repeat (first | exact qA _ | assumption | refine qB ?_ _ | refine qC ?_ | refine qD ?_ _ | refine qE ?_ _ (by simp<;>omega) _))) hb1)⟩
 ·have e1:h.refsOf v=h.refsIn c.o.values:=by unfold Hp.refsOf;rw [h1];rfl
  rw [e1]
  have HRR:=zH (And.intro r (And.intro hc r0))
  clear e1 h1 hn hk hc r r0
  go_enter Tryz.func309,Tryz.ntmps309
  go_wp2_with fail
  refine (co _ (by (repeat (first | exact qA _ | assumption | refine qB ?_ _ | refine qC ?_ | refine qD ?_ _ | refine qE ?_ _ (by simp<;>omega) _)))).mono ?_
  rintro e W1 ⟨rfl,hb1⟩
  have hbb:Bl w W1:=Bl.trans (by (repeat (first | exact qA _ | assumption | refine qB ?_ _ | refine qC ?_ | refine qD ?_ _ | refine qE ?_ _ (by simp<;>omega) _))) hb1
  have r1:=HRR.out.1.bl hbb
  have ho:=r1.obs c HRR.out.2.1
  have hlen:=ents_len c.o ho.few ho.dict.few.2
  have cv:=values_any W1 c ho
  have HB:=zH hbb
  clear co hb1 hbb r1 ho
  go_wp2_with fail
  refine cv.mono ?_
  rintro e W2 hx
  obtain ⟨a,cc,rfl,hx2,hb2⟩:=hx.form2
  have hvs:=hx2.vs
  obtain ⟨nv,hnv⟩:∃ nv,nv=c.o.values.length:=⟨_,rfl⟩
  rw [← hnv] at hvs hlen ⊢
  have hxa:0 < nv→∃ b o,a=some ⟨b,o,none⟩:=fun h0=>by
   rcases hvs with ⟨e,e2⟩ | ⟨b,o,c',e,-⟩
   ·rw [hnv,e2] at h0;simp at h0
   ·cases e;exact ⟨_,_,rfl⟩
  have hr2:=(HRR.out.2.2.bl HB.out).bl hb2
  have HV:=zH (And.intro hvs (And.intro hnv (And.intro hxa (And.intro hr2 (HB.out.trans hb2)))))
  clear hx hx2 hb2 hvs hnv hxa hr2 cv
  go_wp2
  go_loopw [6,17] (fun v6 v17 wr=>∃ j:Nat,j≤nv∧v17=.int .i64 j∧Bl W2 wr∧Own wr W2.heap.size v6 (h.refsIn (c.o.values.take j))) (fun _ v17 _=>nv - (intOf v17).toNat)
  case atStart=>exact ⟨0,Nat.zero_le _,rfl,Bl.refl _,by rw [List.take_zero];exact Own.nil _ _⟩
  case round =>
   obtain ⟨j,hj,rfl,hb,ho⟩:=hrel
   by_cases hjn:j < nv
   ·obtain ⟨bb,oo,rfl⟩:=HV.out.2.2.1 (by omega)
    obtain ⟨y,hy⟩:∃ y,c.o.values[j]?=some y:=⟨_,List.getElem?_eq_getElem (by rw [← HV.out.2.1];exact hjn)⟩
    have hcells:∀ t u,t < 3→y.cs[t]?=some u→wr.cell? ⟨bb,oo + (j * 3 + t),none⟩=some u:=fun t u ht hu=>by
     rcases HV.out.1 with ⟨e1,-⟩ | ⟨b',o',c',e1,-,-,-,hcell⟩
     ·cases e1
     ·cases e1
      exact hb.sm (hcell _ u ((vcs_at ht hy).trans hu))
    have y0:wr.cell? ⟨bb,oo + j * 3,none⟩=some (.int .i64 y.k):=hcells 0 _ (by decide) rfl
    have y1:wr.cell? ⟨bb,oo + j * 3 + 1,none⟩=some (.int .i64 y.n):=hcells 1 _ (by decide) rfl
    have y2:wr.cell? ⟨bb,oo + j * 3 + 2,none⟩=some (.string (bs y.s)):=hcells 2 _ (by decide) rfl
    have htk:=refsIn_take (h:=h) hy
    rcases HV.out.2.2.2.1.case y with ⟨h0,co⟩ | ⟨L5,c5,r5,hc5,hn5,hk5,h1,co⟩
    ·have co':=co (wr.alloc (.cells y.ca 27)) (hb.al' _)
     have htk2:h.refsIn (c.o.values.take (j + 1))=h.refsIn (c.o.values.take j):=by rw [htk,h0];simp
     have HO:=zH (And.intro ho (And.intro hb htk2))
     clear ho hb htk htk2 hcells hy co h0
     go_wp2_with fail
     refine co'.mono ?_
     rintro en W6 ⟨rfl,hb6⟩
     have hbb:Bl wr W6:=(Bl.al _ _).trans hb6
     have HB6:=zH hbb
     clear hb6 hbb co'
     go_wp2
     go_round
     case rel=>exact ⟨j + 1,by omega,by go_num,HO.out.2.1.trans HB6.out,by rw [HO.out.2.2];exact HO.out.1.bl HB6.out⟩
     case measure=>simp [intOf];omega
    ·have co':=co (wr.alloc (.cells y.ca 27)) (hb.al' _)
     have htk2:h.refsIn (c.o.values.take (j + 1))=h.refsIn (c.o.values.take j)++[y.n]:=by rw [htk,h1];simp
     have HO:=zH (And.intro ho (And.intro hb htk2))
     clear ho hb htk htk2 hcells hy co h1 r5 hc5 hn5 hk5
     go_wp2_with fail
     refine co'.mono ?_
     rintro en W6 ⟨rfl,hb6⟩
     have hbb:Bl wr W6:=(Bl.al _ _).trans hb6
     obtain ⟨z0,z1,z2,-⟩:=hb6.three (MapKept.heap_alloc wr (.cells y.ca 27)).1
     have hl6:(h.refsIn (c.o.values.take j)).length≤4398046511104:=by
      have:=refsIn_len h (c.o.values.take j);rw [List.length_take] at this;omega
     obtain ⟨g',cap',W7,hap,ho7,hb7,hs7,-⟩:=Own.app (HO.out.2.1.trans hbb) (HO.out.1.bl hbb) y.n hl6
     obtain ⟨va,vc,rfl,-⟩:=HO.out.1.form
     obtain ⟨lv,hlv⟩:∃ lv,lv=h.refsIn (c.o.values.take j):=⟨_,rfl⟩
     rw [← hlv] at hap HO ho7 hl6 ⊢
     have ap:=hap 156
     have HB6:=zH (And.intro ho7 hb7)
     clear hb6 hbb co' ho7 hb7 hap
     go_wp2_with (at_builtin;refine wpList_app rfl (.tmp 25) (.tmp 28) 156 rfl (.slice va lv.length vc) (.slice (some ⟨W6.heap.size,0,none⟩) 1 1) (by simp [Go.Act.eval,hlv]) (by simp [Go.Act.eval]) (.slice (some ⟨g',0,none⟩) (lv.length + 1) cap') W7 ap ?_)
     go_round
     case rel=>exact ⟨j + 1,by omega,by go_num,HB6.out.2,by rw [HO.out.2.2,← hlv];exact HB6.out.1⟩
     case measure=>simp [intOf];omega
   ·obtain rfl:j=nv:=by omega
    have hfin:=ho
    rw [HV.out.2.1,List.take_length] at hfin
    obtain ⟨va,vc,rfl,-⟩:=hfin.form
    have HO:=zH (And.intro hfin hb)
    clear ho hb hfin
    go_wp2
    go_ret
    exact ⟨_,rfl,HO.out.1.base (HV.out.2.2.2.2.sz),HV.out.2.2.2.2.trans HO.out.2⟩
end
end Go.Proofs.YtlbcbikplfocfaaGreatDoor.W
section
namespace Go.Proofs
open Go.RowKit Go.Shelf Go.Sort
shelf_lay_g SlLaysM.n5 Slgm 5 at Tryz 333 as Tryz.sortI
end Go.Proofs
namespace Go.Proofs.YtlbcbikplfocfaaGreatDoor.W
open Go.RowKit Go.Shelf Go.Sort
def rising (l:List Int):List Int:=l.mergeSort fun x y=>decide (x≤y)
theorem sort_own (w W:World) (v:Value) (l:List Int) (hb:Bl w W) (h:Own W w.heap.size v l) (h0:l≠[]) (hl:l.length≤4398046511104) :
  Calls Tryz.prog 333 #[v] W fun e W'=>e=.returned (.tuple #[])∧Bl w W'∧Own W' w.heap.size v (rising l):=by
 have hls:(rising l).length=l.length:=by unfold rising;exact List.length_mergeSort _
 rcases h.2 with ⟨-,hz⟩ | ⟨g,cap,cur,rfl,hbase,hgb,r1,r2,r3,r4⟩
 ·exact absurd (List.eq_nil_of_length_eq_zero hz) h0
 ·have hgl:g < W.heap.size:=(zN hgb).1
  have hH:Holds (Value.int .i64) W g 0 l.toArray:=by
   intro j hj
   have hj':j < l.length:=by simpa using hj
   have hc:=h.cellAt j (by omega)
   refine ⟨?_,by simp [World.frozen?,hgb]⟩
   rw [Nat.zero_add,hc]
   simp [ints,hj',List.getElem?_eq_getElem hj']
  refine Calls.mono (calls_of_every_depth fun D=>AnySM.slices_Sort_int_in Tryz.sortI D g 0 cap l W hH hgl (by omega)) ?_
  rintro e W' ⟨rfl,n,os,rfl⟩
  refine ⟨rfl,?_,?_⟩
  ·exact Below.grown hb (grownBy_sortedI (g:=g) (n:=n) (os:=os) (w:=W) _) hb.sz (fun k e=>by cases e;exact hbase)
  ·have:=ownsRow_sortedI (w:=W) (base:=w.heap.size) (g:=g) (cap:=cap) (n:=n) (e:=2) (os:=os) (cur:=cur) (ss:=l) (ts:=rising l) hls hbase hgb r1 r2 r3
   unfold Own
   rw [hls];exact this
end Go.Proofs.YtlbcbikplfocfaaGreatDoor.W
end
namespace Go.Proofs.YtlbcbikplfocfaaGreatDoor.W
section
open Go.RowKit
open Go.ChangeMaps (setBlock)
theorem rising_of_perm {l l':List Int} (h:l.Perm l'):rising l=rising l':=by
 have tr:∀ a b c:Int,decide (a≤b)=true→decide (b≤c)=true→decide (a≤c)=true:=fun a b c h1 h2=>by simp only [decide_eq_true_eq] at *;omega
 have hto:∀ a b:Int,(decide (a≤b) || decide (b≤a))=true:=fun a b=>by simp only [Bool.or_eq_true,decide_eq_true_eq];omega
 refine List.Perm.eq_of_pairwise (le:=fun a b:Int=>decide (a≤b)=true) (fun a b _ _ h1 h2=>?_) (List.pairwise_mergeSort tr hto l) (List.pairwise_mergeSort tr hto l') (((List.mergeSort_perm l _).trans h).trans (List.mergeSort_perm l' _).symm)
 simp only [decide_eq_true_eq] at h1 h2
 omega
theorem rising_perm (l:List Int):(rising l).Perm l:=List.mergeSort_perm l _
def keyI (e:MapEntry):Int:=match e.key with | .int _ n=>n | _=>0
def gath (es:Array MapEntry) (seen:Array Nat):List Int:=(es.toList.filter fun e=>seen.contains e.born).map keyI
theorem gath_none (es:Array MapEntry):gath es #[]=[]:=by
 unfold gath
 rw [List.filter_eq_nil_iff.2 (by intro a _;simp)]
 rfl
theorem filt_other {seen:Array Nat} {b:Nat}:∀ (l:List MapEntry),b ∉ l.map (·.born)→(l.filter fun e=>(seen.push b).contains e.born)=l.filter fun e=>seen.contains e.born
 | [],_=>rfl
 | x :: l,h=>by
  have hx:(x.born == b)=false:=by
   cases hc:x.born == b with
   | false=>rfl
   | true=>exact absurd (List.mem_cons.2 (Or.inl (beq_iff_eq.1 hc).symm)) h
  have ih:=filt_other (seen:=seen) l (fun e=>h (List.mem_cons.2 (Or.inr e)))
  simp only [List.filter_cons,contains_push,hx,Bool.or_false] at ih ⊢
  rw [ih]
theorem filt_perm {seen:Array Nat} {e:MapEntry} (hs:seen.contains e.born=false):∀ (l:List MapEntry),(l.map (·.born)).Nodup→e∈l→(l.filter fun x=>(seen.push e.born).contains x.born).Perm ((l.filter fun x=>seen.contains x.born)++[e])
 | x :: l,hn,he=>by
  have hn':x.born ∉ l.map (·.born)∧(l.map (·.born)).Nodup:=List.nodup_cons.1 hn
  rcases List.mem_cons.1 he with rfl | h
  ·have:=filt_other (seen:=seen) l hn'.1
   simp only [List.filter_cons,contains_push,hs,beq_self_eq_true,Bool.or_true,if_true,Bool.false_eq_true,if_false] at this ⊢
   rw [this]
   exact (List.perm_append_singleton _ _).symm
  ·have hx:(x.born == e.born)=false:=by
    cases hc:x.born == e.born with
    | false=>rfl
    | true=>exact absurd (by rw [beq_iff_eq.1 hc];exact List.mem_map.2 ⟨e,h,rfl⟩) hn'.1
   have ih:=filt_perm hs l hn'.2 h
   simp only [List.filter_cons,contains_push,hx,Bool.or_false] at ih ⊢
   cases seen.contains x.born
   ·simpa using ih
   ·simpa using ih
theorem gath_push {es:Array MapEntry} {seen:Array Nat} {e:MapEntry} (hn:(es.toList.map (·.born)).Nodup) (he:e∈(leftOf es seen).toList):(gath es (seen.push e.born)).Perm (gath es seen++[keyI e]):=by
 obtain ⟨h1,h2⟩:=mem_left he
 have:=(filt_perm h2 es.toList hn h1).map keyI
 rw [List.map_append] at this
 exact this
theorem gath_all {es:Array MapEntry} {seen:Array Nat} (h:(leftOf es seen).size=0):gath es seen=es.toList.map keyI:=by
 unfold gath
 rw [List.filter_eq_self.2 fun x hx=>all_seen es seen h x hx]
theorem gath_len (es:Array MapEntry) (seen:Array Nat):(gath es seen).length≤es.size:=by
 unfold gath;rw [List.length_map];exact Nat.le_trans (List.length_filter_le _ _) (by simp)
def Hp.nums (h:Hp):List Int:=rising (h.all.map (·.1))
set_option maxRecDepth 100000 in
set_option maxHeartbeats 8000000 in
theorem all_nums (w:World) (hp:Nat) (h:Hp) (F:Foot) (r:HR w hp h F) (hne:h.all≠[]) (hsm:h.all.length≤big) :
  Calls Tryz.prog 308 #[.pointer (some ⟨hp,0,none⟩)] w fun e w'=>∃ x,e=.returned x∧Own w' w.heap.size x h.nums∧Bl w w':=by
 obtain ⟨L,r⟩:=r
 obtain ⟨es,clock,hm,he,hbn⟩:=r.both
 obtain ⟨⟨f1,f2,f3⟩,f4,f5,f6,f7⟩:=r.head
 have hrg:=run_range_map (P:=Tryz.prog) w 75 2 87 L.am es clock Tryz.underlying75 hm
 have hkeys:es.toList.map keyI=h.all.map (·.1):=by
  rw [r.eq,List.map_map]
  have h2:=congrArg (fun l=>l.map fun v=>match v with | Value.int _ n=>n | _=>0) he.keys
  rw [List.map_map,List.map_map,List.map_map] at h2
  exact h2
 have hent:∀ e∈es.toList,∃ n:Int,∃ b:Nat,e.key=.int .i64 n∧e.val=.pointer (some ⟨b,0,none⟩):=by
  intro e hmem
  obtain ⟨i,hi⟩:=List.mem_iff_getElem?.1 hmem
  have hk:=congrArg (fun l=>l[i]?) he.keys
  have hv:=congrArg (fun l=>l[i]?) he.vals
  simp only [List.getElem?_map,hi,Option.map_some] at hk hv
  cases hc:L.cos[i]? with
  | none=>rw [hc] at hk;cases hk
  | some c =>
   rw [hc] at hk hv
   simp only [Option.map_some,Option.some.injEq] at hk hv
   exact ⟨c.n,c.ob,hk,hv⟩
 have hes:es.size=h.all.length:=by
  have:=congrArg List.length hkeys
  simpa using this
 have HM:=zH hm
 have HBN:=zH hbn
 have HK:=zH (And.intro hkeys (And.intro hne (And.intro hsm hes)))
 have HENT:=zH hent
 clear r hm he hbn hent hkeys hne hsm hes f2 f3 f4 f7
 go_enter Tryz.func308,Tryz.ntmps308
 go_wp2
 go_loopw [3] (fun v3 wr=>∃ (seen:Array Nat) (l:List Int),Bl w wr∧wr.heap[w.heap.size]?=some (.mapIter (some L.am) clock seen clock)∧Own wr (w.heap.size + 1) v3 l∧l.Perm (gath es seen)) (fun _ wr=>(leftOf es (wr.iterSeen w.heap.size)).size)
 case atStart=>exact ⟨#[],[],Bl.al _ _,(MapKept.heap_alloc w _).1,Own.nil _ _,by rw [gath_none]⟩
 case round =>
  obtain ⟨seen,l,hb,hit,ho,hp⟩:=hrel
  have hb1:wr.heap[L.am]?=some (.map es clock):=(hb.at f6).trans HM.out
  have hitl:=(zN hit).1
  have hll:l.length≤1048576:=by
   have h1:=hp.length_eq
   have h2:=gath_len es seen
   have h3:=HK.out.2.2.1
   have h4:=HK.out.2.2.2
   replace h3:h.all.length≤1048576:=h3
   omega
  rcases run_next_at (P:=Tryz.prog) wr 0 w.heap.size L.am clock clock seen es clock hit hb1 HBN.out.1 (Nat.le_refl _) with ⟨h0,hrun⟩ | ⟨e,he,w1,hw1,hrun⟩
  ·have hnx:∀ ty,(Instr.next (.pointer (some ⟨w.heap.size,0,none⟩)) false ty).run Tryz.prog wr=_:=fun _=>hrun
   have hpl:l.Perm (h.all.map (·.1)):=by rw [gath_all h0,HK.out.1] at hp;exact hp
   have hl0:l≠[]:=by
    rintro rfl
    have:=hpl.length_eq
    rw [List.length_map] at this
    exact HK.out.2.1 (List.eq_nil_of_length_eq_zero this.symm)
   obtain ⟨va,vc,rfl,-⟩:=ho.form
   have cs:=sort_own w wr _ l hb (ho.base (Nat.le_succ _)) hl0 (by omega)
   have HE:=zH hpl
   clear hb1 hb hit ho hp hrun h0 hpl hl0
   go_wp2_with fail
   refine cs.mono ?_
   rintro e W2 ⟨rfl,hb2,ho2⟩
   have HO:=zH (And.intro hb2 ho2)
   clear hb2 ho2 cs
   go_wp2
   go_ret
   exact ⟨_,rfl,by unfold Hp.nums;rw [← rising_of_perm HE.out];exact HO.out.2,HO.out.1⟩
  ·obtain ⟨va,vc,rfl,-⟩:=ho.form
   obtain ⟨n,ob,hkey,hval⟩:=HENT.out e (mem_left he).1
   have hbw1:Bl wr w1:=by rcases hw1 with rfl | rfl;exact Bl.refl _;exact Bl.dr _
   have hlt1:w.heap.size < w1.heap.size:=Nat.lt_of_lt_of_le hitl hbw1.sz
   obtain ⟨W,hW⟩:∃ W,W=setBlock w1 w.heap.size (.mapIter (some L.am) clock (seen.push e.born) clock):=⟨_,rfl⟩
   have hbW:Bl w W:=by rw [hW];exact (hb.trans hbw1).setBlock (Nat.le_refl _) _
   have hitW:W.heap[w.heap.size]?=some (.mapIter (some L.am) clock (seen.push e.born) clock):=by rw [hW];exact setBlock_at hlt1 _
   have hen:=run_entry_at (P:=Tryz.prog) W w.heap.size L.am clock seen es clock e hitW ((hbW.at f6).trans HM.out) (mem_left he).1 HBN.out.2
   rw [hkey,hval] at hrun hen
   rw [← hW] at hrun
   have hnx:∀ ty,(Instr.next (.pointer (some ⟨w.heap.size,0,none⟩)) false ty).run Tryz.prog wr=_:=fun _=>hrun
   have hpp:(l++[n]).Perm (gath es (seen.push e.born)):=by
    have h1:=gath_push HBN.out.2 he
    have h2:keyI e=n:=by unfold keyI;rw [hkey]
    rw [h2] at h1
    exact (hp.append_right [n]).trans h1.symm
   have hoW:Own W (w.heap.size + 1) (.slice va l.length vc) l:=by
    have h1:=ho.bl hbw1
    exact h1.keep fun b hb2=>by rw [hW];exact setBlock_other (by have:=(h1.lt b hb2).1;omega) _
   have hWs:w.heap.size + 1≤W.heap.size:=by rw [hW,setBlock_size];omega
   obtain ⟨g',cap',W7,hap,ho7,hb7,hs7,hg7,hk7⟩:=Own.appB hWs hoW n (by omega)
   have hit7:W7.heap[w.heap.size]?=some (.mapIter (some L.am) clock (seen.push e.born) clock):=(hb7.block _ (by omega)).trans hitW
   have hb77:Bl w W7:=Below.trans hbW (Below.mono hb7 (Nat.le_succ _))
   have ap:=hap 156
   have HM1:=zH (left_shrinks es seen e he)
   have HA:=zH (And.intro hb77 (And.intro hit7 (And.intro ho7 (And.intro hpp hit))))
   clear hb1 hrun he hval hkey hb hbw1 hlt1 hW hbW hitW hit hw1 ho hoW hp hpp hap ho7 hb7 hk7 hit7 hb77
   go_wp2_with (at_builtin;refine wpList_app rfl (.tmp 16) (.tmp 18) 156 rfl (.slice va l.length vc) (.slice (some ⟨W.heap.size,0,none⟩) 1 1) (by simp [Go.Act.eval]) (by simp [Go.Act.eval]) (.slice (some ⟨g',0,none⟩) (l.length + 1) cap') W7 ap ?_)
   go_roundw
   case rel=>exact ⟨_,_,HA.out.1,HA.out.2.1,HA.out.2.2.1,HA.out.2.2.2.1⟩
   case measure =>
    have:=HM1.out
    have e1:wr.iterSeen w.heap.size=seen:=by unfold World.iterSeen;rw [HA.out.2.2.2.2]
    have e2:W7.iterSeen w.heap.size=seen.push e.born:=by unfold World.iterSeen;rw [HA.out.2.1]
    rw [e1,e2]
    exact this
end
section
open Go.RowKit
theorem filter_take {p:Int→Bool} {l:List Int} {j:Nat} {y:Int} (hy:l[j]?=some y):(l.take (j + 1)).filter p=(l.take j).filter p++if p y then [y] else []:=by
 rw [List.take_add_one,hy,List.filter_append]
 congr 1
 cases h1:p y<;>simp [h1]
theorem nums_len (h:Hp):h.nums.length=h.all.length:=by
 unfold Hp.nums;rw [(rising_perm _).length_eq,List.length_map]
set_option maxRecDepth 100000 in
set_option maxHeartbeats 8000000 in
theorem some_any (w:World) (hp:Nat) (h:Hp) (F:Foot) (r:HR w hp h F) (hne:h.all≠[]) (hsm:h.all.length≤big) (sb hb:Nat) (p:Int→Bool)
  (hcl:∀ W,Bl w W→∀ n:Int,Calls Tryz.prog 271 #[.int .i64 n,.pointer (some ⟨sb,0,none⟩),.pointer (some ⟨hb,0,none⟩)] W fun e w'=>e=.returned (.bool (p n))∧Bl W w') :
  Calls Tryz.prog 270 #[.pointer (some ⟨hp,0,none⟩),.func (.func 271) #[] #[.pointer (some ⟨sb,0,none⟩),.pointer (some ⟨hb,0,none⟩)]] w fun e w'=>∃ x,e=.returned x∧Own w' w.heap.size x (h.nums.filter p)∧Bl w w':=by
 have ca:=all_nums w hp h F r hne hsm
 have hnl:=nums_len h
 replace hsm:h.all.length≤1048576:=hsm
 have HCL:=zH hcl
 clear r hne hcl
 go_enter Tryz.func270,Tryz.ntmps270
 go_wp2_with fail
 refine ca.mono ?_
 rintro e W2 ⟨x,rfl,hox,hb2⟩
 obtain ⟨a,cc,rfl,hxa⟩:=hox.form
 obtain ⟨nv,hnv⟩:∃ nv,nv=h.nums.length:=⟨_,rfl⟩
 rw [← hnv] at hxa hnl ⊢
 have HV:=zH (And.intro hxa (And.intro hnv hb2))
 clear ca hox hb2 hxa hnv
 go_wp2
 go_loopw [5,11] (fun v5 v11 wr=>∃ j:Nat,j≤nv∧v11=.int .i64 j∧Bl W2 wr∧Own wr W2.heap.size v5 ((h.nums.take j).filter p)) (fun _ v11 _=>nv - (intOf v11).toNat)
 case atStart=>exact ⟨0,Nat.zero_le _,rfl,Bl.refl _,by rw [List.take_zero];exact Own.nil _ _⟩
 case round =>
  obtain ⟨j,hj,rfl,hb,ho⟩:=hrel
  by_cases hjn:j < nv
  ·obtain ⟨g,rfl,hg1,hg2,hgc⟩:=HV.out.1 (by omega)
   obtain ⟨y,hy⟩:∃ y,h.nums[j]?=some y:=⟨_,List.getElem?_eq_getElem (by rw [← HV.out.2.1];exact hjn)⟩
   have y0:wr.cell? ⟨g,j,none⟩=some (.int .i64 y):=hb.sm (hgc j y hy)
   have htk:=filter_take (p:=p) hy
   have cc1:=HCL.out wr (HV.out.2.2.trans hb) y
   obtain ⟨lv,hlv⟩:∃ lv,lv=(h.nums.take j).filter p:=⟨_,rfl⟩
   have hl6:lv.length≤4398046511104:=by
    have:=List.length_filter_le p (h.nums.take j);rw [List.length_take] at this;rw [hlv];omega
   rw [← hlv] at ho htk
   obtain ⟨va,vc,rfl,-⟩:=ho.form
   cases hpy:p y with
   | false =>
    rw [hpy] at htk cc1
    have htk2:(h.nums.take (j + 1)).filter p=lv:=by rw [htk];simp
    have HO:=zH (And.intro ho (And.intro hb htk2))
    clear ho hb htk htk2 hgc hy hpy hlv
    go_wp2_with fail
    refine cc1.mono ?_
    rintro en W6 ⟨rfl,hb6⟩
    have HB6:=zH hb6
    clear hb6 cc1
    go_wp2
    go_round
    case rel=>exact ⟨j + 1,by omega,by go_num,HO.out.2.1.trans HB6.out,by rw [HO.out.2.2];exact HO.out.1.bl HB6.out⟩
    case measure=>simp [intOf];omega
   | true =>
    rw [hpy] at htk cc1
    have htk2:(h.nums.take (j + 1)).filter p=lv++[y]:=by rw [htk];simp
    have HO:=zH (And.intro ho (And.intro hb htk2))
    clear ho hb htk htk2 hgc hy hpy hlv
    go_wp2_with fail
    refine cc1.mono ?_
    rintro en W6 ⟨rfl,hb6⟩
    obtain ⟨g',cap',W7,hap,ho7,hb7,hs7,-⟩:=Own.app (HO.out.2.1.trans hb6) (HO.out.1.bl hb6) y hl6
    have ap:=hap 156
    have HB6:=zH (And.intro ho7 hb7)
    clear hb6 cc1 ho7 hb7 hap
    go_wp2_with (at_builtin;refine wpList_app rfl (.tmp 18) (.tmp 20) 156 rfl (.slice va lv.length vc) (.slice (some ⟨W6.heap.size,0,none⟩) 1 1) (by simp [Go.Act.eval]) (by simp [Go.Act.eval]) (.slice (some ⟨g',0,none⟩) (lv.length + 1) cap') W7 ap ?_)
    go_round
    case rel=>exact ⟨j + 1,by omega,by go_num,HB6.out.2,by rw [HO.out.2.2];exact HB6.out.1⟩
    case measure=>simp [intOf];omega
  ·obtain rfl:j=nv:=by omega
   have hfin:=ho
   rw [HV.out.2.1,List.take_length] at hfin
   obtain ⟨va,vc,rfl,-⟩:=hfin.form
   have HO:=zH (And.intro hfin hb)
   clear ho hb hfin
   go_wp2
   go_ret
   exact ⟨_,rfl,HO.out.1.base HV.out.2.2.sz,HV.out.2.2.trans HO.out.2⟩
end
section
open Go.RowKit
structure Pm {β:Type} (ev:β→Value) (W:World) (mb:Nat) (l:List (Int × β)):Prop where
 mem:∃ es c,W.heap[mb]?=some (.map es c)∧Ents (fun n:Int=>Value.int .i64 n) ev es.toList l∧Born es c
 nd:(l.map (·.1)).Nodup
abbrev evI:Int→Value:=fun x=>.int .i64 x
abbrev evB:Bool→Value:=fun x=>.bool x
section
variable {β:Type} {ev:β→Value} {W W':World} {mb:Nat} {l:List (Int × β)}
theorem Pm.lt (h:Pm ev W mb l):mb < W.heap.size:=h.mem.elim fun _ ⟨_,h,_⟩=>(zN h).1
theorem Pm.keep (h:Pm ev W mb l) (hk:W'.heap[mb]?=W.heap[mb]?):Pm ev W' mb l:=⟨h.mem.elim fun es ⟨c,h1,h2⟩=>⟨es,c,hk.trans h1,h2⟩,h.nd⟩
theorem Pm.bl (h:Pm ev W mb l) (hb:Bl W W'):Pm ev W' mb l:=h.keep (hb.at h.lt)
theorem Pm.new (W:World):Pm ev (W.alloc (.map #[] 0)) W.heap.size []:=⟨⟨#[],0,(MapKept.heap_alloc W _).1,Ents.nil,Born.nil 0⟩,by simp⟩
end
theorem Bl.setMap {a w:World} (h:Bl a w) {r:Nat} (hr:a.heap.size≤r) (es:Array MapEntry) (c:Nat):Bl a (setMap w r es c) :=
 ⟨h.os,h.tape,h.output,by rw [setMap_size];exact h.sz,fun b hb=>(setMap_other (by omega) es c).trans (h.at hb)⟩
theorem zeroBool (w:World):(zeroValue 4).run Tryz.prog w=.ok (.bool false) w:=by kernel_rfl
section
variable {W W':World} {mb:Nat}
theorem lookI {l:List (Int × Int)} (h:Pm evI W mb l) (n:Int) (hW:W'.heap[mb]?=W.heap[mb]?) :
  (Instr.lookup 76 (.map (some mb)) (.int .i64 n) false).run Tryz.prog W'=.ok (.int .i64 ((get l n).getD 0)) W':=by
 obtain ⟨es,c,hm,he,-⟩:=h.mem
 rw [run_look (ek:=fun n:Int=>Value.int .i64 n) (ev:=evI) Tryz.underlying76 (key_i64 Tryz.underlying2) zeroInt (hW.trans hm) he n false]
 cases get l n<;>rfl
theorem lookB {l:List (Int × Bool)} (h:Pm evB W mb l) (n:Int) (hW:W'.heap[mb]?=W.heap[mb]?) :
  (Instr.lookup 253 (.map (some mb)) (.int .i64 n) false).run Tryz.prog W'=.ok (.bool ((get l n).getD false)) W':=by
 obtain ⟨es,c,hm,he,-⟩:=h.mem
 rw [run_look (ek:=fun n:Int=>Value.int .i64 n) (ev:=evB) (show Tryz.prog.underlying 253=some (.map 2 4) by kernel_rfl) (key_i64 Tryz.underlying2) zeroBool (hW.trans hm) he n false]
 cases get l n<;>rfl
theorem putI {l:List (Int × Int)} (h:Pm evI W mb l) (n x:Int) :
  ∃ es' c',(∀ W':World,W'.heap[mb]?=W.heap[mb]?→(Instr.mapUpdate 76 (.map (some mb)) (.int .i64 n) (.int .i64 x)).run Tryz.prog W'=.ok () (setMap W' mb es' c'))∧∀ W':World,mb < W'.heap.size→Pm evI (setMap W' mb es' c') mb (put l n x):=by
 obtain ⟨es,c,hm,he,hb⟩:=h.mem
 obtain ⟨es',c',hput,he',hb'⟩:=run_putB Tryz.underlying76 (key_i64 Tryz.underlying2) (ek:=fun n:Int=>Value.int .i64 n) (ev:=evI) he n x c
 exact ⟨es',c',fun W' hW'=>hput W' mb (hW'.trans hm),fun W' hlt=>⟨⟨es',c',setMap_at hlt _ _,he',hb' hb⟩,nodup_put h.nd n x⟩⟩
theorem putBl {l:List (Int × Bool)} (h:Pm evB W mb l) (n:Int) (x:Bool) :
  ∃ es' c',(∀ W':World,W'.heap[mb]?=W.heap[mb]?→(Instr.mapUpdate 253 (.map (some mb)) (.int .i64 n) (.bool x)).run Tryz.prog W'=.ok () (setMap W' mb es' c'))∧∀ W':World,mb < W'.heap.size→Pm evB (setMap W' mb es' c') mb (put l n x):=by
 obtain ⟨es,c,hm,he,hb⟩:=h.mem
 obtain ⟨es',c',hput,he',hb'⟩:=run_putB (show Tryz.prog.underlying 253=some (.map 2 4) by kernel_rfl) (key_i64 Tryz.underlying2) (ek:=fun n:Int=>Value.int .i64 n) (ev:=evB) he n x c
 exact ⟨es',c',fun W' hW'=>hput W' mb (hW'.trans hm),fun W' hlt=>⟨⟨es',c',setMap_at hlt _ _,he',hb' hb⟩,nodup_put h.nd n x⟩⟩
end
set_option maxRecDepth 100000 in
set_option maxHeartbeats 8000000 in
theorem garb1_any (w:World) (hp:Nat) (h:Hp) (F:Foot) (r:HR w hp h F) (sb hb mb:Nat) (l:List (Int × Bool)) (hs:w.heap[sb]?=some (.cells #[.map (some mb)] 253 (0,0))) (hbx:w.heap[hb]?=some (.cells #[.pointer (some ⟨hp,0,none⟩)] 52 (0,0)))
  (hm:Pm evB w mb l) (n:Int) :
  Calls Tryz.prog 271 #[.int .i64 n,.pointer (some ⟨sb,0,none⟩),.pointer (some ⟨hb,0,none⟩)] w fun e w'=>e=.returned (.bool (!((get l n).getD false) && decide (0 < h.count (vref n))))∧Bl w w':=by
 have g0:w.cell? ⟨hb,0,none⟩=some (.pointer (some ⟨hp,0,none⟩)):=by rw [cell_of hbx];rfl
 have g1:w.cell? ⟨sb,0,none⟩=some (.map (some mb)):=by rw [cell_of hs];rfl
 have lk:∀ q,(Instr.lookup 253 (.map (some mb)) (.int .i64 n) false).run Tryz.prog (w.drewN q)=.ok (.bool ((get l n).getD false)) (w.drewN q):=fun q=>lookB hm n rfl
 have lk0:(Instr.lookup 253 (.map (some mb)) (.int .i64 n) false).run Tryz.prog w=.ok (.bool ((get l n).getD false)) w:=lookB hm n rfl
 have lk1:(Instr.lookup 253 (.map (some mb)) (.int .i64 n) false).run Tryz.prog w.drew=.ok (.bool ((get l n).getD false)) w.drew:=lookB hm n rfl
 have HRR:=zH (And.intro r hm)
 cases hgl:(get l n).getD false with
 | true =>
  rw [hgl] at lk lk0
  clear r hm hbx hs hgl
  go_enter Tryz.func271,Tryz.ntmps271
  go_wp2
  go_quiet (fail)
  go_wp2
  go_ret
  exact ⟨rfl,by (repeat (first | exact qA _ | assumption | refine qB ?_ _ | refine qC ?_ | refine qD ?_ _ | refine qE ?_ _ (by simp<;>omega) _))⟩
 | false =>
  rw [hgl] at lk lk0 lk1
  have cr:∀ W,Bl w W→Calls Tryz.prog 273 #[.int .i64 n] W fun e w'=>e=.returned (vref n).agg∧Bl w w':=fun W hb=>(cref_any W n).mono fun e w' ⟨h1,h2⟩=>⟨h1,hb.trans h2⟩
  have cn:∀ W,Bl w W→Calls Tryz.prog 272 #[.pointer (some ⟨hp,0,none⟩),(vref n).agg] W fun e w'=>e=.returned (.int .i64 (h.count (vref n)))∧Bl w w':=fun W hb=>(count_any W hp h F (HRR.out.1.bl hb) (vref n)).mono fun e w' ⟨h1,h2⟩=>⟨h1,hb.trans h2⟩
  obtain ⟨cv,hcv⟩:∃ cv,cv=h.count (vref n):=⟨_,rfl⟩
  rw [← hcv] at cn ⊢
  clear r hm hbx hs hgl hcv
  go_enter Tryz.func271,Tryz.ntmps271
  go_wp2
  go_region_with (first | (go_at_call 273;refine (cr _ (by (repeat (first | exact qA _ | assumption | refine qB ?_ _ | refine qC ?_ | refine qD ?_ _ | refine qE ?_ _ (by simp<;>omega) _)))).mono ?_;rintro e W1 ⟨rfl,hb1⟩;have g3:=hb1.sm g0) | (go_at_call 272;refine (cn _ (by (repeat (first | exact qA _ | assumption | refine qB ?_ _ | refine qC ?_ | refine qD ?_ _ | refine qE ?_ _ (by simp<;>omega) _)))).mono ?_;rintro e W2 ⟨rfl,hb2⟩))
  all_goals
   go_wp2
   go_ret
   exact ⟨rfl,by assumption⟩
end
section
open Go.RowKit
structure MidM (mb:Nat) (W wr:World):Prop where
 size:W.heap.size≤wr.heap.size
 oth:∀ b,b < W.heap.size→b≠mb→wr.heap[b]?=W.heap[b]?
theorem MidM.refl (mb:Nat) (W:World):MidM mb W W:=⟨Nat.le_refl _,fun _ _ _=>rfl⟩
theorem MidM.bl {mb:Nat} {W wr wr':World} (h:MidM mb W wr) (hb:Bl wr wr'):MidM mb W wr' :=
 ⟨Nat.le_trans h.size hb.sz,fun b h1 h2=>(hb.at (Nat.lt_of_lt_of_le h1 h.size)).trans (h.oth b h1 h2)⟩
theorem MidM.set {mb:Nat} {W wr:World} (h:MidM mb W wr) (es:Array MapEntry) (c:Nat):MidM mb W (setMap wr mb es c) :=
 ⟨by rw [setMap_size];exact h.size,fun b h1 h2=>(setMap_other h2 es c).trans (h.oth b h1 h2)⟩
theorem MidM.cell {mb:Nat} {W wr:World} (h:MidM mb W wr) {b:Nat} (h1:b < W.heap.size) (h2:b≠mb) (o:Nat):wr.cell? ⟨b,o,none⟩=W.cell? ⟨b,o,none⟩ :=
 World.cell?_of_block (w:=W) (a:=⟨b,o,none⟩) (h.oth b h1 h2)
theorem mem_take_succ {l:List Int} {j:Nat} {y:Int} (hy:l[j]?=some y) (n:Int):n∈l.take (j + 1)↔n∈l.take j∨n=y:=by
 rw [List.take_add_one,hy];simp
theorem mem_nums (h:Hp) (n:Int):n∈h.nums↔(get h.all n).isSome=true:=by
 unfold Hp.nums
 rw [(rising_perm _).mem_iff,List.mem_map]
 constructor
 ·rintro ⟨p,hp,rfl⟩
  cases hg:get h.all p.1 with
  | some o=>rfl
  | none =>
   exfalso
   have:∀ l:List (Int × Ob),p∈l→get l p.1≠none:=by
    intro l
    induction l with
    | nil=>intro h;cases h
    | cons q t ih =>
     intro hq
     obtain ⟨k,v⟩:=q
     by_cases e:k=p.1
     ·simp [get,e]
     ·rw [get,if_neg e]
      rcases List.mem_cons.1 hq with rfl | h
      ·exact absurd rfl e
      ·exact ih h
   exact this _ hp hg
 ·intro hs
  obtain ⟨o,ho⟩:=Option.isSome_iff_exists.1 hs
  exact ⟨_,get_mem ho,rfl⟩
theorem occ_take {l:List V} {j:Nat} {y:V} (hy:l[j]?=some y) (n:Int):occ n (l.take (j + 1))=occ n (l.take j) + if y.k=4∧y.n=n then 1 else 0:=by
 rw [List.take_add_one,hy,occ_append];simp [occ]
structure Few (h:Hp) (e:List V):Prop where
 few:e.length≤big
 sm:h.all.length≤big
 ne:h.all≠[]
 cons:Cons h []
 kind:∀ n o,get h.all n=some o→o.kind≠0
 vals:h.vals.length + e.length < 4611686018427387904
set_option maxRecDepth 100000 in
set_option maxHeartbeats 8000000 in
theorem counts_any (w:World) (hp:Nat) (h:Hp) (F:Foot) (r:HR w hp h F) (x:Value) (e:List V) (hx:Vs w x e) (hf:Few h e) :
  Calls Tryz.prog 307 #[.pointer (some ⟨hp,0,none⟩),x] w fun en w'=>∃ mb l,en=.returned (.map (some mb))∧w.heap.size≤mb∧Pm evI w' mb l∧(∀ n,(get l n).getD 0=if (get h.all n).isSome=true then ((occ n h.vals:Int) + occ n e) else 0)∧Bl w w':=by
 have hmm:=@run_makeMap Tryz.prog
 have ca:=all_nums (w.alloc (.map #[] 0)) hp h F (r.bl (Bl.al _ _)) hf.ne hf.sm
 have hm0:=Pm.new (ev:=evI) w
 obtain ⟨ne,hne⟩:∃ ne,ne=e.length:=⟨_,rfl⟩
 obtain ⟨xa,xc,rfl,hxa⟩:∃ a c,x=.slice a ne c∧(0 < ne→∃ b o,a=some ⟨b,o,none⟩):=by
  rcases hx with ⟨rfl,h0⟩ | ⟨b,o,c',rfl,-⟩
  ·exact ⟨none,0,by rw [hne,h0];rfl,fun h=>by rw [hne,h0] at h;exact absurd h (by simp)⟩
  ·exact ⟨_,_,by rw [hne],fun _=>⟨_,_,rfl⟩⟩
 have hnl:=nums_len h
 have hsm:=hf.sm
 replace hsm:h.all.length≤1048576:=hsm
 have hfe:=hf.few
 replace hfe:e.length≤1048576:=hfe
 rw [← hne] at hfe
 have HH:=zH (And.intro r (And.intro hx (And.intro hne (And.intro hxa hf))))
 clear r hx hf hne hxa
 go_enter Tryz.func307,Tryz.ntmps307
 go_wp2_with fail
 refine ca.mono ?_
 rintro en W2 ⟨y2,rfl,hox,hb2⟩
 have hb02:Bl w W2:=(Bl.al _ _).trans hb2
 have hm2:=hm0.bl hb2
 obtain ⟨a,cc,rfl,hxa2⟩:=hox.form
 rw [zL] at hxa2
 obtain ⟨nv,hnv⟩:∃ nv,nv=h.nums.length:=⟨_,rfl⟩
 rw [← hnv] at hxa2 hnl ⊢
 have hnb:nv≤1048576:=by omega
 clear hnl
 have HV:=zH (And.intro hxa2 (And.intro hnv (And.intro hb02 hm2)))
 clear ca hox hb2 hxa2 hnv hm0 hm2 hb02
 go_wp2
 go_loopw [14] (fun v14 wr=>∃ (j:Nat) (l:List (Int × Int)),j≤nv∧v14=.int .i64 j∧Bl w wr∧MidM w.heap.size W2 wr∧Pm evI wr w.heap.size l∧∀ n,(get l n).getD 0=if n∈h.nums.take j then (occ n h.vals:Int) else 0) (fun v14 _=>nv - (intOf v14).toNat)
 case atStart=>exact ⟨0,[],Nat.zero_le _,rfl,HV.out.2.2.1,MidM.refl _ _,HV.out.2.2.2,fun n=>by simp [get]⟩
 case round =>
  obtain ⟨j,l,hj,rfl,hb,hmid,hpm,hl⟩:=hrel
  by_cases hjn:j < nv
  ·obtain ⟨g,rfl,hg1,hg2,hgc⟩:=HV.out.1 (by omega)
   obtain ⟨y,hy⟩:∃ y,h.nums[j]?=some y:=⟨_,List.getElem?_eq_getElem (by rw [← HV.out.2.1];exact hjn)⟩
   have y0:wr.cell? ⟨g,j,none⟩=some (.int .i64 y):=(hmid.cell hg2 (by omega) j).trans (hgc j y hy)
   have hlive:(get h.all y).isSome=true:=(mem_nums h y).1 (List.mem_of_getElem? hy)
   have hcnt:h.count (vref y)=(occ y h.vals:Int):=by
    obtain ⟨o,ho⟩:=Option.isSome_iff_exists.1 hlive
    have h1:h.of (vref y)=some o:=by unfold Hp.of;rw [if_pos rfl];exact ho
    unfold Hp.count
    rw [h1]
    have:=HH.out.2.2.2.2.cons.refs y
    simp [occ] at this
    exact this
   have cr:=cref_any wr y
   have HO:=zH (And.intro hb (And.intro hmid (And.intro hpm (And.intro hl (And.intro hy hcnt)))))
   clear hb hmid hpm hl hy hgc hcnt
   go_wp2_with fail
   refine cr.mono ?_
   rintro en W5 ⟨rfl,hb5⟩
   have cn:=count_any W5 hp h F ((HH.out.1.bl HO.out.1).bl hb5) (vref y)
   rw [HO.out.2.2.2.2.2] at cn
   have HB5:=zH hb5
   clear hb5 cr
   go_wp2_with fail
   refine cn.mono ?_
   rintro en W6 ⟨rfl,hb6⟩
   have hb56:=HB5.out.trans hb6
   have hpm6:=HO.out.2.2.1.bl hb56
   obtain ⟨es',c',hput,hpm7⟩:=putI hpm6 y (occ y h.vals:Int)
   have mu:=hput W6 rfl
   have HB6:=zH (And.intro hb56 (hpm7 W6 hpm6.lt))
   clear hb6 hb56 cn hput hpm7 hpm6
   go_wp2
   go_round
   case rel =>
    refine ⟨j + 1,_,by omega,by go_num,(HO.out.1.trans HB6.out.1).setMap (Nat.le_refl _) _ _,(HO.out.2.1.bl HB6.out.1).set _ _,HB6.out.2,fun n=>?_⟩
    rw [get_put]
    have h1:=mem_take_succ HO.out.2.2.2.2.1 n
    have h2:=HO.out.2.2.2.1 n
    by_cases e1:y=n
    ·subst e1
     rw [if_pos rfl,if_pos (h1.2 (.inr rfl))];rfl
    ·rw [if_neg e1,h2]
     by_cases e2:n∈h.nums.take j
     ·rw [if_pos e2,if_pos (h1.2 (.inl e2))]
     ·rw [if_neg e2,if_neg (fun hh=>(h1.1 hh).elim e2 (fun e=>e1 e.symm))]
   case measure=>simp [intOf];omega
  ·obtain rfl:j=nv:=by omega
   have hl1:∀ n,(get l n).getD 0=if (get h.all n).isSome=true then (occ n h.vals:Int) + occ n (e.take 0) else 0:=fun n=>by
    rw [hl n,HV.out.2.1,List.take_length,List.take_zero]
    simp only [mem_nums,occ]
    split<;>simp
   have HL:=zH (And.intro hb (And.intro hpm hl1))
   clear hb hmid hpm hl hl1
   go_wp2
   go_loopw [27] (fun v27 wr=>∃ (j:Nat) (l:List (Int × Int)),j≤ne∧v27=.int .i64 j∧Bl w wr∧Pm evI wr w.heap.size l∧∀ n,(get l n).getD 0=if (get h.all n).isSome=true then (occ n h.vals:Int) + occ n (e.take j) else 0) (fun v27 _=>ne - (intOf v27).toNat)
   case atStart=>exact ⟨0,l,Nat.zero_le _,rfl,HL.out⟩
   case round =>
    rename World=>wr3
    clear HL
    obtain ⟨j,l,hj,rfl,hb,hpm,hl⟩:=hrel
    by_cases hjn:j < ne
    ·obtain ⟨bb,oo,rfl⟩:=HH.out.2.2.2.1 (by omega)
     obtain ⟨y,hy⟩:∃ y,e[j]?=some y:=⟨_,List.getElem?_eq_getElem (by rw [← HH.out.2.2.1];exact hjn)⟩
     have hcells:∀ t u,t < 3→y.cs[t]?=some u→wr3.cell? ⟨bb,oo + (j * 3 + t),none⟩=some u:=fun t u ht hu=>by
      rcases HH.out.2.1 with ⟨e1,-⟩ | ⟨b',o',c',e1,-,-,-,hcell⟩
      ·cases e1
      ·cases e1
       exact hb.sm (hcell _ u ((vcs_at ht hy).trans hu))
     have y0:wr3.cell? ⟨bb,oo + j * 3,none⟩=some (.int .i64 y.k):=hcells 0 _ (by decide) rfl
     have y1:wr3.cell? ⟨bb,oo + j * 3 + 1,none⟩=some (.int .i64 y.n):=hcells 1 _ (by decide) rfl
     have y2:wr3.cell? ⟨bb,oo + j * 3 + 2,none⟩=some (.string (bs y.s)):=hcells 2 _ (by decide) rfl
     have htk:=occ_take hy
     have hbb0:Bl wr3 (wr3.alloc (.cells y.ca 27)):=Bl.al _ _
     have ck:=kind_any (wr3.alloc (.cells y.ca 27)) hp h F ((HH.out.1.bl hb).bl hbb0) y
     cases hof:h.of y with
     | none =>
      have hk:(h.kind y != 0)=false:=by unfold Hp.kind;rw [hof];rfl
      have hl2:∀ n,(get l n).getD 0=if (get h.all n).isSome=true then (occ n h.vals:Int) + occ n (e.take (j + 1)) else 0:=fun n=>by
       rw [hl n]
       by_cases hlv:(get h.all n).isSome=true
       ·rw [if_pos hlv,if_pos hlv,htk n,if_neg]
        ·rfl
        ·rintro ⟨e1,rfl⟩
         unfold Hp.of at hof
         rw [if_pos e1] at hof
         rw [hof] at hlv;cases hlv
       ·rw [if_neg hlv,if_neg hlv]
      have HO:=zH (And.intro hb (And.intro hpm hl2))
      clear hb hpm hl hl2 hy hcells htk hof
      go_wp2_with fail
      refine ck.mono ?_
      rintro en W6 ⟨rfl,hb6⟩
      have HB6:=zH (hbb0.trans hb6)
      clear hb6 hbb0 ck
      go_wp2
      go_round
      case rel=>exact ⟨j + 1,l,by omega,by go_num,HO.out.1.trans HB6.out,HO.out.2.1.bl HB6.out,HO.out.2.2⟩
      case measure=>simp [intOf];omega
     | some o =>
      have hyk:y.k=4∧get h.all y.n=some o:=by
       unfold Hp.of at hof
       by_cases hk:y.k=4
       ·rw [if_pos hk] at hof;exact ⟨hk,hof⟩
       ·rw [if_neg hk] at hof;cases hof
      have hk:(h.kind y != 0)=true:=by
       unfold Hp.kind;rw [hof]
       have:=HH.out.2.2.2.2.kind _ _ hyk.2
       simpa using this
      obtain ⟨q,hq⟩:∃ q,q=(get l y.n).getD 0:=⟨_,rfl⟩
      have hqv:q=(occ y.n h.vals:Int) + occ y.n (e.take j):=by rw [hq,hl y.n,hyk.2];rfl
      have hqb:0≤q∧q < 4611686018427387904:=by
       have h1:=occ_le y.n h.vals
       have h2:=occ_le y.n (e.take j)
       have h3:=HH.out.2.2.2.2.vals
       rw [List.length_take] at h2
       rw [hqv];omega
      have hl2:∀ n,(get (put l y.n (q + 1)) n).getD 0=if (get h.all n).isSome=true then (occ n h.vals:Int) + occ n (e.take (j + 1)) else 0:=fun n=>by
       rw [get_put]
       by_cases e1:y.n=n
       ·subst e1
        rw [if_pos rfl,hyk.2,htk]
        have e2:(if y.k=4∧y.n=y.n then 1 else 0)=1:=if_pos ⟨hyk.1,rfl⟩
        rw [e2]
        simp only [Option.getD_some,Option.isSome_some,if_true]
        rw [hqv];omega
       ·have e3:(if y.k=4∧y.n=n then 1 else 0)=0:=if_neg (fun hh=>e1 hh.2)
        rw [if_neg e1,hl n,htk n,e3];rfl
      have HO:=zH (And.intro hb (And.intro hpm (And.intro hl2 hq)))
      have HQ:=zH (show wrap64 (q + 1)=q + 1 by unfold wrap64;omega)
      clear hb hpm hl hl2 hy hcells htk hof hq hqv hqb hyk
      go_wp2_with fail
      refine ck.mono ?_
      rintro en W6 ⟨rfl,hb6⟩
      obtain ⟨z0,z1,z2,-⟩:=hb6.three (MapKept.heap_alloc wr3 (.cells y.ca 27)).1
      have hpm6:=HO.out.2.1.bl (hbb0.trans hb6)
      have lk:=lookI hpm6 y.n (rfl:W6.heap[w.heap.size]?=W6.heap[w.heap.size]?)
      rw [← HO.out.2.2.2] at lk
      obtain ⟨es',c',hput,hpm7⟩:=putI hpm6 y.n (wrap64 (q + 1))
      have mu:=hput W6 rfl
      have HB6:=zH (And.intro (hbb0.trans hb6) (hpm7 W6 hpm6.lt))
      clear hb6 hbb0 ck hput hpm7 hpm6
      go_wp2
      go_round
      case rel=>exact ⟨j + 1,_,by omega,by go_num,(HO.out.1.trans HB6.out.1).setMap (Nat.le_refl _) _ _,HB6.out.2,by rw [HQ.out];exact HO.out.2.2.1⟩
      case measure=>simp [intOf];omega
    ·obtain rfl:j=ne:=by omega
     have hl2:∀ n,(get l n).getD 0=if (get h.all n).isSome=true then (occ n h.vals:Int) + occ n e else 0:=fun n=>by
      rw [hl n,HH.out.2.2.1,List.take_length]
     have HO:=zH (And.intro hb (And.intro hpm hl2))
     clear hb hpm hl hl2
     go_wp2
     go_ret
     exact ⟨_,l,rfl,Nat.le_refl _,HO.out.2.1,HO.out.2.2,HO.out.1⟩
end
section
open Go.RowKit
def Hp.has (h:Hp) (n:Int):Bool:=(W.get h.all n).isSome
theorem of_vref (h:Hp) (m:Int):h.of (vref m)=get h.all m:=by unfold Hp.of;exact if_pos rfl
theorem count_refsIn (h:Hp) (n:Int):∀ vs:List V,(h.refsIn vs).count n=if h.has n=true then occ n vs else 0
 | []=>by simp [Hp.refsIn,occ]
 | y :: t=>by
  have ih:=count_refsIn h n t
  have e1:h.refsIn (y :: t)=(if (h.of y).isSome then [y.n] else [])++h.refsIn t:=by
   unfold Hp.refsIn
   rw [List.filter_cons]
   cases (h.of y).isSome<;>simp
  rw [e1,List.count_append,ih]
  have e2:(if (h.of y).isSome then [y.n] else ([]:List Int)).count n=if h.has n=true then (if y.k=4∧y.n=n then 1 else 0) else 0:=by
   by_cases hk:y.k=4
   ·have h1:h.of y=get h.all y.n:=by unfold Hp.of;rw [if_pos hk]
    rw [h1]
    by_cases hn:y.n=n
    ·have h3:(if y.k=4∧y.n=n then 1 else 0)=1:=if_pos ⟨hk,hn⟩
     rw [h3,hn]
     unfold Hp.has
     cases get h.all n<;>simp
    ·have h3:(if y.k=4∧y.n=n then 1 else 0)=0:=if_neg fun hh=>hn hh.2
     have h2:(if (get h.all y.n).isSome=true then [y.n] else ([]:List Int)).count n=0:=by
      cases get h.all y.n<;>simp [hn]
     rw [h2,h3];split<;>rfl
   ·have h1:h.of y=none:=by unfold Hp.of;rw [if_neg hk]
    have h3:(if y.k=4∧y.n=n then 1 else 0)=0:=if_neg fun hh=>hk hh.1
    rw [h1,h3];simp
  rw [e2]
  show _=if h.has n=true then ((if y.k=4∧y.n=n then 1 else 0) + occ n t) else 0
  cases h.has n<;>simp
def totR (h:Hp) (n:Int) (l:List Int):Nat:=(l.map fun m=>(h.refsOf (vref m)).count n).sum
theorem totR_succ {h:Hp} {l:List Int} {j:Nat} {y:Int} (hy:l[j]?=some y) (n:Int):totR h n (l.take (j + 1))=totR h n (l.take j) + (h.refsOf (vref y)).count n:=by
 unfold totR
 rw [List.take_add_one,hy];simp
theorem totR_le (h:Hp) (n:Int) (l:List Int) (j:Nat):totR h n (l.take j)≤totR h n l:=by
 have h1:totR h n l=totR h n (l.take j++l.drop j):=by rw [List.take_append_drop]
 rw [h1]
 unfold totR
 rw [List.map_append,List.sum_append]
 omega
theorem totR_nums {h:Hp} (hnd:(h.all.map (·.1)).Nodup) (n:Int):totR h n h.nums=if h.has n=true then occ n h.vals else 0:=by
 have e1:totR h n h.nums=totR h n (h.all.map (·.1)):=by
  unfold totR Hp.nums
  exact ((rising_perm _).map _).sum_nat
 have e2:∀ l:List (Int × Ob),(∀ p∈l,get h.all p.1=some p.2)→totR h n (l.map (·.1))=if h.has n=true then occ n (l.flatMap fun p=>p.2.values) else 0:=by
  intro l
  induction l with
  | nil=>intro _;simp [totR,occ]
  | cons p t ih =>
   intro hp
   have h1:=hp p List.mem_cons_self
   have h2:=ih fun q hq=>hp q (List.mem_cons_of_mem _ hq)
   have h3:(h.refsOf (vref p.1)).count n=if h.has n=true then occ n p.2.values else 0:=by
    have:h.refsOf (vref p.1)=h.refsIn p.2.values:=by unfold Hp.refsOf;rw [of_vref,h1];rfl
    rw [this];exact count_refsIn h n _
   unfold totR at h2 ⊢
   rw [List.map_cons,List.map_cons,List.sum_cons,h2,h3,List.flatMap_cons,occ_append]
   cases h.has n<;>simp
 rw [e1,e2 h.all fun p hp=>mem_get hnd hp]
 rfl
theorem count_succ {l:List Int} {j:Nat} {y:Int} (hy:l[j]?=some y) (n:Int):(l.take (j + 1)).count n=(l.take j).count n + if y=n then 1 else 0:=by
 rw [List.take_add_one,hy,List.count_append]
 congr 1
 by_cases e:y=n<;>simp [e]
theorem count_take_le (l:List Int) (j:Nat) (n:Int):(l.take j).count n≤l.count n:=by
 have:=List.take_append_drop j l
 have h2:l.count n=(l.take j).count n + (l.drop j).count n:=by rw [← List.count_append,this]
 omega
end
end Go.Proofs.YtlbcbikplfocfaaGreatDoor.W
