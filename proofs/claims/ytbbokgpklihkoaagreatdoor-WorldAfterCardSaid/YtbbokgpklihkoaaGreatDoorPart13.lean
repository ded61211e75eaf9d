/- Sweep Free Lin Lin2 -/
import Derived.Test.YtbbokgpklihkoaaGreatDoorPart12
set_option linter.unusedVariables false
set_option linter.unusedSimpArgs false
namespace Go.Proofs.YtbbokgpklihkoaaGreatDoor.W
section
open Go.RowKit
open Go.ChangeMaps (setBlock)
structure L1 (g:Hp) (es:Array MapEntry) (seen:Array Nat) (wait:List Int):Prop where
 zero:∀ n∈wait,g.refs n=0
 cov:∀ e∈es.toList,seen.contains e.born=true→∀ n,e.key=.int .i64 n→g.refs n=0→n∈wait
 len:wait.length + (leftOf es seen).size≤es.size
theorem L1.start (g:Hp) (es:Array MapEntry):L1 g es #[] [] :=
 ⟨fun n hn=>(by cases hn),fun e _ h=>(by simp at h),(by unfold leftOf;simp only [List.length_nil,Nat.zero_add];exact Array.size_filter_le)⟩
theorem L1.step {g:Hp} {es:Array MapEntry} {seen:Array Nat} {wait:List Int} (p:L1 g es seen wait) (hnd:(es.toList.map (·.born)).Nodup) {e:MapEntry} (he:e∈(leftOf es seen).toList) {n:Int} (hk:e.key=.int .i64 n) (hg:(get g.all n).isSome=true) :
  L1 g es (seen.push e.born) (lookTo g wait n):=by
 have hls:=left_shrinks es seen e he
 have hlen:=p.len
 have hcov:∀ x∈es.toList,(seen.push e.born).contains x.born=true→∀ m,x.key=.int .i64 m→g.refs m=0→m∈wait∨m=n:=fun x hx hc m hm h0=>by
  rw [contains_push] at hc
  rcases Bool.or_eq_true _ _ ▸ hc with h1 | h1
  ·exact .inl (p.cov x hx h1 m hm h0)
  ·have:x=e:=born_inj hnd hx (mem_left he).1 (beq_iff_eq.1 h1)
   subst this
   rw [hk] at hm;cases hm;exact .inr rfl
 unfold lookTo
 by_cases h0:g.refs n=0
 ·rw [if_pos ⟨hg,h0⟩]
  refine ⟨fun m hm=>?_,fun x hx hc m hm hm0=>?_,by rw [List.length_append];simp;omega⟩
  ·rcases List.mem_append.1 hm with hm | hm
   ·exact p.zero m hm
   ·rw [List.mem_singleton] at hm;rw [hm];exact h0
  ·rcases hcov x hx hc m hm hm0 with h | h
   ·exact List.mem_append_left _ h
   ·exact List.mem_append_right _ (by rw [List.mem_singleton];exact h)
 ·rw [if_neg (fun e=>h0 e.2)]
  refine ⟨p.zero,fun x hx hc m hm hm0=>?_,by omega⟩
  rcases hcov x hx hc m hm hm0 with h | h
  ·exact h
  ·rw [h] at hm0;exact absurd hm0 h0
theorem L1.lp {h g:Hp} {e:List V} {es:Array MapEntry} {seen:Array Nat} {wait:List Int} (p:L1 g es seen wait) (h0:(leftOf es seen).size=0) (hsw:Sw h e g) (hlen:es.size=g.all.length) (hgl:g.all.length=h.all.length)
  (hks:∀ n o,get g.all n=some o→∃ x∈es.toList,x.key=.int .i64 n):Lp h e g wait [] 0:=by
 refine ⟨hsw,p.zero,fun n o hn hr=>?_,by have:=p.len;simp;omega,by omega⟩
 obtain ⟨x,hx,hxk⟩:=hks n o hn
 exact .inl (p.cov x hx (all_seen es seen h0 x hx) n hxk hr)
def sliceLen (w:World) (b:Nat):Nat:=match w.cell? ⟨b,0,none⟩ with | some (.slice _ n _)=>n | _=>0
theorem lookTo_len (h:Hp) (wait:List Int) (n:Int):(lookTo h wait n).length≤wait.length + 1:=by
 unfold lookTo;split
 ·simp
 ·omega
theorem ownsRow_pop {w:World} {base g n cap:Nat} {xs:List Value} (h:w.ownsRow base 2 1 (.slice (some ⟨g,0,none⟩) (n + 1) cap) (n + 1) xs):w.ownsRow base 2 1 (.slice (some ⟨g,0,none⟩) n cap) n (xs.take n):=by
 obtain ⟨h1,h2⟩:=h
 refine ⟨by rw [List.length_take];omega,.inr ?_⟩
 rcases h2 with ⟨e,-⟩ | ⟨g',cap',cur,e,q1,q2,q3,q4,q5,q6⟩
 ·cases e
 ·cases e
  refine ⟨g,cap,cur,rfl,q1,q2,by omega,q4,q5,?_⟩
  rw [← q6,List.take_take]
  congr 1;omega
theorem Wait.last {wb base:Nat} {wait:List Int} {n:Int} {v:Value} {w:World} (h:Wait wb base (wait++[n]) v w) :
  ∃ g cap,v=.slice (some ⟨g,0,none⟩) (wait.length + 1) cap∧w.cell? ⟨g,wait.length,none⟩=some (.int .i64 n)∧wait.length + 1≤cap∧g < w.heap.size:=by
 have hr:=h.row
 rw [List.length_append] at hr
 rcases hr.2 with ⟨rfl,h0⟩ | ⟨g,cap,cur,rfl,-,hg,hc,-⟩
 ·simp at h0
 ·have:=hr.cellAt wait.length (by simp)
  refine ⟨g,cap,rfl,?_,hc,(zN hg).1⟩
  rw [this]
  simp [ints]
theorem Wait.popped {wb base:Nat} {wait:List Int} {n:Int} {g cap:Nat} {w:World} (h:Wait wb base (wait++[n]) (.slice (some ⟨g,0,none⟩) (wait.length + 1) cap) w) :
  Wait wb base wait (.slice (some ⟨g,0,none⟩) wait.length cap) (w.setCell ⟨wb,0,none⟩ (.slice (some ⟨g,0,none⟩) wait.length cap)):=by
 have hrr:w.ownsRow base 2 1 (.slice (some ⟨g,0,none⟩) (wait.length + 1) cap) (wait.length + 1) (ints (wait++[n])):=by
  have:=h.row
  rwa [List.length_append] at this
 have hne:g≠wb:=by
  rintro rfl
  rcases hrr.2 with ⟨e,-⟩ | ⟨g',cap',cur,e,-,q2,-⟩
  ·cases e
  ·cases e
   rw [h.box] at q2
   injection q2 with q2
   injection q2 with _ e2 _;exact absurd e2 (by decide)
 refine ⟨?_,?_⟩
 ·rw [heap_setCell_same w wb 0 _ _ _ h.box];rfl
 ·have h2:=ownsRow_pop (n:=wait.length) hrr
  rw [show (ints (wait++[n])).take wait.length=ints wait by simp [ints,List.map_append]] at h2
  exact ⟨h2.1,h2.2.elim .inl fun ⟨g',cap',cur,e,q1,q2,q⟩=>.inr ⟨g',cap',cur,e,q1,(Below.heap_setCell _ _ _ _ (by cases e;exact hne)).trans q2,q⟩⟩
theorem SwSt.popped {w:World} {hp:Nat} {F:Foot} {hb wb:Nat} {W:World} {g:Hp} {wait:List Int} {n:Int} {F':Foot} {gb cap:Nat} (s:SwSt w hp F hb wb W g (wait++[n]) F' (.slice (some ⟨gb,0,none⟩) (wait.length + 1) cap)) :
  SwSt w hp F hb wb (W.setCell ⟨wb,0,none⟩ (.slice (some ⟨gb,0,none⟩) wait.length cap)) g wait F' (.slice (some ⟨gb,0,none⟩) wait.length cap):=by
 have h1:=s.ap wb (.inl rfl)
 have hoth:∀ b,b≠wb→(W.setCell ⟨wb,0,none⟩ (.slice (some ⟨gb,0,none⟩) wait.length cap)).heap[b]?=W.heap[b]?:=fun b h=>Below.heap_setCell _ _ _ _ h
 have hf:∀ b,CFoot wb (.slice (some ⟨gb,0,none⟩) wait.length cap) b→CFoot wb (.slice (some ⟨gb,0,none⟩) (wait.length + 1) cap) b:=fun b hb=>hb.elim .inl fun e=>.inr e
 exact ⟨s.r.setLoc (p:=⟨wb,0,none⟩) h1.1 _,s.st.setCell (.inl (s.ge wb (.inl rfl))) _,(hoth _ h1.2.symm).trans s.box,s.nb,s.wt.popped,fun b hb=>s.ap b (hf b hb),fun b hb=>s.ge b (hf b hb)⟩
structure S1 (w:World) (hp:Nat) (F:Foot) (hb wb bi ba:Nat) (es:Array MapEntry) (clock:Nat) (g:Hp) (wr:World) (seen:Array Nat) (wait:List Int) (F':Foot) (v:Value):Prop where
 s:SwSt w hp F hb wb wr g wait F' v
 it:wr.heap[bi]?=some (.mapIter (some ba) clock seen clock)
 nit:¬ F' bi∧¬ CFoot wb v bi∧bi≠hb
 am:wr.heap[ba]?=some (.map es clock)
 ham:F' ba
 l:L1 g es seen wait
theorem small_vals {W:World} {hp:Nat} {h:Hp} {r:Int→Int} {F:Foot} {e:List V} (hr:HR W hp (h.withRefs r) F) (h1:h.all.length≤big) (h2:e.length≤big):h.vals.length + e.length < 4611686018427387904:=by
 obtain ⟨L,hr⟩:=hr
 have hv:∀ p∈h.all,p.2.values.length≤2097152:=fun p hp2=>by
  have e1:h.all=L.cos.map fun c=>(c.n,c.o):=hr.eq
  rw [e1] at hp2
  obtain ⟨c,hc,rfl⟩:=List.mem_map.1 hp2
  exact ents_len c.o (hr.obs c hc).few (hr.obs c hc).dict.few.2
 have key:∀ l:List (Int × Ob),(∀ p∈l,p.2.values.length≤2097152)→(l.flatMap fun p=>p.2.values).length≤l.length * 2097152:=by
  intro l
  induction l with
  | nil=>intro _;simp
  | cons p t ih =>
   intro h
   have h1:=h p List.mem_cons_self
   have h2:=ih fun q hq=>h q (List.mem_cons_of_mem _ hq)
   rw [List.flatMap_cons,List.length_append,List.length_cons];omega
 have h3:=key _ hv
 unfold Hp.vals
 replace h1:h.all.length≤1048576:=h1
 replace h2:e.length≤1048576:=h2
 omega
set_option maxRecDepth 100000 in
set_option maxHeartbeats 16000000 in
theorem sweep_any (w:World) (hp:Nat) (h:Hp) (F:Foot) (r:HR w hp h F) (x:Value) (e:List V) (hx:Vx F w x e) (he:e.length≤big) (hcons:Cons h []) (hsm:h.all.length≤big) :
  Calls Tryz.prog 94 #[.pointer (some ⟨hp,0,none⟩),x] w fun en w'=>∃ h',en=.returned (.int .i64 ((h.all.length:Int) - h'.all.length))∧HStep w hp F h' w'∧Swept h e h':=by
 have HX:=zH hx
 have HE:=zH (And.intro he (And.intro hcons hsm))
 have HRR:=zH r
 have ch:=hold_H (w.alloc (.cells #[.pointer (some ⟨hp,0,none⟩)] 41)) hp h F (r.bl (Bl.al _ _)) 1 x e (hx.bl (Bl.al _ _)).vs he
 clear hx he hcons hsm r
 go_enter Tryz.func94,Tryz.ntmps94
 go_wp2_with fail
 refine ch.mono ?_
 rintro en W2 ⟨rfl,F2,r2,st2⟩
 have hb2:W2.heap[w.heap.size]?=some (.cells #[.pointer (some ⟨hp,0,none⟩)] 41 (0,0)):=(st2.block _ (by rw [zL];omega) (fun hf=>by have:=HRR.out.lt _ hf;omega)).trans (MapKept.heap_alloc w _).1
 have hsz2:=st2.size
 rw [zL] at hsz2
 have g0:W2.cell? ⟨w.heap.size,0,none⟩=some (.pointer (some ⟨hp,0,none⟩)):=by rw [cell_of hb2];rfl
 obtain ⟨L,hr2⟩:=id r2
 obtain ⟨es,clock,hm,hes,hbn⟩:=hr2.both
 obtain ⟨⟨f1,f2,f3⟩,f4,f5,f6,f7⟩:=hr2.head
 have hrg:=run_range_map (P:=Tryz.prog) (W2.alloc (.cells #[.slice none 0 0] 114)) 93 2 103 L.am es clock Tryz.underlying93 ((Below.heap_alloc _ _ _ f6).trans hm)
 rw [zL] at hrg
 clear ch f2 f3 f4 f7
 have hn0:¬ w.heap.size=W2.heap.size:=by omega
 have hn1:¬ hp=W2.heap.size:=by omega
 have hl0:w.heap.size < W2.heap.size:=by omega
 have hsmall:=small_vals r2 HE.out.2.2 HE.out.1
 have hsnd:es.toList.map (·.born) |>.Nodup:=hbn.2
 have hent:∀ x∈es.toList,∃ c∈L.cos,x.key=.int .i64 c.n∧x.val=.pointer (some ⟨c.ob,0,none⟩):=by
  intro x hmem
  obtain ⟨i,hi⟩:=List.mem_iff_getElem?.1 hmem
  have hk:=congrArg (fun l=>l[i]?) hes.keys
  have hv:=congrArg (fun l=>l[i]?) hes.vals
  simp only [List.getElem?_map,hi,Option.map_some] at hk hv
  cases hc:L.cos[i]? with
  | none=>rw [hc] at hk;cases hk
  | some c =>
   rw [hc] at hk hv
   simp only [Option.map_some,Option.some.injEq] at hk hv
   exact ⟨c,List.mem_of_getElem? hc,hk,hv⟩
 have HENT:=zH hent
 have HSM:=zH hsmall
 have HKEYS:=zH hes.keys
 have HR2:=zH hr2
 have HM:=zH hm
 have HBN:=zH hbn
 have HR2':=zH r2
 have ST2:=zH st2
 have HB2:=zH hb2
 clear hent hes hr2 hm hbn r2 st2 hb2 hsmall hsnd
 go_wp2
 go_loopw [7] (fun _ wr=>∃ (seen:Array Nat) (wait:List Int) (v:Value),S1 w hp F w.heap.size W2.heap.size (W2.heap.size + 1) L.am es clock (h.withRefs (hold 1 h.refs e)) wr seen wait F2 v) (fun _ wr=>(leftOf es (wr.iterSeen (W2.heap.size + 1))).size)
 case atStart =>
  refine ⟨#[],[],.slice none 0 0,⟨⟨?_,?_,?_,?_,?_,?_,?_⟩,?_,?_,?_,?_,L1.start _ _⟩⟩
  ·exact (HR2'.out.bl (Bl.al _ _)).bl (Bl.al _ _)
  ·exact ((((Step.refl HRR.out.lt).alloc (Nat.le_refl _) _).call (by rw [zL];omega) ST2.out).alloc (by omega) _).alloc (by rw [zL];omega) _
  ·exact (Below.heap_alloc _ _ _ (by rw [zL];omega)).trans ((Below.heap_alloc _ _ _ (by omega)).trans HB2.out)
  ·exact fun hf=>(ST2.out.foot _ hf).elim (fun hf=>by have:=HRR.out.lt _ hf;omega) (fun hf=>by rw [zL] at hf;omega)
  ·exact ⟨(Below.heap_alloc _ _ _ (by rw [zL];omega)).trans (MapKept.heap_alloc W2 _).1,World.ownsRow_nil _ _ _ _⟩
  ·rintro b (rfl | hb)
   ·exact ⟨fun hf=>by have:=HR2'.out.lt _ hf;omega,by omega⟩
   ·cases hb
  ·rintro b (rfl | hb)
   ·omega
   ·cases hb
  ·have:=(MapKept.heap_alloc (W2.alloc (.cells #[.slice none 0 0] 114)) (.mapIter (some L.am) clock #[] clock)).1
   rw [zL] at this
   exact this
  ·refine ⟨fun hf=>by have:=HR2'.out.lt _ hf;omega,?_,by omega⟩
   rintro (hb | hb)
   ·omega
   ·cases hb
  ·exact (Below.heap_alloc _ _ _ (by rw [zL];omega)).trans ((Below.heap_alloc _ _ _ f6).trans HM.out)
  ·exact HR2.out.own.2.1
 case round =>
  obtain ⟨seen,wait,v,hS⟩:=hrel
  have hitl:=(zN hS.it).1
  have hF2:=HR2'.out.lt
  rcases run_next_at (P:=Tryz.prog) wr 0 (W2.heap.size + 1) L.am clock clock seen es clock hS.it hS.am HBN.out.1 (Nat.le_refl _) with ⟨h0,hrun⟩ | ⟨x1,hx1,w1,hw1,hrun⟩
  ·have hnx:∀ ty,(Instr.next (.pointer (some ⟨W2.heap.size + 1,0,none⟩)) false ty).run Tryz.prog wr=_:=fun _=>hrun
   have HS:=zH hS
   have HH0:=zH h0
   have hlp:Lp h e (h.withRefs (hold 1 h.refs e)) wait [] 0:=by
    have h3:=congrArg List.length HKEYS.out
    have h4:=congrArg List.length HR2.out.eq
    simp only [List.length_map,Array.length_toList] at h3 h4
    have h5:=HE.out.2.2
    replace h5:h.all.length≤1048576:=h5
    refine hS.l.lp h0 (Sw.start HE.out.2.1 HSM.out) (by rw [h3];exact h4.symm) rfl fun n o hn=>?_
    rw [HR2.out.eq] at hn
    obtain ⟨c,hc,e2⟩:=List.mem_map.1 (get_mem hn)
    cases e2
    have:(Value.int .i64 c.n)∈(L.cos.map fun c=>(c.n,c.ob)).map (fun p=>Value.int .i64 p.1):=List.mem_map.2 ⟨_,List.mem_map.2 ⟨c,hc,rfl⟩,rfl⟩
    rw [← HKEYS.out] at this
    obtain ⟨x,hx,hxk⟩:=List.mem_map.1 this
    exact ⟨x,hx,hxk⟩
   have HS0:=zH (And.intro hS.s hlp)
   clear hS hrun h0 hitl HS HH0 hlp
   have hl4:=HE.out.2.2
   replace hl4:h.all.length≤1048576:=hl4
   go_wp2
   clear hrg hnx hn0 hn1 hl0 f1 f5 f6 g0 HENT HKEYS HR2 HM HBN HB2 hF2
   go_loopw [8] (fun v8 wr=>∃ (g:Hp) (wait:List Int) (F3:Foot) (v:Value) (k:Nat),SwSt w hp F w.heap.size W2.heap.size wr g wait F3 v∧Lp h e g wait [] k∧v8=.int .i64 k) (fun v8 wr=>sliceLen wr W2.heap.size + (h.all.length - (intOf v8).toNat) * 2097153)
   case atStart=>exact ⟨_,_,_,_,0,HS0.out.1,HS0.out.2,rfl⟩
   case round =>
    obtain ⟨g,wait,F3,v,k,hs,hlp,rfl⟩:=hrel
    obtain ⟨q1,q2⟩:=hs.wt.cells
    have g0:wr.cell? ⟨w.heap.size,0,none⟩=some (.pointer (some ⟨hp,0,none⟩)):=by rw [cell_of hs.box];rfl
    have hk2:k≤1048576:=by have:=hlp.freed;omega
    rcases List.eq_nil_or_concat wait with rfl | ⟨wait,n,rfl⟩
    ·obtain ⟨a,c,rfl⟩:=hs.wt.form
     have HS:=zH (And.intro hs hlp)
     have ch:=hold_H wr hp g F3 hs.r (-1) x e (HX.out.step hs.st).vs HE.out.1
     clear hs hlp
     rw [List.length_nil] at q1
     go_wp2_with fail
     refine ch.mono ?_
     rintro en W4 ⟨rfl,h4⟩
     have HFIN:=zH (show ∃ h',Ending.returned (.int .i64 k)=.returned (.int .i64 ((h.all.length:Int) - h'.all.length))∧HStep w hp F h' W4∧Swept h e h' from
      ⟨_,by have:=HS.out.2.freed;show _=Ending.returned (.int .i64 ((h.all.length:Int) - g.all.length));rw [show ((h.all.length:Int) - g.all.length)=k by omega],HStep.trans HS.out.1.st h4,HS.out.2.swept HSM.out⟩)
     clear h4 ch
     go_wp2
     go_ret
     exact HFIN.out
    ·rw [List.concat_eq_append] at hs hlp
     obtain ⟨gb,cap,rfl,hcl,hcap,hgl⟩:=hs.wt.last
     have hwl:wait.length + 1≤4398046511104:=by have:=hlp.len;simp at this;omega
     obtain ⟨m,hm⟩:∃ m,m=wait.length:=⟨_,rfl⟩
     have hs2:=hs.popped
     rw [← hm] at hs2 q1 hcl hcap hwl
     have HS:=zH (And.intro hs hlp)
     have HS2:=zH hs2
     have HMM:=zH hm
     obtain ⟨W3,hW3⟩:∃ W3,W3=wr.setCell ⟨W2.heap.size,0,none⟩ (.slice (some ⟨gb,0,none⟩) m cap):=⟨_,rfl⟩
     have HW3:=zH hW3
     obtain ⟨L3,r3⟩:=hs2.r
     obtain ⟨⟨f1,f2,f3⟩,f4,f5,f6,f7⟩:=r3.head
     have hb3:(wr.setCell ⟨W2.heap.size,0,none⟩ (.slice (some ⟨gb,0,none⟩) m cap)).cell? ⟨w.heap.size,0,none⟩=some (.pointer (some ⟨hp,0,none⟩)):=by rw [cell_of hs2.box];rfl
     rcases r3.find n with ⟨e1,e2⟩ | ⟨c,hc,hcn,e1,e2⟩
     ·have lk:(Instr.lookup 93 (.map (some L3.am)) (.int .i64 n) false).run Tryz.prog (wr.setCell ⟨W2.heap.size,0,none⟩ (.slice (some ⟨gb,0,none⟩) m cap))=.ok (.pointer none) (wr.setCell ⟨W2.heap.size,0,none⟩ (.slice (some ⟨gb,0,none⟩) m cap)):=by
       rw [r3.look n _ rfl,e2];rfl
      have HG:=zH (hlp.gone e1)
      clear hs hlp hs2 hm r3 e1 e2 f2 f3 f4 f5 f6 f7 hW3
      go_wp2
      go_roundw
      case rel=>exact ⟨g,wait,F3,_,k,HS2.out,HG.out,rfl⟩
      case measure =>
       have e1:sliceLen wr W2.heap.size=m + 1:=by unfold sliceLen;rw [q1]
       have e2:sliceLen (wr.setCell ⟨W2.heap.size,0,none⟩ (.slice (some ⟨gb,0,none⟩) m cap)) W2.heap.size=m:=by unfold sliceLen;rw [HS2.out.wt.cells.1]
       rw [e1,e2];omega
     ·have lk:(Instr.lookup 93 (.map (some L3.am)) (.int .i64 n) false).run Tryz.prog (wr.setCell ⟨W2.heap.size,0,none⟩ (.slice (some ⟨gb,0,none⟩) m cap))=.ok (.pointer (some ⟨c.ob,0,none⟩)) (wr.setCell ⟨W2.heap.size,0,none⟩ (.slice (some ⟨gb,0,none⟩) m cap)):=by
       rw [r3.look n _ rfl,e2];rfl
      have hvl:=ents_len c.o (r3.obs c hc).few (r3.obs c hc).dict.few.2
      have HG:=zH (hlp.drop (HE.out.2.1.nd) HSM.out e1 hvl)
      have cd:=drop_any _ hp g F3 ⟨L3,r3⟩ n c.o e1
      have HV:=zH hvl
      clear hs hlp hs2 hm r3 e1 e2 f2 f3 f4 f5 f6 f7 hW3 hvl
      go_wp2_with fail
      refine cd.mono ?_
      rintro en W5 ⟨x5,F5',rfl,r5,st5,vx5,fr5⟩
      obtain ⟨hs5,hk5,hz5⟩:=HS2.out.to r5 st5
      have hap5:∀ b o nn c',x5=.slice (some ⟨b,o,none⟩) nn c'→¬ CFoot W2.heap.size (.slice (some ⟨gb,0,none⟩) m cap) b:=fun b o nn c' e hc=>by
       have h1:=fr5 b o nn c' e
       have h2:=HS2.out.wt.lt b hc
       omega
      obtain ⟨nv,hnv⟩:∃ nv,nv=c.o.values.length:=⟨_,rfl⟩
      obtain ⟨xa,xc,rfl,hxa⟩:∃ a c',x5=.slice a nv c'∧(0 < nv→∃ b o,a=some ⟨b,o,none⟩):=by
       rcases vx5.vs with ⟨rfl,h0⟩ | ⟨b,o,c',rfl,-⟩
       ·exact ⟨none,0,by rw [hnv,h0];rfl,fun h=>by rw [hnv,h0] at h;exact absurd h (by simp)⟩
       ·exact ⟨_,_,by rw [hnv],fun _=>⟨_,_,rfl⟩⟩
      have hnvl:nv≤2097152:=by rw [hnv];exact HV.out
      have HL3:=zH (show ∃ (wait3:List Int) (v3:Value),SwSt w hp F w.heap.size W2.heap.size W5 (g.drop n).1 wait3 F5' v3∧Lp h e (g.drop n).1 wait3 (c.o.values.drop 0) (k + 1)∧Vx F5' W5 (.slice xa nv xc) c.o.values∧(∀ b o nn c',Value.slice xa nv xc=.slice (some ⟨b,o,none⟩) nn c'→¬ CFoot W2.heap.size v3 b)∧wait3.length≤m + 0 from ⟨wait,_,hs5,by rw [List.drop_zero];exact HG.out,vx5,hap5,by rw [HMM.out];omega⟩)
      have HNV:=zH hnv
      have HXA:=zH hxa
      clear hs5 hk5 r5 st5 vx5 fr5 hap5 hnv hxa cd lk hb3
      go_wp2
      go_loopw [57] (fun v57 wr3=>∃ (j:Nat) (wait3:List Int) (v3:Value),j≤nv∧v57=.int .i64 j∧SwSt w hp F w.heap.size W2.heap.size wr3 (g.drop n).1 wait3 F5' v3∧Lp h e (g.drop n).1 wait3 (c.o.values.drop j) (k + 1)∧Vx F5' wr3 (.slice xa nv xc) c.o.values∧(∀ b o nn c',Value.slice xa nv xc=.slice (some ⟨b,o,none⟩) nn c'→¬ CFoot W2.heap.size v3 b)∧wait3.length≤m + j) (fun v57 _=>nv - (intOf v57).toNat)
      case atStart=>exact HL3.out.elim fun wait3 h=>h.elim fun v3 h=>⟨0,wait3,v3,Nat.zero_le _,rfl,h⟩
      case round =>
       rename World=>wr3
       obtain ⟨j,wait3,v3,hj,rfl,hs3,hlp3,hvx,hap3,hw3⟩:=hrel
       have g3:wr3.cell? ⟨w.heap.size,0,none⟩=some (.pointer (some ⟨hp,0,none⟩)):=by rw [cell_of hs3.box];rfl
       by_cases hjn:j < nv
       ·obtain ⟨bb,oo,rfl⟩:=HXA.out (by omega)
        obtain ⟨y,hy⟩:∃ y,c.o.values[j]?=some y:=⟨_,List.getElem?_eq_getElem (by rw [← HNV.out];exact hjn)⟩
        have hdrop:c.o.values.drop j=y :: c.o.values.drop (j + 1):=by
         have hlt:=(List.getElem?_eq_some_iff.1 hy).1
         rw [List.drop_eq_getElem_cons hlt]
         congr 1
         exact (List.getElem?_eq_some_iff.1 hy).2
        rw [hdrop] at hlp3
        have hcells:∀ t u,t < 3→y.cs[t]?=some u→wr3.cell? ⟨bb,oo + (j * 3 + t),none⟩=some u:=fun t u ht hu=>by
         rcases hvx.vs with ⟨e1,-⟩ | ⟨b',o',c',e1,-,-,-,hcell⟩
         ·cases e1
         ·cases e1
          exact hcell _ u ((vcs_at ht hy).trans hu)
        have y0:wr3.cell? ⟨bb,oo + j * 3,none⟩=some (.int .i64 y.k):=hcells 0 _ (by decide) rfl
        have y1:wr3.cell? ⟨bb,oo + j * 3 + 1,none⟩=some (.int .i64 y.n):=hcells 1 _ (by decide) rfl
        have y2:wr3.cell? ⟨bb,oo + j * 3 + 2,none⟩=some (.string (bs y.s)):=hcells 2 _ (by decide) rfl
        have hwl3:wait3.length≤4398046511104:=by have:=hlp3.len;omega
        have hsA:=hs3.bl (Bl.al wr3 (.cells y.ca 23))
        have hl3:w.heap.size < wr3.heap.size:=(zN hs3.box).1
        have hn3:¬ w.heap.size=wr3.heap.size:=by have:=(zN hs3.box).1;omega
        rcases hs3.r.case y with ⟨h0,co⟩ | ⟨L5,c5,r5,hc5,hn5,hk5,h1,co⟩
        ·have co':=co (wr3.alloc (.cells y.ca 23)) (Bl.al _ _)
         have HS3:=zH (And.intro hs3 (And.intro (hlp3.skip h0) (And.intro hvx hap3)))
         clear hs3 hlp3 hvx hap3 hcells hy hdrop h0 co hsA
         go_wp2_with fail
         refine co'.mono ?_
         rintro en W6 ⟨rfl,hb6⟩
         have hbb:Bl wr3 W6:=(Bl.al _ _).trans hb6
         have g6:=hbb.sm g3
         have HB6:=zH hbb
         clear hb6 hbb co'
         go_wp2
         go_round
         case rel=>exact ⟨j + 1,wait3,v3,by omega,by go_num,HS3.out.1.bl HB6.out,HS3.out.2.1,HS3.out.2.2.1.bl HB6.out,HS3.out.2.2.2,by omega⟩
         case measure=>simp [intOf];omega
        ·have co':=co (wr3.alloc (.cells y.ca 23)) (Bl.al _ _)
         have HS3:=zH (And.intro hs3 (And.intro (hlp3.look (by rw [h1];rfl)) (And.intro hvx hap3)))
         clear hs3 hlp3 hvx hap3 hcells hy hdrop h1 co hsA r5 hc5 hn5 hk5
         go_wp2_with fail
         refine co'.mono ?_
         rintro en W6 ⟨rfl,hb6⟩
         have hbb:Bl wr3 W6:=(Bl.al _ _).trans hb6
         have g6:=hbb.sm g3
         obtain ⟨z0,z1,z2,-⟩:=hb6.three (MapKept.heap_alloc wr3 (.cells y.ca 23)).1
         have hs6:=HS3.out.1.bl hbb
         have ck:=look_any W6 hp _ F5' hs6.r y.n w.heap.size W2.heap.size w.heap.size wait3 v3 hs6.box hs6.wt hs6.st.size hwl3
         have HB6:=zH (And.intro hbb hs6)
         clear hb6 hbb co' hs6
         go_wp2_with fail
         refine ck.mono ?_
         rintro en W7 ⟨rfl,hlk⟩
         obtain ⟨v7,hs7,hk7,hz7⟩:=HB6.out.2.looked hlk
         have hvx6:=HS3.out.2.2.1.bl HB6.out.1
         have HREL:=zH (show ∃ v7,SwSt w hp F w.heap.size W2.heap.size W7 (g.drop n).1 (lookTo (g.drop n).1 wait3 y.n) F5' v7∧Vx F5' W7 (.slice (some ⟨bb,oo,none⟩) nv xc) c.o.values∧(∀ b o nn c',Value.slice (some ⟨bb,oo,none⟩) nv xc=.slice (some ⟨b,o,none⟩) nn c'→¬ CFoot W2.heap.size v7 b) from by
          have hbb:bb < W6.heap.size∧¬ CFoot W2.heap.size v3 bb:=⟨by
           rcases hvx6.vs with ⟨e1,-⟩ | ⟨b',o',c',e1,hlt,-⟩
           ·cases e1
           ·cases e1;exact hlt,HS3.out.2.2.2 _ _ _ _ rfl⟩
          have h7:=hk7 bb hbb.1 hbb.2
          refine ⟨v7,hs7,⟨?_,hvx6.out⟩,fun b o nn c' e=>by cases e;exact h7.2⟩
          rcases hvx6.vs with ⟨e1,-⟩ | ⟨b',o',c',e1,hlt,q1,q2,q3⟩
          ·cases e1
          ·cases e1
           exact .inr ⟨bb,oo,xc,by rw [HNV.out],Nat.lt_of_lt_of_le hlt hz7,q1,q2,fun i u hi=>(World.cell?_of_block (w:=W6) (a:=⟨bb,oo + i,none⟩) h7.1).trans (q3 i u hi)⟩)
         clear hlk hs7 hk7 hvx6 ck z0 z1 z2
         go_wp2
         go_round
         case rel=>exact HREL.out.elim fun v7 h=>⟨j + 1,_,v7,by omega,by go_num,h.1,HS3.out.2.1,h.2.1,h.2.2,by have:=lookTo_len (g.drop n).1 wait3 y.n;omega⟩
         case measure=>simp [intOf];omega
       ·obtain rfl:j=nv:=by omega
        have HLP:=zH (show Lp h e (g.drop n).1 wait3 [] (k + 1) from by have:=hlp3;rwa [HNV.out,List.drop_length] at this)
        have HS3:=zH hs3
        clear hs3 hlp3 hvx hap3
        go_wp2
        refine ⟨⟨_,wait3,F5',v3,k + 1,HS3.out,HLP.out,by simp⟩,?_⟩
        have e1:sliceLen wr W2.heap.size=m + 1:=by unfold sliceLen;rw [q1]
        have e2:sliceLen wr3 W2.heap.size=wait3.length:=by
         obtain ⟨a3,c3,e3⟩:=HS3.out.wt.form
         have:=HS3.out.wt.cells.1
         rw [e3] at this
         unfold sliceLen;rw [this]
        have h1:=HLP.out.freed
        rw [e1,e2]
        simp only [intOf]
        omega
  ·obtain ⟨c,hc,hkey,hval⟩:=HENT.out x1 (mem_left hx1).1
   have hbw1:Bl wr w1:=by rcases hw1 with rfl | rfl;exact Bl.refl _;exact Bl.dr _
   have hlt1:W2.heap.size + 1 < w1.heap.size:=Nat.lt_of_lt_of_le hitl hbw1.sz
   obtain ⟨W,hW⟩:∃ W,W=setBlock w1 (W2.heap.size + 1) (.mapIter (some L.am) clock (seen.push x1.born) clock):=⟨_,rfl⟩
   have hs1:=hS.s.bl hbw1
   have hoth:∀ b,b≠W2.heap.size + 1→W.heap[b]?=w1.heap[b]?:=fun b h=>by rw [hW];exact setBlock_other h _
   have hWs:W.heap.size=w1.heap.size:=by rw [hW,setBlock_size]
   have hsW:SwSt w hp F w.heap.size W2.heap.size W (h.withRefs (hold 1 h.refs e)) wait F2 v:=by
    refine ⟨hs1.r.keep (by omega) fun b hb=>hoth b (fun e=>hS.nit.1 (by rw [← e];exact hb)),?_,(hoth _ (by omega)).trans hs1.box,hs1.nb,hs1.wt.keep fun b hb=>hoth b (fun e=>hS.nit.2.1 (by rw [← e];exact hb)),hs1.ap,hs1.ge⟩
    exact ⟨(by rw [hW];exact hs1.st.os),(by rw [hW];exact hs1.st.tape),(by rw [hW];exact hs1.st.output),by rw [hWs];exact hs1.st.size,fun b h1 h2=>(hoth b (by omega)).trans (hs1.st.block b h1 h2),hs1.st.foot,fun b hb=>by rw [hWs];exact hs1.st.lt b hb⟩
   have hitW:W.heap[W2.heap.size + 1]?=some (.mapIter (some L.am) clock (seen.push x1.born) clock):=by rw [hW];exact setBlock_at hlt1 _
   have hamW:W.heap[L.am]?=some (.map es clock):=(hoth _ (by omega)).trans ((hbw1.at (zN hS.am).1).trans hS.am)
   have hen:=run_entry_at (P:=Tryz.prog) W (W2.heap.size + 1) L.am clock seen es clock x1 hitW hamW (mem_left hx1).1 HBN.out.2
   rw [hkey,hval] at hrun hen
   rw [← hW] at hrun
   have hnx:∀ ty,(Instr.next (.pointer (some ⟨W2.heap.size + 1,0,none⟩)) false ty).run Tryz.prog wr=_:=fun _=>hrun
   have hgs:(get (h.withRefs (hold 1 h.refs e)).all c.n).isSome=true:=by
    rcases HR2.out.find c.n with ⟨e1,-⟩ | ⟨c2,-,-,e1,-⟩
    ·rw [HR2.out.eq] at e1
     have:=mem_get (l:=L.cos.map fun c=>(c.n,c.o)) (a:=c.n) (b:=c.o) (by have:=HR2.out.nd;rw [HR2.out.eq] at this;exact this) (List.mem_map.2 ⟨c,hc,rfl⟩)
     rw [this] at e1;cases e1
    ·rw [e1];rfl
   have hl1:=hS.l.step HBN.out.2 hx1 hkey hgs
   have hwl:wait.length≤4398046511104:=by
    have h1:=hS.l.len
    have h2:es.size=h.all.length:=by
     have h3:=congrArg List.length HKEYS.out
     have h4:=congrArg List.length HR2.out.eq
     simp only [List.length_map,Array.length_toList] at h3 h4
     rw [h3];exact h4.symm
    have h5:=HE.out.2.2
    replace h5:h.all.length≤1048576:=h5
    omega
   have ck:=look_any W hp _ F2 hsW.r c.n w.heap.size W2.heap.size w.heap.size wait v hsW.box hsW.wt hsW.st.size hwl
   have HS:=zH (And.intro hsW (And.intro hitW (And.intro hamW (And.intro hl1 (And.intro hS.nit hS.ham)))))
   have HM1:=zH (And.intro (left_shrinks es seen x1 hx1) hS.it)
   clear hsW hitW hamW hl1 hS hoth hW hs1 hbw1 hw1 hrun hkey hval hx1 hgs hwl hlt1 hitl
   go_wp2_with fail
   refine ck.mono ?_
   rintro en W3 ⟨rfl,hlk⟩
   obtain ⟨v',hs3,hk3,hz3⟩:=HS.out.1.looked hlk
   have HREL:=zH (show S1 w hp F w.heap.size W2.heap.size (W2.heap.size + 1) L.am es clock (h.withRefs (hold 1 h.refs e)) W3 (seen.push x1.born) (lookTo (h.withRefs (hold 1 h.refs e)) wait c.n) F2 v' from by
    have hi:=(zN HS.out.2.1).1
    have ha:=(zN HS.out.2.2.1).1
    obtain ⟨n1,n2,n3⟩:=HS.out.2.2.2.2.1
    have k1:=hk3 _ hi n2
    exact ⟨hs3,k1.1.trans HS.out.2.1,⟨n1,k1.2,n3⟩,(hk3 _ ha (fun hc=>(HS.out.1.ap _ hc).1 HS.out.2.2.2.2.2)).1.trans HS.out.2.2.1,HS.out.2.2.2.2.2,HS.out.2.2.2.1⟩)
   clear hlk hs3 hk3 ck
   go_wp2
   go_roundw
   case rel=>exact ⟨_,_,_,HREL.out⟩
   case measure =>
    have e1:wr.iterSeen (W2.heap.size + 1)=seen:=by unfold World.iterSeen;rw [HM1.out.2]
    have e2:W3.iterSeen (W2.heap.size + 1)=seen.push x1.born:=by unfold World.iterSeen;rw [HREL.out.it]
    rw [e1,e2]
    exact HM1.out.1
end
section
open Go.RowKit
structure Ix (F:Foot) (w:World) (x:Value) (l:List Int):Prop where
 is:(x=.slice none 0 0∧l=[])∨∃ b o c,x=.slice (some ⟨b,o,none⟩) l.length c∧b < w.heap.size∧l.length≤c∧c≤maxLen∧∀ (j:Nat) (n:Int),l[j]?=some n→w.cell? ⟨b,o + j,none⟩=some (.int .i64 n)
 out:∀ b o n c,x=.slice (some ⟨b,o,none⟩) n c→¬ F b
theorem Ix.step {F F':Foot} {w w':World} {x:Value} {l:List Int} (h:Ix F w x l) (s:Step w.heap.size F w w' F'):Ix F' w' x l:=by
 obtain ⟨h1,h2⟩:=h
 rcases h1 with ⟨rfl,rfl⟩ | ⟨b,o,c,rfl,hb,q1,q2,q3⟩
 ·exact ⟨.inl ⟨rfl,rfl⟩,fun b o n c e=>by cases e⟩
 ·have hn:=h2 b o _ c rfl
  exact ⟨.inr ⟨b,o,c,rfl,Nat.lt_of_lt_of_le hb s.size,q1,q2,fun j u hj=>(s.cellAt b (o + j) hb hn).trans (q3 j u hj)⟩,fun b' o' n' c' e hf=>by
   cases e
   exact (s.foot _ hf).elim hn (fun h=>by omega)⟩
theorem Ix.bl {F:Foot} {w w':World} {x:Value} {l:List Int} (h:Ix F w x l) (hb:Bl w w'):Ix F w' x l :=
 ⟨h.is.elim .inl fun ⟨b,o,c,e,h1,h2,h3,h4⟩=>.inr ⟨b,o,c,e,Nat.lt_of_lt_of_le h1 hb.sz,h2,h3,fun j n hj=>hb.sm (h4 j n hj)⟩,h.out⟩
theorem free_snoc (l:List Int) (n:Int):∀ h:Hp,h.free (l++[n])=match get (h.free l).1.all n with | some _=>(((h.free l).1.drop n).1,(h.free l).2 + 1) | none=>h.free l:=by
 induction l with
 | nil =>
  intro h
  simp only [List.nil_append,Hp.free]
  cases get h.all n<;>rfl
 | cons m t ih =>
  intro h
  simp only [List.cons_append,Hp.free]
  cases get h.all m with
  | none=>exact ih h
  | some o =>
   simp only [ih]
   cases get ((h.drop m).1.free t).1.all n<;>rfl
set_option maxRecDepth 100000 in
set_option maxHeartbeats 8000000 in
theorem free_any (w:World) (hp:Nat) (h:Hp) (F:Foot) (r:HR w hp h F) (x:Value) (l:List Int) (hx:Ix F w x l) (hl:l.length≤big) :
  Calls Tryz.prog 101 #[.pointer (some ⟨hp,0,none⟩),x] w fun e w'=>e=.returned (.int .i64 (h.free l).2)∧HStep w hp F (h.free l).1 w':=by
 obtain ⟨n,hn⟩:∃ n,n=l.length:=⟨_,rfl⟩
 obtain ⟨xa,xc,rfl,hxa⟩:∃ a c,x=.slice a n c∧(0 < n→∃ b o,a=some ⟨b,o,none⟩):=by
  rcases hx.is with ⟨rfl,rfl⟩ | ⟨b,o,c,rfl,-⟩
  ·exact ⟨none,0,by rw [hn];rfl,fun h=>by rw [hn] at h;exact absurd h (by simp)⟩
  ·exact ⟨some ⟨b,o,none⟩,c,by rw [hn],fun _=>⟨b,o,rfl⟩⟩
 rw [← hn] at hl
 replace hl:n≤1048576:=hl
 have HN:=zH hn
 have HX:=zH hxa
 have HS:=zH (show ∃ F',HR w hp (h.free (l.take 0)).1 F'∧Step w.heap.size F w w F'∧Ix F' w (.slice xa n xc) l∧(h.free (l.take 0)).2≤0 from ⟨F,by rw [List.take_zero];exact r,Step.refl r.lt,hx,by rw [List.take_zero];exact Nat.le_refl _⟩)
 clear hx hn r hxa
 go_enter Tryz.func101,Tryz.ntmps101
 go_wp2
 go_loopw [5,10] (fun v5 v10 wr=>∃ (k:Nat) (F':Foot),k≤n∧v10=.int .i64 k∧v5=.int .i64 (h.free (l.take k)).2∧HR wr hp (h.free (l.take k)).1 F'∧Step w.heap.size F w wr F'∧Ix F' wr (.slice xa n xc) l∧(h.free (l.take k)).2≤k) (fun _ v10 _=>n - (intOf v10).toNat)
 case atStart=>exact HS.out.elim fun F' q=>⟨0,F',Nat.zero_le _,rfl,by rw [List.take_zero];rfl,q⟩
 case round =>
  obtain ⟨k,F',hk,rfl,rfl,hr,hst,hix,hc⟩:=hrel
  by_cases hlt:k < n
  ·obtain ⟨b,o,rfl⟩:=HX.out (by omega)
   obtain ⟨m,hm⟩:∃ m,l[k]?=some m:=⟨_,List.getElem?_eq_getElem (by rw [← HN.out];exact hlt)⟩
   have y0:wr.cell? ⟨b,o + k,none⟩=some (.int .i64 m):=by
    rcases hix.is with ⟨e1,-⟩ | ⟨b',o',c',e1,-,-,-,hcell⟩
    ·cases e1
    ·cases e1;exact hcell k m hm
   have htk:l.take (k + 1)=l.take k++[m]:=by rw [List.take_add_one,hm];rfl
   obtain ⟨g,hg⟩:∃ g,g=(h.free (l.take k)).1:=⟨_,rfl⟩
   obtain ⟨f,hf⟩:∃ f,f=(h.free (l.take k)).2:=⟨_,rfl⟩
   rw [← hg] at hr
   rw [← hf] at hc ⊢
   rcases hr.case (vref m) with ⟨h0,co⟩ | ⟨L,c,r1,hcm,hcn,hck,h1,co⟩
   ·have hof:get g.all m=none:=by unfold Hp.of at h0;rwa [if_pos rfl] at h0
    have hfs:h.free (l.take (k + 1))=h.free (l.take k):=by rw [htk,free_snoc,← hg,hof]
    have HK:=zH (show (h.free (l.take (k + 1))).1=g∧(h.free (l.take (k + 1))).2=f∧HR wr hp g F'∧Step w.heap.size F w wr F'∧Ix F' wr (.slice (some ⟨b,o,none⟩) n xc) l from ⟨by rw [hfs,hg],by rw [hfs,hf],hr,hst,hix⟩)
    have co':=co wr (Bl.refl _)
    clear hr hst hix htk hm hg hf h0 hof hfs co
    go_wp2_with fail
    refine co'.mono ?_
    rintro en W1 ⟨rfl,hb1⟩
    have HB:=zH hb1
    clear hb1 co'
    go_wp2
    go_round
    case rel=>exact ⟨k + 1,F',by omega,by go_num,by rw [HK.out.2.1],by rw [HK.out.1];exact HK.out.2.2.1.bl HB.out,HK.out.2.2.2.1.bl HB.out HK.out.2.2.2.1.size,HK.out.2.2.2.2.bl HB.out,by rw [HK.out.2.1];omega⟩
    case measure=>simp [intOf];omega
   ·have hof:get g.all m=some c.o:=by unfold Hp.of at h1;rwa [if_pos rfl] at h1
    have hfs:h.free (l.take (k + 1))=((g.drop m).1,f + 1):=by rw [htk,free_snoc,← hg,hof,hf]
    have HK:=zH (show (h.free (l.take (k + 1))).1=(g.drop m).1∧(h.free (l.take (k + 1))).2=f + 1∧HR wr hp g F'∧Step w.heap.size F w wr F'∧Ix F' wr (.slice (some ⟨b,o,none⟩) n xc) l from ⟨by rw [hfs],by rw [hfs],hr,hst,hix⟩)
    have co':=co wr (Bl.refl _)
    clear hr hst hix htk hm hg hf h1 hfs co r1 hcm hcn hck
    have HOF:=zH hof
    clear hof
    go_wp2_with fail
    refine co'.mono ?_
    rintro en W1 ⟨rfl,hb1⟩
    have cd:=drop_any W1 hp g F' (HK.out.2.2.1.bl hb1) m c.o HOF.out
    have HB:=zH hb1
    clear hb1 co'
    go_wp2_with fail
    refine cd.mono ?_
    rintro en W2 ⟨x2,F2,rfl,r2,st2,-,-⟩
    have HD:=zH (show HR W2 hp (g.drop m).1 F2∧Step w.heap.size F w W2 F2∧Ix F2 W2 (.slice (some ⟨b,o,none⟩) n xc) l from ⟨r2,(HK.out.2.2.2.1.bl HB.out HK.out.2.2.2.1.size).call (Nat.le_trans HK.out.2.2.2.1.size HB.out.sz) st2,(HK.out.2.2.2.2.bl HB.out).step st2⟩)
    clear r2 st2 cd
    go_wp2
    go_round
    case rel=>exact ⟨k + 1,F2,by omega,by go_num,by rw [HK.out.2.1];go_num,by rw [HK.out.1];exact HD.out.1,HD.out.2.1,HD.out.2.2,by rw [HK.out.2.1];omega⟩
    case measure=>simp [intOf];omega
  ·obtain rfl:k=n:=by omega
   have hl2:l.take k=l:=by rw [HN.out];exact List.take_length
   rw [hl2] at hr hc ⊢
   have HREL:=zH (show HStep w hp F (h.free l).1 wr from ⟨F',hr,hst⟩)
   clear hst hr hix hl2
   go_wp2
   go_ret
   exact ⟨rfl,HREL.out⟩
end
section
open Go.RowKit
theorem Ix.form {F:Foot} {w:World} {x:Value} {l:List Int} (h:Ix F w x l):∃ a c,x=.slice a l.length c∧l.length≤c∧(0 < l.length→∃ b o,a=some ⟨b,o,none⟩∧b < w.heap.size∧¬ F b) ∧
  ∀ b o,a=some ⟨b,o,none⟩→∀ (j:Nat) (n:Int),l[j]?=some n→w.cell? ⟨b,o + j,none⟩=some (.int .i64 n):=by
 rcases h.is with ⟨rfl,rfl⟩ | ⟨b,o,c,rfl,q0,q1,q2,q3⟩
 ·exact ⟨none,0,rfl,Nat.le_refl _,fun h=>absurd h (by simp),fun b o e=>by cases e⟩
 ·exact ⟨_,c,rfl,q1,fun _=>⟨b,o,rfl,q0,h.out b o _ c rfl⟩,fun b o e=>by cases e;exact q3⟩
theorem Ix.tail {F:Foot} {w:World} {b o c:Nat} {n:Int} {l:List Int} (h:Ix F w (.slice (some ⟨b,o,none⟩) (l.length + 1) c) (n :: l)):Ix F w (.slice (if c=1 then some ⟨b,o,none⟩ else some ⟨b,o + 1,none⟩) l.length (c - 1)) l:=by
 rcases h.is with ⟨e,-⟩ | ⟨b',o',c',e,q0,q1,q2,q3⟩
 ·cases e
 ·injection e with e1 e2 e3
  injection e1 with e1
  injection e1 with e1 e4 _
  subst e1 e4 e3
  simp only [List.length_cons] at q1
  refine ⟨.inr ?_,fun b' o' n' c' e=>?_⟩
  ·by_cases hc:c=1
   ·rw [if_pos hc]
    have hl:l=[]:=List.eq_nil_of_length_eq_zero (by omega)
    subst hl
    exact ⟨b,o,c - 1,rfl,q0,by simp,by omega,fun j m hj=>by simp at hj⟩
   ·rw [if_neg hc]
    exact ⟨b,o + 1,c - 1,rfl,q0,by omega,by omega,fun j m hj=>by have:=q3 (j + 1) m (by simpa using hj);rw [show o + (j + 1)=o + 1 + j by omega] at this;exact this⟩
  ·have hb:b'=b:=by
    injection e with e1 _ _
    by_cases hc:c=1
    ·rw [if_pos hc] at e1;injection e1 with e1;injection e1 with e1 _ _;exact e1.symm
    ·rw [if_neg hc] at e1;injection e1 with e1;injection e1 with e1 _ _;exact e1.symm
   rw [hb];exact h.out b o _ c rfl
theorem index_int (w:World) (x:Value) (F:Foot) (l:List Int) (hx:Ix F w x l) (hl:l.length≤big) (m:Int) :
  Calls Tryz.prog 439 #[x,.int .i64 m] w fun e w'=>(∃ i:Int,e=.returned (.int .i64 i)∧decide (0≤i)=decide (m∈l))∧w=w':=by
 obtain ⟨n,hn⟩:∃ n,n=l.length:=⟨_,rfl⟩
 obtain ⟨a,c,rfl,-,ha,hcell⟩:=hx.form
 rw [← hn] at hl ha ⊢
 replace hl:n≤1048576:=hl
 have HN:=zH hn
 have HA:=zH (And.intro ha hcell)
 clear hx hn ha hcell
 go_enter Tryz.func439,Tryz.ntmps439
 go_wp2
 go_loopw [8] (fun v8 wr=>wr=w∧∃ k:Nat,k≤n∧v8=.int .i64 k∧m ∉ l.take k) (fun v8 _=>n - (intOf v8).toNat)
 case atStart=>exact ⟨rfl,0,Nat.zero_le _,rfl,by simp⟩
 case round =>
  obtain ⟨rfl,k,hk,rfl,hno⟩:=hrel
  by_cases hlt:k < n
  ·obtain ⟨b,o,rfl,-⟩:=HA.out.1 (by omega)
   obtain ⟨y,hy⟩:∃ y,l[k]?=some y:=⟨_,List.getElem?_eq_getElem (by rw [← HN.out];exact hlt)⟩
   have y0:wr.cell? ⟨b,o + k,none⟩=some (.int .i64 y):=HA.out.2 b o rfl k y hy
   have htk:l.take (k + 1)=l.take k++[y]:=by rw [List.take_add_one,hy];rfl
   by_cases e:m=y
   ·have t0:(m == y)=true:=by simpa using e
    have HE:=zH (show decide (0≤(k:Int))=decide (m∈l) from by
     rw [decide_eq_true (show (0:Int)≤k by omega),decide_eq_true]
     rw [e];exact List.mem_of_getElem? hy)
    clear hno htk hy e
    go_wp2
    go_ret
    exact ⟨⟨_,rfl,HE.out⟩,rfl⟩
   ·have t0:(m == y)=false:=by simpa using e
    have HE:=zH (show m ∉ l.take (k + 1) from by
     rw [htk,List.mem_append];simp only [List.mem_singleton]
     exact fun h=>h.elim hno e)
    clear hno htk hy e
    go_wp2
    go_round
    case rel=>exact ⟨trivial,k + 1,by omega,by go_num,HE.out⟩
    case measure=>simp [intOf];omega
  ·obtain rfl:k=n:=by omega
   have HE:=zH (show decide (0≤(-1:Int))=decide (m∈l) from by
    rw [HN.out,List.take_length] at hno
    rw [decide_eq_false hno];rfl)
   clear hno
   go_wp2
   go_ret
   exact ⟨⟨_,rfl,HE.out⟩,rfl⟩
theorem contains_int (w:World) (x:Value) (F:Foot) (l:List Int) (hx:Ix F w x l) (hl:l.length≤big) (m:Int) :
  Calls Tryz.prog 361 #[x,.int .i64 m] w fun e w'=>e=.returned (.bool (decide (m∈l)))∧w=w':=by
 have ci:=index_int w x F l hx hl m
 obtain ⟨a,c,rfl,-⟩:=hx.form
 clear hx
 go_enter Tryz.func361,Tryz.ntmps361
 go_wp2_with fail
 refine ci.mono ?_
 rintro e w' ⟨⟨i,rfl,hi⟩,rfl⟩
 have HI:=zH hi
 clear hi ci
 go_wp2
 go_ret
 exact ⟨by rw [← HI.out];rfl,rfl⟩
end
section
open Go.RowKit
def behindR (row:List Int) (m:Int):Bool:=match row with | []=>false | _ :: t=>decide (m∈t)
theorem behind1_nil (w:World) (b c:Nat) (a:Option Addr) (m:Int) (hb:w.cell? ⟨b,0,none⟩=some (.int .i64 m)) :
  Calls Tryz.prog 481 #[.slice a 0 c,.pointer (some ⟨b,0,none⟩)] w fun e w'=>e=.returned (.bool false)∧Bl w w':=by
 go_enter Tryz.func481,Tryz.ntmps481
 go_wp2
 go_quiet (fail)
 go_wp2
 go_ret
 exact ⟨rfl,by (repeat (first | exact qA _ | assumption | refine qB ?_ _ | refine qC ?_ | refine qD ?_ _ | refine qE ?_ _ (by simp<;>omega) _))⟩
set_option maxRecDepth 100000 in
set_option maxHeartbeats 4000000 in
theorem behind1_cons (w:World) (b:Nat) (x:Value) (F:Foot) (n:Int) (l:List Int) (hx:Ix F w x (n :: l)) (hl:l.length + 1≤big) (m:Int) (hb:w.cell? ⟨b,0,none⟩=some (.int .i64 m)) :
  Calls Tryz.prog 481 #[x,.pointer (some ⟨b,0,none⟩)] w fun e w'=>e=.returned (.bool (decide (m∈l)))∧Bl w w':=by
 obtain ⟨a,c,rfl,hc,ha,-⟩:=hx.form
 obtain ⟨bb,o,rfl,hlt,-⟩:=ha (by simp)
 rw [List.length_cons] at hx hc ⊢
 have ht:=hx.tail
 replace hl:l.length + 1≤1048576:=hl
 obtain ⟨k,hk⟩:∃ k,k=l.length:=⟨_,rfl⟩
 rw [← hk] at ht hc hl ⊢
 have HK:=zH hk
 by_cases h1:c=1
 ·subst h1
  rw [if_pos rfl] at ht
  obtain rfl:k=0:=by omega
  have cc:∀ W,Bl w W→Calls Tryz.prog 361 #[.slice (some ⟨bb,o,none⟩) 0 0,.int .i64 m] W fun e w'=>e=.returned (.bool (decide (m∈l)))∧W=w':=fun W hB=>contains_int W _ F l (ht.bl hB) (by have:=HK.out;show l.length≤1048576;omega) m
  clear hx ha ht hk
  go_enter Tryz.func481,Tryz.ntmps481
  go_wp2
  go_region_with ((go_at_call 361;refine (cc _ (by (repeat (first | exact qA _ | assumption | refine qB ?_ _ | refine qC ?_ | refine qD ?_ _ | refine qE ?_ _ (by simp<;>omega) _)))).mono ?_;rintro e w' ⟨rfl,rfl⟩))
  all_goals
   go_wp2
   go_ret
   exact ⟨rfl,by (repeat (first | exact qA _ | assumption | refine qB ?_ _ | refine qC ?_ | refine qD ?_ _ | refine qE ?_ _ (by simp<;>omega) _))⟩
 ·rw [if_neg h1] at ht
  have cc:∀ W,Bl w W→Calls Tryz.prog 361 #[.slice (some ⟨bb,o + 1,none⟩) k (c - 1),.int .i64 m] W fun e w'=>e=.returned (.bool (decide (m∈l)))∧W=w':=fun W hB=>contains_int W _ F l (ht.bl hB) (by have:=HK.out;show l.length≤1048576;omega) m
  clear hx ha ht hk
  go_enter Tryz.func481,Tryz.ntmps481
  go_wp2
  go_region_with ((go_at_call 361;refine (cc _ (by (repeat (first | exact qA _ | assumption | refine qB ?_ _ | refine qC ?_ | refine qD ?_ _ | refine qE ?_ _ (by simp<;>omega) _)))).mono ?_;rintro e w' ⟨rfl,rfl⟩))
  all_goals
   go_wp2
   go_ret
   exact ⟨rfl,by (repeat (first | exact qA _ | assumption | refine qB ?_ _ | refine qC ?_ | refine qD ?_ _ | refine qE ?_ _ (by simp<;>omega) _))⟩
theorem behind1_any (w:World) (b:Nat) (x:Value) (F:Foot) (r:List Int) (hx:Ix F w x r) (hl:r.length≤big) (m:Int) (hb:w.cell? ⟨b,0,none⟩=some (.int .i64 m)) :
  Calls Tryz.prog 481 #[x,.pointer (some ⟨b,0,none⟩)] w fun e w'=>e=.returned (.bool (behindR r m))∧Bl w w':=by
 cases r with
 | nil =>
  obtain ⟨a,c,rfl,-⟩:=hx.form
  exact behind1_nil w b c a m hb
 | cons n l=>exact behind1_cons w b x F n l hx (by simpa using hl) m hb
structure Rx (F:Foot) (w:World) (x:Value) (rows:List (List Int)):Prop where
 is:(x=.slice none 0 0∧rows=[])∨∃ (b o c:Nat) (xs:List Value),x=.slice (some ⟨b,o,none⟩) rows.length c∧b < w.heap.size∧rows.length≤c∧c≤maxLen∧xs.length=rows.length ∧
  (∀ (j:Nat) (y:Value),xs[j]?=some y→w.cell? ⟨b,o + j,none⟩=some y)∧∀ (j:Nat) (y:Value) (r:List Int),xs[j]?=some y→rows[j]?=some r→Ix F w y r
 out:∀ b o n c,x=.slice (some ⟨b,o,none⟩) n c→¬ F b
theorem Rx.form {F:Foot} {w:World} {x:Value} {rows:List (List Int)} (h:Rx F w x rows):∃ a c,x=.slice a rows.length c∧rows.length≤c ∧
  (0 < rows.length→∃ b o,a=some ⟨b,o,none⟩∧b < w.heap.size)∧∀ b o,a=some ⟨b,o,none⟩→∀ (j:Nat) (r:List Int),rows[j]?=some r→∃ y,w.cell? ⟨b,o + j,none⟩=some y∧Ix F w y r:=by
 rcases h.is with ⟨rfl,rfl⟩ | ⟨b,o,c,xs,rfl,q0,q1,q2,q3,q4,q5⟩
 ·exact ⟨none,0,rfl,Nat.le_refl _,fun h=>absurd h (by simp),fun b o e=>by cases e⟩
 ·refine ⟨_,c,rfl,q1,fun _=>⟨b,o,rfl,q0⟩,fun b o e j r hj=>?_⟩
  cases e
  have hlt:=(List.getElem?_eq_some_iff.1 hj).1
  have hxj:xs[j]?=some xs[j]:=List.getElem?_eq_getElem (by omega)
  exact ⟨xs[j],q4 j _ hxj,q5 j _ r hxj hj⟩
theorem Rx.bl {F:Foot} {w w':World} {x:Value} {rows:List (List Int)} (h:Rx F w x rows) (hb:Bl w w'):Rx F w' x rows :=
 ⟨h.is.elim .inl fun ⟨b,o,c,xs,e,h1,h2,h3,h4,h5,h6⟩=>.inr ⟨b,o,c,xs,e,Nat.lt_of_lt_of_le h1 hb.sz,h2,h3,h4,fun j n hj=>hb.sm (h5 j n hj),fun j y r h1 h2=>(h6 j y r h1 h2).bl hb⟩,h.out⟩
set_option maxRecDepth 100000 in
theorem index_behind (w:World) (x:Value) (F:Foot) (rows:List (List Int)) (hx:Rx F w x rows) (hl:rows.length≤big) (hr:∀ r∈rows,r.length≤big) (b:Nat) (m:Int) (hb:w.cell? ⟨b,0,none⟩=some (.int .i64 m)) :
  Calls Tryz.prog 499 #[x,.func (.func 481) #[] #[.pointer (some ⟨b,0,none⟩)]] w fun e w'=>(∃ i:Int,e=.returned (.int .i64 i)∧decide (0≤i)=rows.any (behindR · m))∧Bl w w':=by
 obtain ⟨n,hn⟩:∃ n,n=rows.length:=⟨_,rfl⟩
 obtain ⟨a,c,rfl,-,ha,hcell⟩:=hx.form
 rw [← hn] at hl ha ⊢
 replace hl:n≤1048576:=hl
 have HN:=zH hn
 have HA:=zH (And.intro ha hcell)
 have HB:=zH (And.intro hb hr)
 clear hx hn ha hcell hb hr
 go_enter Tryz.func499,Tryz.ntmps499
 go_wp2
 go_loopw [8] (fun v8 wr=>Bl w wr∧∃ k:Nat,k≤n∧v8=.int .i64 k∧(rows.take k).any (behindR · m)=false) (fun v8 _=>n - (intOf v8).toNat)
 case atStart=>exact ⟨Bl.refl _,0,Nat.zero_le _,rfl,by simp⟩
 case round =>
  obtain ⟨hbw,k,hk,rfl,hno⟩:=hrel
  by_cases hlt:k < n
  ·obtain ⟨bb,o,rfl,-⟩:=HA.out.1 (by omega)
   obtain ⟨r,hr⟩:∃ r,rows[k]?=some r:=⟨_,List.getElem?_eq_getElem (by rw [← HN.out];exact hlt)⟩
   obtain ⟨y,hy,hix⟩:=HA.out.2 bb o rfl k r hr
   have y0:wr.cell? ⟨bb,o + k,none⟩=some y:=hbw.sm hy
   have htk:rows.take (k + 1)=rows.take k++[r]:=by rw [List.take_add_one,hr];rfl
   have cb:=behind1_any wr b y F r (hix.bl hbw) (HB.out.2 r (List.mem_of_getElem? hr)) m (hbw.sm HB.out.1)
   have HT:=zH (And.intro hno (And.intro htk hr))
   have HW:=zH hbw
   obtain ⟨t,ht⟩:∃ t,t=behindR r m:=⟨_,rfl⟩
   rw [← ht] at cb
   have HTT:=zH ht
   obtain ⟨ya,yc,rfl,-⟩:=hix.form
   clear hno htk hy hix hr hbw ht
   go_wp2_with fail
   refine cb.mono ?_
   rintro e W1 ⟨rfl,hb1⟩
   have HB1:=zH (HW.out.trans hb1)
   clear hb1 cb
   cases t with
   | true =>
    have HE:=zH (show decide (0≤(k:Int))=rows.any (behindR · m) from by
     rw [decide_eq_true (show (0:Int)≤k by omega)]
     symm;rw [List.any_eq_true]
     exact ⟨r,List.mem_of_getElem? HT.out.2.2,HTT.out.symm⟩)
    go_wp2
    go_ret
    exact ⟨⟨_,rfl,HE.out⟩,HB1.out⟩
   | false =>
    have HE:=zH (show (rows.take (k + 1)).any (behindR · m)=false from by
     rw [HT.out.2.1,List.any_append,HT.out.1];simp [← HTT.out])
    go_wp2
    go_round
    case rel=>exact ⟨HB1.out,k + 1,by omega,by go_num,HE.out⟩
    case measure=>simp [intOf];omega
  ·obtain rfl:k=n:=by omega
   have HE:=zH (show decide (0≤(-1:Int))=rows.any (behindR · m) from by
    rw [HN.out,List.take_length] at hno
    rw [hno];rfl)
   have HW:=zH hbw
   clear hno hbw
   go_wp2
   go_ret
   exact ⟨⟨_,rfl,HE.out⟩,HW.out⟩
theorem containsF_behind (w:World) (x:Value) (F:Foot) (rows:List (List Int)) (hx:Rx F w x rows) (hl:rows.length≤big) (hr:∀ r∈rows,r.length≤big) (b:Nat) (m:Int) (hb:w.cell? ⟨b,0,none⟩=some (.int .i64 m)) :
  Calls Tryz.prog 480 #[x,.func (.func 481) #[] #[.pointer (some ⟨b,0,none⟩)]] w fun e w'=>e=.returned (.bool (rows.any (behindR · m)))∧Bl w w':=by
 have ci:=index_behind w x F rows hx hl hr b m hb
 obtain ⟨a,c,rfl,-⟩:=hx.form
 clear hx hr hb
 go_enter Tryz.func480,Tryz.ntmps480
 go_wp2_with fail
 refine ci.mono ?_
 rintro e w' ⟨⟨i,rfl,hi⟩,hb⟩
 have HI:=zH (And.intro hi hb)
 clear hi ci hb
 go_wp2
 go_ret
 exact ⟨by rw [← HI.out.1];rfl,HI.out.2⟩
theorem behind_any (w:World) (x:Value) (F:Foot) (rows:List (List Int)) (hx:Rx F w x rows) (hl:rows.length≤big) (hr:∀ r∈rows,r.length≤big) (m:Int) :
  Calls Tryz.prog 438 #[x,.int .i64 m] w fun e w'=>e=.returned (.bool (rows.any (behindR · m)))∧Bl w w':=by
 have ci:=containsF_behind (w.alloc (.cells #[.int .i64 m] 2)) x F rows (hx.bl (Bl.al _ _)) hl hr w.heap.size m (by rw [cell_of (MapKept.heap_alloc w _).1];rfl)
 obtain ⟨a,c,rfl,-⟩:=hx.form
 clear hx hr
 go_enter Tryz.func438,Tryz.ntmps438
 go_wp2_with fail
 refine ci.mono ?_
 rintro e w' ⟨rfl,hb⟩
 have HI:=zH ((Bl.al w (.cells #[.int .i64 m] 2)).trans hb)
 clear ci hb
 go_wp2
 go_ret
 exact ⟨rfl,HI.out⟩
end
end Go.Proofs.YtbbokgpklihkoaaGreatDoor.W
