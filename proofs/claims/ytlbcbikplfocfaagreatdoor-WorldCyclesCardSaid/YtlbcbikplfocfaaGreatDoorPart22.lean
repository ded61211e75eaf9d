/- SwC SwR Rm FtT ObjC -/
import Derived.Test.YtlbcbikplfocfaaGreatDoorPart21
import Derived.Test.YtlbcbikplfocfaaGreatDoorPart14
import Derived.Test.YtlbcbikplfocfaaGreatDoorPart13
set_option linter.unusedVariables false
set_option linter.unusedSimpArgs false
namespace Go.Proofs.YtlbcbikplfocfaaGreatDoor.W
section
open Go Go.RowKit
theorem rx_of {w:World} {q:Sp} {ps:List (Sp × List Int)} (h:Rd pCs w (slN q ps.length) ps) (hi:∀ r∈ps,ownN w r):Rx noF w (slN q ps.length) (ps.map (·.2)):=by
  refine ⟨?_,fun _ _ _ _ _ h=>h⟩
  rcases h with ⟨e,hn⟩ | ⟨b,o,c,e,h0,h1,h2,h3⟩
  · subst hn;exact .inl ⟨e,rfl⟩
  · refine .inr ⟨b,o,c,ps.map fun r=>slN r.1 r.2.length,by rw [e,List.length_map],h0,by rw [List.length_map];exact h1,h2,by simp,fun j y hj=>?_,fun j y r hj hr=>?_⟩
    · rw [List.getElem?_map] at hj
      cases hp:ps[j]? with
      | none=>rw [hp] at hj;cases hj
      | some r=>rw [hp] at hj;cases hj;exact h3 j _ (flat1_get (f:=fun q:Sp × List Int=>slN q.1 q.2.length) hp)
    · rw [List.getElem?_map] at hj hr
      cases hp:ps[j]? with
      | none=>rw [hp] at hj;cases hj
      | some r' =>
        rw [hp] at hj hr;cases hj;cases hr
        exact (own_rd (hi r' (List.mem_of_getElem? hp))).ix fun _ _ h=>h
section
variable {R:Res} {w0:World} {F0:Foot} {O L:List Item} {X:List Fact}
theorem linOrder_some (hR:ROk w0 R) (m:Int) (k1 k2 k3:Nat) {p q:Sp} {bs:List Int} {ps:List (Sp × List Int)} {l:List Int} (h1:X[k1]?=some (rowF nCs 2 1 (slN p bs.length) bs)) (h2:X[k2]?=some (rowF pCs 156 1 (slN q ps.length) ps)) (h3:X[k3]?=some (insF ps))
    (hl:ps.length < 1048576) (ht:total (ps.map (·.2)) + bs.length≤1048576) (ho:orderF m bs (ps.map (·.2))=some l) :
    ∀ w,SW R w0 F0 O L X w→Calls Tryz.prog 152 #[.int .i64 m,slN p bs.length,slN q ps.length] w fun e w'=>∃ x:Sp,e=.returned (.tuple #[slN x l.length,.bool true])∧SW R w0 F0 O L (rdF nCs (slN x l.length) l true :: X) w':=by
  intro w hS
  have hS0:=hS
  obtain ⟨⟨G,hG⟩,hn⟩:=hS
  have f1:=(hG.fact _ (List.mem_of_getElem? h1)).1
  have f2:=(hG.fact _ (List.mem_of_getElem? h2)).1
  have f3:=(hG.fact _ (List.mem_of_getElem? h3)).1
  refine (order_any w m _ _ noF bs (ps.map (·.2)) ((own_rd f1).ix fun _ _ h=>h) (rx_of (own_rd f2) f3) (by simpa using hl) ht).mono fun e w' ⟨hb,hm⟩=>?_
  rw [ho] at hm
  obtain ⟨y,rfl,hy⟩:=hm
  obtain ⟨a,c,rfl,-,-,-⟩:=hy.form
  refine ⟨(a,c),rfl,?_⟩
  have hrd:=Rd.of_ix hy
  obtain ⟨h4,h5⟩:=(hG.bl hR hb).learn hn (rdF nCs (.slice a l.length c) l true) hrd hG.st.size (fun b hbb=>by
    have hlt:=hrd.lt b hbb
    cases a with
    | none=>cases hbb
    | some ad =>
      simp [rdF,slBl] at hbb
      subst hbb
      have ho:=hy.out
      rcases hrd with ⟨hv,-⟩ | ⟨b',o',c',e',hlt2,-⟩
      · cases hv
      · injection e' with e1 e2 e3
        injection e1 with e1
        subst e1
        have hge:¬ b' < w.heap.size:=ho b' o' _ _ rfl
        exact ⟨by simpa using hge,hlt,fun hF=>hge (hG.st.lt _ hF)⟩) hG.ownLt fun y hy _=>hG.factLt y hy
  exact ⟨⟨G,h4⟩,h5⟩
theorem linOrder_none (m:Int) (k1 k2 k3:Nat) {p q:Sp} {bs:List Int} {ps:List (Sp × List Int)} (h1:X[k1]?=some (rowF nCs 2 1 (slN p bs.length) bs)) (h2:X[k2]?=some (rowF pCs 156 1 (slN q ps.length) ps)) (h3:X[k3]?=some (insF ps))
    (hl:ps.length < 1048576) (ht:total (ps.map (·.2)) + bs.length≤1048576) (ho:orderF m bs (ps.map (·.2))=none) :
    ∀ w,SB R w0 F0 O L X w→Calls Tryz.prog 152 #[.int .i64 m,slN p bs.length,slN q ps.length] w fun e w'=>e=.returned (.tuple #[.slice none 0 0,.bool false])∧Bl w w':=by
  rintro w ⟨G,hG⟩
  have f1:=(hG.fact _ (List.mem_of_getElem? h1)).1
  have f2:=(hG.fact _ (List.mem_of_getElem? h2)).1
  have f3:=(hG.fact _ (List.mem_of_getElem? h3)).1
  refine (order_any w m _ _ noF bs (ps.map (·.2)) ((own_rd f1).ix fun _ _ h=>h) (rx_of (own_rd f2) f3) (by simpa using hl) ht).mono fun e w' ⟨hb,hm⟩=>?_
  rw [ho] at hm
  exact ⟨hm,hb⟩
theorem SW.cut {α:Type} {enc:α→List Value} {sz:Nat} {nw:Bool} (hz:∀ x,(enc x).length=sz) {W:World} {p:Sp} {l:List α} (h:SW R w0 F0 O L X W) (k:Nat) (hk:X[k]?=some (rdF enc (slN p l.length) l nw)) (lo hi m:Nat) (h1:lo≤hi) (h2:hi≤l.length) (h3:hi≤m) (h4:m≤p.2) :
    SW R w0 F0 O L (rdF enc (slN (cutP p lo m sz) (hi - lo)) ((l.take hi).drop lo) nw :: X) W:=by
  refine h.also k hk ⟨rfl,rfl⟩ (fun hr=>Rd.cut hz hr lo hi m h1 h2 h3 h4) (fun b hb=>?_) id
  obtain ⟨pa,pc⟩:=p
  cases pa with
  | none =>
    exfalso
    simp only [rdF,slN,cutP,Option.map_none,ite_self,slBl] at hb
    cases hb
  | some ad =>
    simp only [rdF,slN,cutP,slBl,Option.map_some] at hb ⊢
    by_cases hm:m=lo
    · rw [if_pos hm] at hb;exact hb
    · rw [if_neg hm] at hb
      simp only [List.mem_singleton] at hb ⊢
      rw [hb];unfold Addr.add;split<;>rfl
theorem capOf {α:Type} {enc:α→List Value} {nw:Bool} {W:World} {p:Sp} {l:List α} (h:SW R w0 F0 O L X W) (k:Nat) (hk:X[k]?=some (rdF enc (slN p l.length) l nw)):l.length≤p.2:=by
  have hr:Rd enc W (slN p l.length) l:=h.sb.fact k hk
  rcases hr with ⟨e,hn⟩ | ⟨b,o,c,e,h0,h1,-⟩
  · subst hn;exact Nat.zero_le _
  · injection e with e1 e2 e3;rw [e3];exact h1
end
section
variable {P:Program} {t e:TypeId} {sz:Nat} (ht:P.underlying t=some (.slice e)) (hz:(P.info? e).map (·.size)=some sz) (p:Sp) (n:Nat)
include ht hz
theorem cut_from (w:World) (lo:Nat) (h1:lo≤n):(Instr.slice t (slN p n) (some (.int .i64 (lo:Int))) none none).run P w=.ok (slN (cutP p lo p.2 sz) (n - lo)) w:=by
  have hs:∀ w,(sizeOf e).run P w=.ok sz w:=fun w=>by
    cases hq:P.info? e with
    | none=>simp [hq] at hz
    | some i =>
      have:i.size=sz:=by simpa [hq] using hz
      simp [sizeOf,typeInfo,hq,this]
  have e0:∀ w,(underlying t).run P w=.ok (.slice e) w:=fun w=>by simp [underlying,go_sem,ht]
  have b1:∀ (w:World) code,(Instr.sliceBound (.int .i64 lo) n code).run P w=.ok lo w:=fun w code=>run_sliceBound (P:=P) w .i64 lo n code (by omega) (by omega)
  unfold Instr.slice Instr.sliceBounds
  simp [e0,b1,hs,cutP]
end
theorem cut_fromL {α:Type} {P:Program} {t e:TypeId} {sz:Nat} (ht:P.underlying t=some (.slice e)) (hz:(P.info? e).map (·.size)=some sz) (p:Sp) (l:List α) (w:World) (lo:Nat) (h1:lo≤l.length):(Instr.slice t (slN p l.length) (some (.int .i64 (lo:Int))) none none).run P w=.ok (slN (cutP p lo p.2 sz) (l.drop lo).length) w:=by
  rw [cut_from ht hz p l.length w lo h1,List.length_drop]
theorem SW.cutFrom {α:Type} {enc:α→List Value} {sz:Nat} {nw:Bool} {R:Res} {w0:World} {F0:Foot} {O L:List Item} {X:List Fact} (hz:∀ x,(enc x).length=sz) {W:World} {p:Sp} {l:List α} (h:SW R w0 F0 O L X W) (k:Nat) (hk:X[k]?=some (rdF enc (slN p l.length) l nw)) (lo:Nat) (h1:lo≤l.length) :
    SW R w0 F0 O L (rdF enc (slN (cutP p lo p.2 sz) (l.drop lo).length) (l.drop lo) nw :: X) W:=by
  have:=h.cut hz k hk lo l.length p.2 h1 (Nat.le_refl _) (capOf h k hk) (Nat.le_refl _)
  rw [List.take_length,← List.length_drop] at this
  exact this
theorem SW.cutFromL {α:Type} {enc:α→List Value} {sz:Nat} {nw:Bool} {R:Res} {w0:World} {F0:Foot} {O L:List Item} {X:List Fact} {P:World→Prop} (hz:∀ x,(enc x).length=sz) {p:Sp} {l:List α} (k:Nat) (hk:X[k]?=some (rdF enc (slN p l.length) l nw)) (lo:Nat) (h1:lo≤l.length)
    (h:∀ w,SW R w0 F0 O L (rdF enc (slN (cutP p lo p.2 sz) (l.drop lo).length) (l.drop lo) nw :: X) w→P w):∀ w,SW R w0 F0 O L X w→P w:=fun w hw=>h w (hw.cutFrom hz k hk lo h1)
theorem SW.joinInsL {R:Res} {w0:World} {F0:Foot} {O L:List Item} {X:List Fact} {P:World→Prop} {p:Sp} {l:List Int} {ps:List (Sp × List Int)} (j:Nat) (hj:X[j]?=some (insF ps)) (h:∀ w,SW R w0 F0 O L (X.set j (insF (ps++[(p,l)]))) w→P w) :
    ∀ w,SW R w0 F0 O L (rowF nCs 2 1 (slN p l.length) l :: X) w→P w:=fun w hw=>h w (hw.joinIns j hj)
theorem YB.cutFrom {α:Type} {F:Fence} {n:Nat} {P:Program} {ops:Array Oper} {B:World→Prop} {o:Oper} {a:Go.Act} {t e:TypeId} {sz:Nat} (x lo':Operand) (ht:P.underlying t=some (.slice e)) (hz:(P.info? e).map (·.size)=some sz) (hop:o.op=.slice t x (some lo') none none) (hw:Region.wanted o (yielded ops a.tmps)=true)
    {p:Sp} {l:List α} {lo:Nat} (hx:a.eval x=slN p l.length) (hlo:a.eval lo'=.int .i64 (lo:Int)) (h1:lo≤l.length):YB F n P ops B o (slN (cutP p lo p.2 sz) (l.drop lo).length) a :=
  YB.run (by rw [hop];nofun) (by rw [hop];nofun) hw fun w _=>by
    unfold execOp;rw [hop]
    simp only [hx,Option.map_some,Option.map_none,hlo,Instr.sliceAt]
    have:=cut_fromL ht hz p l w lo h1
    simp only [Sem.run_bind,run_underlying ht,Result.andThen_ok,this,Sem.run_pure]
theorem SW.lenLe {α:Type} {enc:α→List Value} {nw:Bool} {R:Res} {w0:World} {F0:Foot} {O L:List Item} {X:List Fact} {W:World} {x:Value} {l:List α} (h:SW R w0 F0 O L X W) (k:Nat) (hk:X[k]?=some (rdF enc x l nw)):l.length≤9223372036854775807:=by
  have hr:Rd enc W x l:=h.sb.fact k hk
  rcases hr with ⟨e,hn⟩ | ⟨b,o,c,e,h0,h1,h2,-⟩
  · subst hn;simp
  · have:c≤9223372036854775807:=Nat.le_trans h2 (by unfold maxLen;decide)
    omega
theorem SWF.vxOwn {R:Res} {w0:World} {F0:Foot} {O L:List Item} {X:List Fact} {W:World} {F:Foot} (h:SWF R w0 F0 O L X W F) (k:Nat) {p:Sp} {l:List V} (hk:X[k]?=some (rowF V.cs 27 3 (slN p l.length) l)):Vx F W (slN p l.length) l:=by
  have hf:=h.fact _ (List.mem_of_getElem? hk)
  exact ⟨(own_rd hf.1).vs,fun b o n c e hF=>(hf.2 b (by simp only [rowF,obBl];rw [show slN p l.length=.slice (some ⟨b,o,none⟩) n c from e];simp [Value.ownBlock])).1 hF⟩
end
section
open Go Go.RowKit
section
variable {R R':Res} {w0:World} {F0:Foot} {O L:List Item} {X:List Fact} {W W':World} {F:Foot}
def Kp (w0:World) (L:List Item) (X:List Fact) (F:Foot):Foot:=fun b=>F b∨b < w0.heap.size∨(∃ p∈L,p.1=b)∨∃ x∈X,b∈x.bl
theorem SWF.keep (hR:ROk w0 R) (h:SWF R w0 F0 O L X W F) (hk:Keep (Kp w0 L X F) W W'):SWF R w0 F0 O L X W' F :=
 ⟨hR.keep _ _ _ h.res hk.size fun b hb=>hk.block b (hb.elim .inl fun h=>.inr (.inl h)),
  ⟨hk.os.trans h.st.os,hk.tape.trans h.st.tape,hk.output.trans h.st.output,Nat.le_trans h.st.size hk.size,fun b hb hF=>(hk.block b (.inr (.inl hb))).trans (h.st.block b hb hF),h.st.foot,fun b hb=>Nat.lt_of_lt_of_le (h.st.lt b hb) hk.size⟩,
  fun p hp=>⟨(hk.block _ (.inr (.inl (h.out p hp).2.2))).trans (h.out p hp).1,(h.out p hp).2⟩,
  fun p hp=>⟨(hk.block _ (.inr (.inr (.inl ⟨p,hp,rfl⟩)))).trans (h.own p hp).1,(h.own p hp).2⟩,
  fun x hx=>⟨x.ok _ _ (h.fact x hx).1 hk.size fun b hb=>hk.block b (.inr (.inr (.inr ⟨x,hx,hb⟩))),fun b hb=>⟨((h.fact x hx).2 b hb).1,Nat.lt_of_lt_of_le ((h.fact x hx).2 b hb).2.1 hk.size,((h.fact x hx).2 b hb).2.2⟩⟩⟩
theorem SWF.kpLt (h:SWF R w0 F0 O L X W F):∀ b,Kp w0 L X F b→b < W.heap.size:=by
 rintro b (hb | hb | ⟨p,hp,rfl⟩ | ⟨x,hx,hb⟩)
 ·exact h.st.lt b hb
 ·exact Nat.lt_of_lt_of_le hb h.st.size
 ·exact h.ownLt p hp
 ·exact h.factLt x hx b hb
theorem SW.rebase (h:SWF R w0 F0 O L [] W F) (hR:ROk W R):SW R W F (O++L) [] [] W :=
 SW.start hR h.res (fun p hp=>(List.mem_append.1 hp).elim (fun hp=>⟨(h.out p hp).1,(h.out p hp).2.1⟩) fun hp=>⟨(h.own p hp).1,(h.own p hp).2.1⟩) (fun x hx=>by cases hx)
def roundS (R':Res) (Wb:World) (F:Foot):Exit→Go.Act→World→Prop
 | .normal,_,W'=>RStep R' Wb F W'
 | _,_,_=>False
end
theorem range_sw {P:Program} {g:Operand} {ps:Array Tmp} {assign body:Code} {Q:Exit→Go.Act→World→Prop} {a:Go.Act} {w:World} {gf:Nat} {lb:Array Value}
  (hg:a.eval g=.func (.func gf) #[] lb) (eg:∀ args w,(callFunc gf args).run P w=.ok (.enter gf args) w) {xs:List (Array Value)} {Rel:World→Prop} (hseq:SeqOfR P gf lb xs Rel)
  (hps:∀ x∈xs,x.size=ps.size) (R:Nat→Res) {w0:World} {F0:Foot} {O L:List Item} {X:List Fact} (hR:∀ k,ROk w0 (R k))
  (hRel:∀ k F W,SWF (R k) w0 F0 O L X W F→Rel W) (hS:SW (R 0) w0 F0 O L X w)
  (hround:∀ (l k:Nat) (x:Array Value) (F:Foot) (W:World) (K:Go.Act→World→Prop),xs[k]?=some x→SWF (R k) w0 F0 O L X W F→l < W.heap.size →
   (∀ a' Wa,Bl W Wa→(∀ Wb,(∀ b,b≠l→Wb.heap[b]?=Wa.heap[b]?)→Wb.heap.size=Wa.heap.size→SWF (R k) w0 F0 O L X Wb F→body.wpIn (Fence.wide.inRound l) 1 P (roundS (R (k + 1)) Wb F) a' Wb)→K a' Wa) →
   assign.wpIn (Fence.wide.inRound l) 1 P (Exit.then K fun _ _ _=>False) { tmps:=(ps.zip x).foldl (fun t (p,v)=>t.setIfInBounds p v) a.tmps,defers:=[] } W)
  (hdone:∀ D W',SW (R xs.length) w0 F0 O ((D,.deferred (some [])) :: L) X W'→Q .normal { a with defers:={ target:=.collected D,args:=#[] } :: a.defers } W') :
  (Code.rangeFunc g ps assign body).wpIn Fence.wide 3 P Q a w:=by
 obtain ⟨⟨F1,hS⟩,hN⟩:=hS
 refine range_fnR hg eg hseq hps (fun k F W=>∃ F1,SWF (R k) w0 F0 O L X W F1∧∀ b,F b↔Kp w0 L X F1 b) (fun _ _ _=>False) ?_ ?_ ?_ ?_ (Kp w0 L X F1) ⟨F1,hS,fun _=>Iff.rfl⟩ ?_ ?_ ?_
 ·rintro k F W W' ⟨F1,h1,h2⟩ hk
  exact ⟨F1,h1.keep (hR k) ⟨hk.os,hk.tape,hk.output,hk.size,fun b hb=>hk.block b ((h2 b).2 hb)⟩,h2⟩
 ·rintro c F W W' h hk;exact h
 ·rintro k F W ⟨F1,h1,h2⟩ b hb;exact h1.kpLt b ((h2 b).1 hb)
 ·rintro k F W ⟨F1,h1,h2⟩;exact hRel k F1 W h1
 ·rintro l k x F W K hx ⟨F1,h1,h2⟩ hnl hll hK
  refine hround l k x F1 W K hx h1 hll ?_
  intro a' Wa hba hbody
  refine hK a' Wa hba ?_
  intro Wb q1 q2 q3 q4 q5
  have hnK:¬ Kp w0 L X F1 l:=fun h=>hnl ((h2 l).2 h)
  have hkeep:Keep (Kp w0 L X F1) W Wb:=⟨q3.trans hba.os,q4.trans hba.tape,q5.trans hba.output,by rw [q2];exact hba.sz,fun b hb=>(q1 b (fun e=>hnK (e ▸ hb))).trans (hba.at (h1.kpLt b hb))⟩
  have h1b:=h1.keep (hR k) hkeep
  refine wpIn_mono (hbody Wb q1 q2 h1b) ?_
  rintro e a3 W3 hp
  cases e with
  | normal =>
   obtain ⟨F3,hr3,hs3⟩:=hp
   obtain ⟨⟨F4,h4⟩,-⟩:=SW.call h1b hN ⟨F3,hr3,hs3⟩
   have hsw:SWF (R (k + 1)) w0 F0 O L X W3 F3:=by
    have hnF:∀ b,b < Wb.heap.size→¬ F1 b→¬ F3 b:=fun b h1 h2 h3=>(hs3.foot b h3).elim h2 (by omega)
    have hout:∀ {b:Nat} {o:Obj},Wb.heap[b]?=some o→¬ F1 b→W3.heap[b]?=some o:=fun h1 h2=>(hs3.block _ (block_lt h1) h2).trans h1
    exact ⟨hr3,h1b.st.call h1b.st.size hs3,fun p hp=>⟨hout (h1b.out p hp).1 (h1b.out p hp).2.1,hnF _ (block_lt (h1b.out p hp).1) (h1b.out p hp).2.1,(h1b.out p hp).2.2⟩,
     fun p hp=>⟨hout (h1b.own p hp).1 (h1b.own p hp).2.1,hnF _ (block_lt (h1b.own p hp).1) (h1b.own p hp).2.1,(h1b.own p hp).2.2⟩,
     fun x hx=>⟨x.ok _ _ (h1b.fact x hx).1 hs3.size fun b hb=>hs3.block b ((h1b.fact x hx).2 b hb).2.1 ((h1b.fact x hx).2 b hb).1,fun b hb=>⟨hnF b ((h1b.fact x hx).2 b hb).2.1 ((h1b.fact x hx).2 b hb).1,Nat.lt_of_lt_of_le ((h1b.fact x hx).2 b hb).2.1 hs3.size,((h1b.fact x hx).2 b hb).2.2⟩⟩⟩
   refine ⟨Kp w0 L X F3,⟨hs3.os,hs3.tape,hs3.output,hs3.size,fun b hb hn=>hs3.block b hb (fun h=>hn ((h2 b).2 (.inl h))),?_,fun b hb=>hsw.kpLt b hb⟩,F3,hsw,fun _=>Iff.rfl⟩
   rintro b (hb | hb)
   ·exact (hs3.foot b hb).elim (fun h=>.inl ((h2 b).2 (.inl h))) .inr
   ·exact .inl ((h2 b).2 (.inr hb))
  | ret=>exact hp.elim
  | exit id=>exact hp.elim
  | goto t=>exact hp.elim
  | panic c=>exact hp.elim
  | outgrown=>exact hp.elim
 ·rintro F' W' hst ⟨F2,h2,h3⟩ hD hnD
  refine hdone w.heap.size W' ⟨⟨F2,h2.res,h2.st,h2.out,?_,h2.fact⟩,?_⟩
  ·intro p hp
   rcases List.mem_cons.1 hp with rfl | hp
   ·exact ⟨hD,fun h=>hnD ((h3 _).2 (.inl h)),hS.st.size⟩
   ·exact h2.own p hp
  ·refine ⟨List.pairwise_cons.2 ⟨fun q hq=>?_,hN.1⟩,fun x hx b hb q hq=>?_,hN.2.2⟩
   ·exact (Nat.ne_of_lt (hS.ownLt q hq)).symm
   ·rcases List.mem_cons.1 hq with rfl | hq
    ·exact (Nat.ne_of_lt (hS.factLt x hx b hb)).symm
    ·exact hN.2.1 x hx b hb q hq
 ·rintro c F' W' hst h;exact h.elim
end
section
open Go Go.RowKit
abbrev Cls:=List (List UInt8 × V)
@[reducible] def ekS (s:List UInt8):Value:=.string (bs s)
theorem key_bs {P:Program} {K:TypeId} (hu:P.underlying K=some .string):Key P K ekS:=by
 have e0:∀ w,(underlying K).run P w=.ok .string w:=fun w=>by simp [underlying,go_sem,hu]
 refine key_now hu ?_ ?_ ?_
 ·intro b a w;unfold Instr.checkKey;simp [go_sem,e0]
 ·intro a b;simp only [Instr.sameNow,beq_bs]
 ·intro a;simp [Instr.sameBits,beq_bs]
structure RMF (hp:Nat) (h:Hp) (mb:Nat) (cl:Cls) (W:World) (F Fh:Foot):Prop where
 r:HR W hp h Fh
 foot:∀ b,F b↔Fh b∨b=mb
 out:¬ Fh mb
 map:∃ es c,W.heap[mb]?=some (.map es c)∧Ents ekS V.agg es.toList cl
def RM (hp:Nat) (h:Hp) (mb:Nat) (cl:Cls):Res:=fun W F=>∃ Fh,RMF hp h mb cl W F Fh
section
variable {hp mb:Nat} {h h':Hp} {cl:Cls} {W:World} {F Fh G:Foot}
theorem RMF.sub (m:RMF hp h mb cl W F Fh):∀ b,Fh b→F b:=fun b hb=>(m.foot b).2 (.inl hb)
theorem RMF.own (m:RMF hp h mb cl W F Fh):F mb:=(m.foot mb).2 (.inr rfl)
theorem RMF.mlt (m:RMF hp h mb cl W F Fh):mb < W.heap.size:=m.map.elim fun es ⟨c,h,_⟩=>block_lt h
theorem RM.ok (w0:World) (hp:Nat) (h:Hp) (mb:Nat) (cl:Cls):ROk w0 (RM hp h mb cl) :=
 ⟨fun W W' F ⟨Fh,m⟩ hs hk=>⟨Fh,m.r.keep hs fun b hb=>hk b (.inl (m.sub b hb)),m.foot,m.out,m.map.elim fun es ⟨c,h1,h2⟩=>⟨es,c,(hk mb (.inl m.own)).trans h1,h2⟩⟩,
  fun W F ⟨Fh,m⟩ b hb=>((m.foot b).1 hb).elim (m.r.lt b) fun e=>e ▸ m.mlt⟩
theorem Vx.sub {w:World} {x:Value} {l:List V} (hs:∀ b,Fh b→F b) (h:Vx F w x l):Vx Fh w x l:=⟨h.vs,fun b o n c e hf=>h.out b o n c e (hs b hf)⟩
theorem Ix.sub {w:World} {x:Value} {l:List Int} (hs:∀ b,Fh b→F b) (h:Ix F w x l):Ix Fh w x l:=⟨h.is,fun b o n c e hf=>h.out b o n c e (hs b hf)⟩
theorem RM.wr {P:Program} {f:FuncId} {args:Array Value} {w:World} {x:Value} (hm:RM hp h mb cl w G) (c:∀ Fh,RMF hp h mb cl w G Fh→Calls P f args w fun e w'=>e=.returned x∧HStep w hp Fh h' w') :
  Calls P f args w fun e w'=>e=.returned x∧RStep (RM hp h' mb cl) w G w':=by
 obtain ⟨Fh,m⟩:=hm
 refine (c Fh m).mono ?_
 rintro e w' ⟨rfl,F',hr,hs⟩
 have hn:¬ F' mb:=fun hf=>(hs.foot mb hf).elim m.out (by have:=m.mlt;omega)
 refine ⟨rfl,fun b=>F' b∨b=mb,⟨F',hr,fun _=>Iff.rfl,hn,m.map.elim fun es ⟨c,h1,h2⟩=>⟨es,c,(hs.block mb m.mlt m.out).trans h1,h2⟩⟩,hs.os,hs.tape,hs.output,hs.size,fun b hb hG=>hs.block b hb fun hf=>hG (m.sub b hf),?_,?_⟩
 ·rintro b (hb | rfl)
  ·exact (hs.foot b hb).elim (fun h=>.inl (m.sub b h)) .inr
  ·exact .inl m.own
 ·rintro b (hb | rfl)
  ·exact hs.lt b hb
  ·exact Nat.lt_of_lt_of_le m.mlt hs.size
theorem zeroV (w:World):(zeroValue 27).run Tryz.prog w=.ok (V.agg V.nil) w:=by kernel_rfl
theorem RM.look (hm:RM hp h mb cl W F) (key:List UInt8):(Instr.lookup 79 (.map (some mb)) (.string (bs key)) false).run Tryz.prog W=.ok (V.agg ((get cl key).getD V.nil)) W:=by
 obtain ⟨Fh,m⟩:=hm
 obtain ⟨es,c,hb,he⟩:=m.map
 rw [run_look (ek:=ekS) (ev:=V.agg) Tryz.underlying79 (key_bs Tryz.underlying9) zeroV hb he key false]
 cases get cl key<;>rfl
theorem RM.put (hm:RM hp h mb cl W F) {key:List UInt8} {v:V}:∃ w',(Instr.mapUpdate 79 (.map (some mb)) (.string (bs key)) (V.agg v)).run Tryz.prog W=.ok () w'∧RStep (RM hp h mb (put cl key v)) W F w':=by
 obtain ⟨Fh,m⟩:=hm
 obtain ⟨es,c,hb,he⟩:=m.map
 obtain ⟨es',c',h1,h2⟩:=run_put (ek:=ekS) (ev:=V.agg) (P:=Tryz.prog) Tryz.underlying79 (key_bs Tryz.underlying9) he key v c
 refine ⟨_,h1 W mb hb,F,⟨Fh,m.r.keep (by rw [setMap_size];exact Nat.le_refl _) (fun b hbF=>setMap_other (fun e=>m.out (by rw [← e];exact hbF)) _ _),m.foot,m.out,es',c',setMap_at m.mlt _ _,h2⟩,rfl,rfl,rfl,by rw [setMap_size];exact Nat.le_refl _,fun b _ hF=>setMap_other (fun e=>hF (by rw [e];exact m.own)) _ _,fun b hb=>.inl hb,fun b hb=>?_⟩
 rw [setMap_size]
 exact ((m.foot b).1 hb).elim (m.r.lt b) fun e=>e ▸ m.mlt
end
section
variable {F:Fence} {n:Nat} {P:Program} {ops:Array Oper} {Q:Exit→Go.Act→World→Prop} {md:Region.Mode} {B:World→Prop} {o:Oper} {a:Go.Act} {v:Value}
variable {R R':Res} {w0:World} {F0:Foot} {O L:List Item} {X:List Fact}
theorem YB.look (t:TypeId) (mo ko:Operand) (ok:Bool) (hop:o.op=.lookup t mo ko ok) (hw:Region.wanted o (yielded ops a.tmps)=true) {m k:Value} (hx:a.eval mo=m) (hy:a.eval ko=k) (h:∀ w,B w→(Instr.lookup t m k ok).run P w=.ok v w):YB F n P ops B o v a :=
 YB.run (by rw [hop];nofun) (by rw [hop];nofun) hw fun w hB=>by
  unfold execOp;rw [hop];subst hx hy
  simp only [Sem.run_bind,h w hB,Result.andThen_ok];rfl
theorem run_mapUpdate_skip {ty:TypeId} {x y z:Operand} (hop:o.op=.mapUpdate ty x y z) {m k u:Value} (hx:a.eval x=m) (hy:a.eval y=k) (hz:a.eval z=u) {w w':World} (h:(Instr.mapUpdate ty m k u).run P w=.ok () w'):(execOp a.eval o).run P w=.ok .skip w':=by
 unfold execOp;rw [hop];subst hx hy hz
 simp only [Sem.run_bind,h,Result.andThen_ok];rfl
theorem wpS.mapPut {i k:Nat} {T T':List Nat} {listed:Array Bool} {ty:TypeId} (x y z:Operand) (hi:ops[i]?=some o) (hr:Region.ready md ops listed=[i]) (hg:Good B T (SW R w0 F0 O L X)) (hT:(T.filter fun t=>!waits md ops i t)=T') (hw:Region.wanted o (yielded ops a.tmps)=true) (mb:Nat)
  {key val:Value} (hop:o.op=.mapUpdate ty x y z) (hx:a.eval x=.map (some mb)) (hy:a.eval y=key) (hz:a.eval z=val)
  (hput:∀ w G,SWF R w0 F0 O L X w G→∃ w',(Instr.mapUpdate ty (.map (some mb)) key val).run P w=.ok () w'∧RStep R' w G w')
  (h:wpS F n P md ops Q B k T' (listed.setIfInBounds i true) (a.put o.dst undef) (SW R' w0 F0 O L X)):wpS F n P md ops Q B (k + 1) T listed a (SW R w0 F0 O L X) :=
 wpS.one hi hr hg hT hw fun w hS=>by
  obtain ⟨⟨G,hG⟩,hn⟩:=hS
  obtain ⟨w',e1,e2⟩:=hput w G hG
  exact wpIn_skipOp (by rw [hop];nofun) (by rw [hop];nofun) (run_mapUpdate_skip hop hx hy hz e1) ⟨_,SW.call hG hn e2,h⟩
theorem leaves_take {fn:Func} {tmps:Array Value} {Qr:Ending→World→Prop} {ds:List Deferred} {W:World} {D:Nat} (hR:ROk w0 R) (hS:SW R w0 F0 O L X W) (k:Nat) (hk:L[k]?=some (D,.deferred (some [])))
  (h:∀ W',SW R w0 F0 O (L.set k (D,.deferred none)) X W'→LeavesInM F n P fn tmps Qr ds .returning W'):LeavesInM F n P fn tmps Qr ({ target:=.collected D,args:=#[] } :: ds) .returning W :=
 ⟨nofun,.inl ⟨D,_,rfl,run_takeDeferred (hS.sb.box k hk),h _ (hS.write hR k hk (putObj_size _ _ _) (fun c hc=>World.putObj_heap_other hc) (World.putObj_heap_same (block_lt (hS.sb.box k hk))) ⟨rfl,rfl,rfl⟩)⟩⟩
theorem SW.adopt {hp mb:Nat} {h:Hp} {W:World} (hS:SW (RH hp h) w0 F0 O L X W) (j:Nat) (hj:L[j]?=some (mb,.map #[] 0)) (hX:∀ x∈X,mb ∉ x.bl):SW (RM hp h mb []) w0 F0 O (L.eraseIdx j) X W:=by
 obtain ⟨⟨F1,hF⟩,hN⟩:=hS
 have hm:=hF.own _ (List.mem_of_getElem? hj)
 have hjl:j < L.length:=(List.getElem?_eq_some_iff.1 hj).1
 have hne:∀ q∈L.eraseIdx j,q.1≠mb:=by
  intro q hq
  obtain ⟨i,hi,rfl⟩:=List.getElem_of_mem hq
  rw [List.length_eraseIdx,if_pos hjl] at hi
  rw [List.getElem_eraseIdx]
  have hp:=List.pairwise_iff_getElem.1 hN.1
  have he:L[j]=(mb,.map #[] 0):=(List.getElem?_eq_some_iff.1 hj).2
  split
  ·next hij =>
   have:=hp i j (by omega) hjl hij
   rw [he] at this;exact this
  ·next hij =>
   have:=hp j (i + 1) hjl (by omega) (by omega)
   rw [he] at this;exact this.symm
 refine ⟨⟨fun b=>F1 b∨b=mb,⟨F1,hF.res,fun _=>Iff.rfl,hm.2.1,#[],0,hm.1,Ents.nil⟩,?_,?_,?_,?_⟩,hN.1.sublist (List.eraseIdx_sublist _ _),fun x hx b hb q hq=>hN.2.1 x hx b hb q (List.mem_of_mem_eraseIdx hq),hN.2.2⟩
 ·refine ⟨hF.st.os,hF.st.tape,hF.st.output,hF.st.size,hF.st.block,?_,?_⟩
  ·rintro b (hb | rfl)
   ·exact hF.st.foot b hb
   ·exact .inr hm.2.2
  ·rintro b (hb | rfl)
   ·exact hF.st.lt b hb
   ·exact block_lt hm.1
 ·exact fun p hp=>⟨(hF.out p hp).1,fun h=>h.elim (hF.out p hp).2.1 (fun e=>by have:=(hF.out p hp).2.2;have:=hm.2.2;simp only at this;omega),(hF.out p hp).2.2⟩
 ·exact fun p hp=>⟨(hF.own p (List.mem_of_mem_eraseIdx hp)).1,fun h=>h.elim (hF.own p (List.mem_of_mem_eraseIdx hp)).2.1 (hne p hp),(hF.own p (List.mem_of_mem_eraseIdx hp)).2.2⟩
 ·exact fun x hx=>⟨(hF.fact x hx).1,fun b hb=>⟨fun h=>h.elim ((hF.fact x hx).2 b hb).1 (fun e=>hX x hx (e ▸ hb)),((hF.fact x hx).2 b hb).2⟩⟩
theorem SW.letGo {hp mb:Nat} {h:Hp} {cl:Cls} {W:World} (hS:SW (RM hp h mb cl) w0 F0 O L X W):SW (RH hp h) w0 F0 O L X W:=by
 obtain ⟨⟨F1,hF⟩,hN⟩:=hS
 obtain ⟨Fh,m⟩:=hF.res
 have hs:=m.sub
 exact ⟨⟨Fh,m.r,⟨hF.st.os,hF.st.tape,hF.st.output,hF.st.size,hF.st.block,fun b hb=>hF.st.foot b (hs b hb),fun b hb=>hF.st.lt b (hs b hb)⟩,
  fun p hp=>⟨(hF.out p hp).1,fun h=>(hF.out p hp).2.1 (hs _ h),(hF.out p hp).2.2⟩,fun p hp=>⟨(hF.own p hp).1,fun h=>(hF.own p hp).2.1 (hs _ h),(hF.own p hp).2.2⟩,
  fun x hx=>⟨(hF.fact x hx).1,fun b hb=>⟨fun h=>((hF.fact x hx).2 b hb).1 (hs _ h),((hF.fact x hx).2 b hb).2⟩⟩⟩,hN⟩
end
theorem Ix.box {F:Foot} {W:World} {g m:Nat} {l:List Int} {arr:Array Value} {t:TypeId} {fr:Nat × Nat} (hg:W.heap[g]?=some (.cells arr t fr)) (ha:arr.toList=l.map fun n=>Value.int .i64 n) (hF:¬ F g) (hm:l.length=m) (hmax:m≤maxLen):Ix F W (.slice (some ⟨g,0,none⟩) m m) l:=by
 subst hm
 refine ⟨.inr ⟨g,0,l.length,rfl,block_lt hg,Nat.le_refl _,hmax,fun j u hj=>?_⟩,fun b o n c e=>by cases e;exact hF⟩
 rw [cell_of hg,Nat.zero_add,← Array.getElem?_toList,ha,List.getElem?_map,hj]
 rfl
end
section
open Go Go.RowKit
def ftText (nm:List UInt8):V :=
 vstr nm
set_option maxRecDepth 100000 in
set_option maxHeartbeats 4000000 in
theorem ftText_any (w:World) (nm:List UInt8):Calls Tryz.prog 80 #[.string (bs nm)] w fun e_ w'=>e_=.returned (V.agg (ftText nm))∧Bl w w':=by
 refine calls_of_wp Tryz.func80 rfl ?_
 simp only [Tryz.ntmps80,zS,Nat.reduceAdd,Nat.reduceSub]
 refine (wpIn_wide (n:=1)).1 ?_
 have hS:SW RNo w noF [] [] [] w:=SW.start (RNo.ok w) (RNo.start w) (by nofun) (by nofun)
 skip
 refine wpIn_seq_k fun K1 hK1=>?_
 refine wpL.enter hS ?_
 intro ops hops
 refine wpL.alloc (RNo.ok w) (fun b=>.pointer (some ⟨b,0,none⟩)) (obj:=Obj.cells #[.int .i64 0,.int .i64 0,.string (bs [])] 27 (0,0)) rfl (by nofun) (by nofun) (by intro w;go_simp) ?_
 intro b2
 simp only [qP]
 intro W3 hS4
 refine hK1 _ _ ?_
 (try clear hns);clear hS hops ops
 try clear hK1 K1
 refine wpIn_seq_k fun K5 hK5=>?_
 refine wpL.enter hS4 ?_
 intro ops hops
 refine wpL.take (v:=.string (bs nm)) (SW.stab (RNo.ok w)) (fun _ h=>h.sb) (YB.move _ rfl rfl rfl) ?_
 simp only [qP]
 refine wpL.take (v:=V.agg (vstr nm)) (SW.stab (RNo.ok w)) (fun _ h=>h.sb) (YB.run (by nofun) (by nofun) rfl (by intro w _;go_simp)) ?_
 simp only [qP]
 refine wpL.store (RNo.ok w) _ _ _ 0 (off:=0) (arr':=#[.int .i64 3,.int .i64 0,.string (bs nm)]) (u:=V.agg (vstr nm)) (L':=[(b2,Obj.cells #[.int .i64 3,.int .i64 0,.string (bs nm)] 27 (0,0))]) rfl (by rfl) (by rfl) (by rfl) (by rfl) (by kernel_rfl) (zB rfl) (by rfl) (by rfl) (by rfl) ?_
 simp only [qP]
 intro W6 hS7
 refine hK5 _ _ ?_
 (try clear hns);clear hS4 hops ops
 try clear hK5 K5
 refine wpIn_ret ?_
 refine bodyPost_ret (v:=V.agg (vstr nm)) (results1 Tryz.results80 (⟨_,rfl,load_whole Tryz.underlying27 rfl (by kernel_rfl) (hS7.sb.box 0 rfl)⟩)) rfl ?_
 have em:ftText nm=vstr nm:=by simp only [ftText,if_true,Bool.false_eq_true,if_false,Bool.not_true,Bool.not_false]
 rw [em]
 exact ⟨rfl,hS7.finBl⟩
end
section
open Go Go.RowKit
def numbersO (l:List V):List Int:=l.map (·.n)
set_option maxRecDepth 100000 in
set_option maxHeartbeats 4000000 in
theorem numbers_any (w:World) (al:Option Addr) (cl:Nat) (l:List V) (hl:Vx noF w (.slice al l.length cl) l) (hll:l.length≤4194304):Calls Tryz.prog 150 #[.slice al l.length cl] w (NewR nCs 2 1 w (numbersO l)):=by
 refine calls_of_wp Tryz.func150 rfl ?_
 simp only [Tryz.ntmps150,zS,Nat.reduceAdd,Nat.reduceSub]
 refine (wpIn_wide (n:=1)).1 ?_
 have hS:SW RNo w noF [] [] [vsF (.slice al l.length cl) l false] w:=SW.start (RNo.ok w) (RNo.start w) (by nofun) (start_cons hl.vs.noF.fact start_nil)
 have hol:=hl.out
 clear hl
 refine wpIn_seq_k fun K1 hK1=>?_
 refine wpL.enter hS ?_
 intro ops hops
 refine wpL.take (v:=.slice none 0 0) (SW.stab (RNo.ok w)) (fun _ h=>h.sb) (YB.assign _ rfl rfl rfl) ?_
 simp only [qP]
 intro W2 hS3
 refine hK1 _ _ ?_
 (try clear hns);clear hS hops ops
 try clear hK1 K1
 refine wpIn_seq_k fun K4 hK4=>?_
 refine wpL.enter hS3 ?_
 intro ops hops
 refine wpL.take (v:=.slice al l.length cl) (SW.stab (RNo.ok w)) (fun _ h=>h.sb) (YB.move _ rfl rfl rfl) ?_
 simp only [qP]
 refine wpL.take (v:=.int .i64 (l.length:Int)) (SW.stab (RNo.ok w)) (fun _ h=>h.sb) (YB.lenRow FWide.wide _ Tryz.underlying29 rfl rfl rfl) ?_
 simp only [qP]
 refine wpL.make (m:=l.length) (e:=2) (z:=.int .i64 0) (sz:=1) (bytes:=8) nCs (RNo.ok w) _ _ rfl rfl Tryz.underlying156 (by kernel_rfl) rfl (by decide) rfl rfl (by first | assumption | omega) ?_
 intro b5
 simp only [qP]
 refine wpL.take (v:=.slice (some ⟨b5,0,none⟩) 0 l.length) (SW.stab (RNo.ok w)) (fun _ h=>h.sb) (YB.assign _ rfl rfl rfl) ?_
 simp only [qP]
 intro W6 hS7
 refine hK4 _ _ ?_
 (try clear hns);clear hS3 hops ops
 try clear hK4 K4
 refine wpIn_seq_k fun K8 hK8=>?_
 refine wpIn_seq_k fun K9 hK9=>?_
 refine wpL.enter hS7 ?_
 intro ops hops
 refine wpL.take (v:=.slice al l.length cl) (SW.stab (RNo.ok w)) (fun _ h=>h.sb) (YB.move _ rfl rfl rfl) ?_
 simp only [qP]
 refine wpL.take (v:=.int .i64 (l.length:Int)) (SW.stab (RNo.ok w)) (fun _ h=>h.sb) (YB.lenRow FWide.wide _ Tryz.underlying29 rfl rfl rfl) ?_
 simp only [qP]
 refine wpL.take (v:=.int .i64 0) (SW.stab (RNo.ok w)) (fun _ h=>h.sb) (YB.move _ rfl rfl rfl) ?_
 simp only [qP]
 intro W10 hS11
 refine hK9 _ _ ?_
 (try clear hns);clear hS7 hops ops
 try clear hK9 K9
 refine wpIn_block ?_
 refine wpIn_loopN (l.length) (fun (i:Nat) (a:Go.Act) (W:World)=>∃ (ys:List Int) (p12:Sp) (u5:Value) (u12:Value) (u13:Value) (u14:Value) (u15:Value) (u16:Value) (u17:Value) (u18:Value) (u19:Value) (u20:Value),(ys=(l.take i).map (·.n))∧a={ tmps:=#[.slice al l.length cl,undef,.slice none 0 0,slN p12 ys.length,undef,u5,.slice al l.length cl,.int .i64 (l.length:Int),.slice (some ⟨b5,0,none⟩) 0 l.length,.slice al l.length cl,.int .i64 (l.length:Int),.int .i64 (i:Int),u12,u13,u14,u15,u16,u17,u18,u19,u20,undef],defers:=[] }∧SW RNo w noF [] [] [rowF nCs 2 1 (slN p12 ys.length) ys,vsF (.slice al l.length cl) l false] W) ?_ ?_
 ·exact ⟨[],(some ⟨b5,0,none⟩,l.length),_,_,_,_,_,_,_,_,_,_,rfl,rfl,hS11⟩
 clear hS11
 rintro i hi16 _ W13 ⟨ys,p12,u5,u12,u13,u14,u15,u16,u17,u18,u19,u20,hp15,rfl,hS14⟩
 have hN:l.length≤9223372036854775807:=(by first | omega | (simp;omega))
 refine wpIn_seq_k fun K17 hK17=>?_
 refine wpL.enter hS14 ?_
 intro ops hops
 refine wpL.take (v:=.bool (decide ((i:Int) < (l.length:Int)))) (SW.stab (RNo.ok w)) (fun _ h=>h.sb) (YB.bin_lss _ _ _ _ rfl rfl rfl rfl) ?_
 simp only [qP]
 intro W18 hS19
 refine hK17 _ _ ?_
 (try clear hns);clear hS14 hops ops
 try clear hK17 K17
 refine wpIn_seq_k fun K20 hK20=>?_
 rcases Bool.eq_false_or_eq_true (decide ((i:Int) < (l.length:Int))) with hc21 | hc21
 ·refine wpIn_cond_true (by show Value.bool (decide ((i:Int) < (l.length:Int)))=_;rw [hc21];try rfl) ?_
  have hlt:i < l.length:=by have:=of_decide_eq_true hc21;omega
  refine wpIn_skip ?_
  refine hK20 _ _ ?_
  try clear hK20 K20
  refine wpIn_seq_k fun K22 hK22=>?_
  refine wpIn_block ?_
  refine wpIn_seq_k fun K23 hK23=>?_
  refine wpL.enter hS19 ?_
  intro ops hops
  refine wpL.take (v:=.pointer (some ⟨rb (al,cl),ro (al,cl) + i * 3,none⟩)) (SW.stab (RNo.ok w)) (fun _ h=>h.sb) (YB.index (p:=(al,cl)) (m:=l.length) (i:=i) _ 27 _ _ 3 rfl rfl rfl rfl (by first | assumption | omega | (simp;omega)) Tryz.underlying29 (by kernel_rfl) (fun wz hw=>((show Rd V.cs wz (slN (al,cl) l.length) l from hw.fact 1 rfl).addr (by first | assumption | omega | (simp;omega))).1)) ?_
  simp only [qP]
  refine wpL.take (v:=V.agg (l.getD i V.nil)) (SW.stab (RNo.ok w)) (fun _ h=>h.sb) (YB.load (p:=.pointer (some ⟨rb (al,cl),ro (al,cl) + i * 3,none⟩)) _ _ rfl rfl rfl (fun wz hw=>(Rd.vs (show Rd V.cs wz (slN (al,cl) l.length) l from hw.fact 1 rfl)).loadV Tryz.underlying27 rfl (by kernel_rfl) (by first | assumption | omega | (simp;omega)))) ?_
  simp only [qP]
  refine wpL.alloc (RNo.ok w) (fun b=>.pointer (some ⟨b,0,none⟩)) (obj:=Obj.cells #[.int .i64 0,.int .i64 0,.string (bs [])] 27 (0,0)) rfl (by nofun) (by nofun) (by intro w;go_simp) ?_
  intro b24
  simp only [qP]
  refine wpL.store (RNo.ok w) _ _ _ 0 (off:=0) (arr':=#[.int .i64 ((l.getD i V.nil).k),.int .i64 ((l.getD i V.nil).n),.string (bs ((l.getD i V.nil).s))]) (u:=V.agg (l.getD i V.nil)) (L':=[(b24,Obj.cells #[.int .i64 ((l.getD i V.nil).k),.int .i64 ((l.getD i V.nil).n),.string (bs ((l.getD i V.nil).s))] 27 (0,0))]) rfl (by rfl) (by rfl) (by rfl) (by rfl) (by kernel_rfl) (zB rfl) (by rfl) (by rfl) (by rfl) ?_
  simp only [qP]
  intro W25 hS26
  refine hK23 _ _ ?_
  (try clear hns);clear hS19 hops ops
  try clear hK23 K23
  refine wpL.enter hS26 ?_
  intro ops hops
  refine wpL.take (v:=slN p12 ys.length) (SW.stab (RNo.ok w)) (fun _ h=>h.sb) (YB.move _ rfl rfl rfl) ?_
  simp only [qP]
  refine wpL.take (v:=.pointer (some ⟨b24,1,none⟩)) (SW.stab (RNo.ok w)) (fun _ h=>h.sb) (YB.run (by nofun) (by nofun) rfl (by intro w _;go_simp)) ?_
  simp only [qP]
  refine wpL.take (v:=.int .i64 ((l.getD i V.nil).n)) (SW.stab (RNo.ok w)) (fun _ h=>h.sb) (YB.load (p:=.pointer (some ⟨b24,1,none⟩)) _ _ rfl rfl rfl (fun w hw=>load_one Tryz.underlying2 rfl (hw.box 0 rfl) rfl)) ?_
  simp only [qP]
  refine wpL.alloc (RNo.ok w) (fun b=>.slice (some ⟨b,0,none⟩) 1 1) (obj:=Obj.cells #[.int .i64 ((l.getD i V.nil).n)] 2 (0,0)) rfl (by nofun) (by nofun) (by intro w;go_simp) ?_
  intro b27
  simp only [qP]
  refine wpL.append (enc:=nCs) (l:=ys) (xv:=(slN p12 ys.length)) (m:=1) (e:=2) (z:=.int .i64 0) (sz:=1) (bytes:=8)  FWide.wide (RNo.ok w) _ _ rfl rfl Tryz.underlying156 (by kernel_rfl) rfl (by decide) (by decide) (fun _=>rfl) (by intro x u hu;simp at hu;first | (subst hu;rfl) | (rcases hu with rfl | rfl | rfl<;>rfl)) 0 rfl [(l.getD i V.nil).n] rfl (by rfl) (by rfl) (fun wz hw=>srcBox (hw.sb.box 0 rfl) rfl) (by have hq:=congrArg List.length hp15;simp at hq;omega) ?_
  intro p28
  simp only [List.set_cons_zero,List.set_cons_succ]
  simp only [qP]
  refine wpL.take (v:=slN p28 (ys++[(l.getD i V.nil).n]).length) (SW.stab (RNo.ok w)) (fun _ h=>h.sb) (YB.assign _ rfl rfl rfl) ?_
  simp only [qP]
  intro W29 hS30
  refine hK22 _ _ ?_
  (try clear hns);clear hS26 hops ops
  try clear hK22 K22
  refine wpL.enter hS30 ?_
  intro ops hops
  refine wpL.take (v:=.int .i64 ((i + 1:Nat):Int)) (SW.stab (RNo.ok w)) (fun _ h=>h.sb) (YB.bin_addN (i:=i) _ _ _ _ rfl rfl rfl rfl (by omega)) ?_
  simp only [qP]
  refine wpL.take (v:=.int .i64 ((i + 1:Nat):Int)) (SW.stab (RNo.ok w)) (fun _ h=>h.sb) (YB.move _ rfl rfl rfl) ?_
  simp only [qP]
  intro W31 hS32
  exact ⟨hlt,(ys++[(l.getD i V.nil).n]),p28,_,_,_,_,_,_,_,_,_,_,(by rw [hp15,List.take_add_one,List.map_append,List.getD_eq_getElem?_getD,List.getElem?_eq_getElem hlt];rfl),rfl,hS32.dropL 2⟩
 ·refine wpIn_cond_false (by show Value.bool (decide ((i:Int) < (l.length:Int)))=_;rw [hc21];try rfl) ?_
  have hge0:i=l.length:=by have:=of_decide_eq_false hc21;omega
  refine wpIn_exit ?_
  refine hK8 _ _ ?_
  try clear hK8 K8
  refine wpIn_seq_k fun K33 hK33=>?_
  refine wpL.enter hS19 ?_
  intro ops hops
  refine wpL.take (v:=slN p12 ys.length) (SW.stab (RNo.ok w)) (fun _ h=>h.sb) (YB.move _ rfl rfl rfl) ?_
  simp only [qP]
  refine wpL.take (v:=slN p12 ys.length) (SW.stab (RNo.ok w)) (fun _ h=>h.sb) (YB.assign _ rfl rfl rfl) ?_
  simp only [qP]
  intro W34 hS35
  refine hK33 _ _ ?_
  (try clear hns);clear hS19 hops ops
  try clear hK33 K33
  refine wpIn_ret ?_
  refine bodyPost_ret (v:=slN p12 ys.length) (results1 Tryz.results150 (rfl)) rfl ?_
  have e:ys=numbersO l:=by unfold numbersO;rw [hp15,hge0,List.take_length]
  rw [← e]
  exact hS35.handR 0 rfl
end
end Go.Proofs.YtlbcbikplfocfaaGreatDoor.W
