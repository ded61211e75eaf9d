/- EvB -/
import Derived.Test.YtmelcflkbfhohaaGreatDoorPart2
set_option linter.unusedVariables false
set_option linter.unusedSimpArgs false
namespace Go.Proofs.YtmelcflkbfhohaaGreatDoor.W.E
section
open Go.RowKit
section
variable {X:Type} {L:EL X} {e:Env} {st:St X} {w w':World} {F:FootE} {P:Program}
theorem Rl.same (h:Rl L e st w F) (hh:w'.heap=w.heap):Rl L e st w' F :=
 ⟨fun b k c o z h1 h2=>⟨(h.blk b k c o z h1 h2).1,(h.blk b k c o z h1 h2).2.keep (.refl e) (by rw [hh])⟩,h.dis,h.old,h.dom,h.sib,L.keep _ _ _ _ _ h.ext (by rw [hh];exact Nat.le_refl _) fun b hb=>by rw [hh]⟩
theorem Nxt.same (B:Nat) (hh:w'.heap=w.heap) (h1:w'.os=w.os) (h2:w'.tape=w.tape) (h3:w'.output=w.output):Nxt B e st w F e st w' F :=
 ⟨.refl e,h1,h2,h3,by rw [hh];exact Nat.le_refl _,fun _ _ _=>by rw [hh],fun _ _ h=>h,fun _ _ h=>⟨h,fun _=>rfl⟩,Nat.le_refl _⟩
theorem newBlk2 {e e':Env} {w:World} {cs:List SV} {us:List Value} {arr:Array Value} {t:TypeId} (h:VRs e cs us) (hp:∀ (j:Nat) (u:Value),us[j]?=some u→arr[j]?=some u) (hl:e.le e') (h1:cs.all SV.one=true) (hz:cs.length≤arr.size) :
  BlkR e' (w.alloc (.cells arr t)) w.heap.size 0 arr.size (.cells cs false [] (some t)):=by
 refine ⟨arr,t,(0,0),MapKept.heap_alloc w _ |>.1,by omega,⟨fun _=>rfl,fun T hT=>⟨Option.some.inj hT,rfl⟩⟩,hz,fun j v hj=>⟨(List.all_eq_true.1 h1) v (List.mem_of_getElem? hj),?_⟩⟩
 obtain ⟨u,h2,h3⟩:=h.at j hj
 exact ⟨u,by rw [Nat.zero_add];exact hp j u h2,h3.mono hl⟩
theorem Rl.fresh (h:Rl L e st w F) (hn:st.nx < TMax) {k:SB} (hs:k.sib=[]) {obj:Obj} {z:Nat} (hb:BlkR (e.put st.nx (w.heap.size,0,z)) (w.alloc obj) w.heap.size 0 z k) :
  Rl L (e.put st.nx (w.heap.size,0,z)) (st.add k) (w.alloc obj) F∧Nxt st.nx e st w F (e.put st.nx (w.heap.size,0,z)) (st.add k) (w.alloc obj) F :=
 ⟨(h.add hn k).mat h.none (T.upd_same _ _ hn) hs hb,(Nxt.add h k).trans (Nxt.mat (h.add hn k) (Nat.le_refl _) h.none)⟩
def byteS (s:List UInt8):List SV:=s.map fun b=>.int .u8 b.toNat
def srcS (P:Program) (m:T SB) (tx:TypeId) (esz:Nat) (x:SV):Option (Nat × List SV) :=
 match P.underlying tx with
 | some (.slice _)=>match x with
  | .nils=>some (0,[])
  | .emp _ _=>some (0,[])
  | .sl b off n es _=>match m.get b with
   | some (.cells cs _ _ _)=>bif Nat.beq es esz && Nat.ble (off + n * esz) cs.length then some (n,(cs.drop off).take (n * esz)) else none
   | _=>none
  | _=>none
 | some .string=>match x with
  | .str s=>bif Nat.beq esz 1 then some (s.length,byteS s) else none
  | _=>none
 | _=>none
theorem byteS_ok (e:Env):∀ s:List UInt8,VRs e (byteS s) (s.map fun b=>Value.int .u8 b.toNat)
 | []=>.nil
 | b :: t=>.cons (.int _ _) (byteS_ok e t)
theorem row_load {w:World} {c o:Nat} {us:List Value} {n:Nat} (hl:us.length=n) (h:∀ (j:Nat) (u:Value),us[j]?=some u→w.cell? ⟨c,o + j,none⟩=some u):(loadCells ⟨c,o,none⟩ n).run P w=.ok us.toArray w:=by
 have:=run_loadCells_list (P:=P) w ⟨c,o,none⟩ us (fun j u hj=>by rw [add_none];exact h j u hj)
 rwa [hl] at this
theorem srcS_ok {tx:TypeId} {esz n:Nat} {x:SV} {vs:List SV} (h:srcS P st.m tx esz x=some (n,vs)) (hR:Rl L e st w F) {u:Value} (hx:VR e x u):∃ us,Src P esz tx u n us w∧VRs e vs us∧vs.all SV.one=true∧∀ w1,(Builtin.firstCells esz n u).run P w1=(Builtin.firstCells esz n u).run P w1:=by
 unfold srcS at h
 split at h
 ·rename_i el ht
  split at h
  ·cases h;cases hx
   exact ⟨[],⟨.inl ⟨_,ht⟩,fun _=>rfl,rfl,rfl,by simp,fun u hu=>by cases hu⟩,.nil,rfl,fun _=>rfl⟩
  ·cases h
   cases hx
   ·exact ⟨[],⟨.inl ⟨_,ht⟩,fun _=>rfl,rfl,rfl,by simp,fun u hu=>by cases hu⟩,.nil,rfl,fun _=>rfl⟩
   ·exact ⟨[],⟨.inl ⟨_,ht⟩,fun _=>rfl,by simp [Builtin.firstCells,loadCells,loadCellsFrom],by simp [Builtin.firstCells,loadCells,loadCellsFrom],by simp,fun u hu=>by cases hu⟩,.nil,rfl,fun _=>rfl⟩
  ·rename_i b off k es ck
   split at h
   ·rename_i cs ro sib ty hm
    cases hc:Nat.beq es esz && Nat.ble (off + k * esz) cs.length with
    | false=>rw [hc] at h;cases h
    | true =>
     rw [hc] at h;cases h
     simp only [Bool.and_eq_true] at hc
     have h1:=Nat.eq_of_beq_eq_true hc.1
     have h2:=zB hc.2
     subst h1
     cases hx with
     | sl hb hl hz hmx hck =>
      rename_i c o z cap
      have hB:=(hR.blk b _ c o z hm hb).2
      obtain ⟨us,k1,k2,k3⟩:=part_row hB off (n * es)
      have hlen:us.length=n * es:=by have:=k1.length;simp at this;omega
      have r1:∀ w1,w1.heap=w.heap→(loadCells ⟨c,o + off,none⟩ (n * es)).run P w1=.ok us.toArray w1:=fun w1 hh=>row_load hlen fun j u hj=>by
       have:=k2 j u hj
       rw [Nat.add_assoc]
       simpa [World.cell?,hh] using this
      refine ⟨us,⟨.inl ⟨_,ht⟩,fun _=>rfl,r1 w rfl,r1 w.drew rfl,hlen,k3⟩,k1,?_,fun _=>rfl⟩
      refine List.all_eq_true.2 fun v hv=>?_
      obtain ⟨j,hj⟩:=List.mem_iff_getElem?.1 hv
      obtain ⟨arr,t,fr,g1,g2,g3,g4,g5⟩:=hB
      rw [List.getElem?_take] at hj
      split at hj
      ·rw [List.getElem?_drop] at hj;exact (g5 _ v hj).1
      ·cases hj
     | sle off es ad hb =>
      refine ⟨[],⟨.inl ⟨_,ht⟩,fun _=>rfl,?_,?_,by simp,fun u hu=>by cases hu⟩,?_,?_,fun _=>rfl⟩
      ·simp [Builtin.firstCells,loadCells,loadCellsFrom]
      ·simp [Builtin.firstCells,loadCells,loadCellsFrom]
      ·simp;exact .nil
      ·simp
   ·cases h
  ·cases h
 ·rename_i ht
  split at h
  ·rename_i s
   cases hc:Nat.beq esz 1 with
   | false=>rw [hc] at h;cases h
   | true =>
    rw [hc] at h;cases h
    have:=Nat.eq_of_beq_eq_true hc
    subst this
    cases hx
    have hsz:(bs s).size=s.length:=by simp [ByteArray.size]
    have hcell:∀ w1:World,(Builtin.firstCells 1 s.length (.string (bs s))).run P w1=.ok (s.map fun b=>Value.int .u8 b.toNat).toArray w1:=fun w1=>by
     have e1:(bs s).extract 0 s.length=bs s:=by apply ByteArray.ext;simp [ByteArray.data_extract]
     simp [Builtin.firstCells,e1]
    refine ⟨s.map fun b=>Value.int .u8 b.toNat,⟨.inr ht,fun w1=>?_,hcell w,hcell w.drew,by simp,fun u hu=>?_⟩,byteS_ok e s,?_,fun _=>rfl⟩
    ·simp [Builtin.lenOf,hsz]
    ·obtain ⟨_,_,rfl⟩:=List.mem_map.1 hu;rfl
    ·simp [byteS,SV.one]
  ·cases h
 ·cases h
def St.app (st:St X) (b:Nat) (cs:List SV) (sib:List Nat) (ty:Option Nat) (new:List SV) (ty':Option Nat):St X :=
 { st with m:=(st.m.upd b (some (.cells cs true [] ty))).upd st.nx (some (.cells new false (b :: sib) ty')),nx:=st.nx + 1 }
theorem St.app_get {b:Nat} {cs new:List SV} {sib:List Nat} {ty ty':Option Nat} (hn:st.nx < TMax) (hb:b < TMax) (y:Nat):(st.app b cs sib ty new ty').m.get y=if y=st.nx then some (.cells new false (b :: sib) ty') else if y=b then some (.cells cs true [] ty) else st.m.get y:=by
 rw [St.app,T.get_upd _ _ hn,T.get_upd _ _ hb]
theorem Rl.app (h:Rl L e st w F) (hn:st.nx < TMax) {b c o z:Nat} {cs new:List SV} {sib:List Nat} {ty ty':Option Nat} (hm:st.m.get b=some (.cells cs false sib ty)) (he:e b=some (c,o,z)) (hbm:b < TMax) {x:Nat × Nat × Nat}
  (hs:w.heap.size≤w'.heap.size) (hos:w'.os=w.os∧w'.tape=w.tape∧w'.output=w.output) (hk:∀ d,d < w.heap.size→d≠c→w'.heap[d]?=w.heap[d]?)
  (hold:∀ y by_ oy zy,st.m.get y=some by_→(y=b∨y∈sib)→e y=some (c,oy,zy)→BlkR e w' c oy zy (if y=b then .cells cs true [] ty else by_))
  (hnew:BlkR (e.put st.nx x) w' x.1 x.2.1 x.2.2 (.cells new false (b :: sib) ty'))
  (hx:(w.heap.size≤x.1∧w'.heap[c]?=w.heap[c]?)∨(x.1=c∧o + cs.length≤x.2.1 + new.length)) (hxF:¬ F x.1) :
  Rl L (e.put st.nx x) (st.app b cs sib ty new ty') w' F∧Nxt st.nx e st w F (e.put st.nx x) (st.app b cs sib ty new ty') w' F:=by
 have hnone:=h.none
 have hl:=Env.le_put hnone x
 have hbn:b≠st.nx:=fun hq=>by have:=h.old b _ hm;omega
 have get:=St.app_get (st:=st) (b:=b) (cs:=cs) (sib:=sib) (new:=new) (ty:=ty) (ty':=ty') hn hbm
 have hcF:=(h.blk b _ c o z hm he).1
 have hclt:=(h.blk b _ c o z hm he).2.lt
 obtain ⟨x1,x2,x3⟩:=x
 simp only at hnew hx hxF
 -- an old block,seen from the new state
 have old:∀ {y k c1 o1 z1},(st.app b cs sib ty new ty').m.get y=some k→y≠st.nx→(e.put st.nx (x1,x2,x3)) y=some (c1,o1,z1)→e y=some (c1,o1,z1)∧∃ k0,st.m.get y=some k0∧(y=b∧k=.cells cs true [] ty∧k0=.cells cs false sib ty∨y≠b∧k=k0):=fun {y k c1 o1 z1} h1 h2 h3=>by
  rw [Env.put_ne _ _ h2] at h3
  rw [get,if_neg h2] at h1
  refine ⟨h3,?_⟩
  by_cases hy:y=b
  ·rw [if_pos hy] at h1;cases h1
   exact ⟨_,by rw [hy];exact hm,.inl ⟨hy,rfl,rfl⟩⟩
  ·rw [if_neg hy] at h1
   exact ⟨k,h1,.inr ⟨hy,rfl⟩⟩
 -- where an old block lies
 have lies:∀ {y k0 c1 o1 z1},st.m.get y=some k0→y≠b→e y=some (c1,o1,z1)→c1≠c∨(y∈sib∧c1=c∧k0.wr=false∧o1 + k0.len≤o + cs.length):=fun {y k0 c1 o1 z1} h1 h2 h3=>by
  rcases h.dis b y _ k0 c o z c1 o1 z1 hm h1 (Ne.symm h2) rfl he h3 with h4 | h4
  ·exact .inl (Ne.symm h4)
  ·by_cases hc:c1=c
   ·exact .inr ⟨h4.1,hc,h4.2.1,h4.2.2⟩
   ·exact .inl hc
 refine ⟨⟨fun y k c1 o1 z1 h1 h2=>?_,fun p q bp bq c1 o1 z1 c2 o2 z2 h1 h2 h3 h4 h5 h6=>?_,fun y k h1=>?_,fun y p h1=>?_,fun y k h1 h2 q hq=>?_,?_⟩,?_⟩
 ·by_cases hy:y=st.nx
  ·subst hy
   rw [Env.put_same] at h2;cases h2
   rw [get,if_pos rfl] at h1;cases h1
   exact ⟨hxF,hnew⟩
  ·obtain ⟨g1,k0,g2,g3⟩:=old h1 hy h2
   refine ⟨(h.blk y k0 c1 o1 z1 g2 g1).1,?_⟩
   rcases g3 with ⟨rfl,rfl,rfl⟩ | ⟨g4,rfl⟩
   ·rw [he] at g1;cases g1
    have:=hold y _ o z g2 (.inl rfl) he
    rw [if_pos rfl] at this
    obtain ⟨a1,a2,a3,a4,a5,a6,a7,a8⟩:=this
    exact ⟨a1,a2,a3,a4,a5,a6,a7,fun j v hj=>let ⟨b1,u,b2,b3⟩:=a8 j v hj;⟨b1,u,b2,b3.mono hl⟩⟩
   ·rcases lies g2 g4 g1 with g5 | ⟨g5,g6,g7,g8⟩
    ·exact (h.blk y k c1 o1 z1 g2 g1).2.keep hl (hk c1 (h.blk y k c1 o1 z1 g2 g1).2.lt g5)
    ·subst g6
     have:=hold y k o1 z1 g2 (.inr g5) g1
     rw [if_neg g4] at this
     exact this.keep hl rfl
 ·by_cases hp:p=st.nx
  ·subst hp
   rw [Env.put_same] at h5;cases h5
   rw [get,if_pos rfl] at h1;cases h1
   have hq:q≠st.nx:=fun hh=>h3 hh.symm
   obtain ⟨g1,k0,g2,g3⟩:=old h2 hq h6
   have hc2:c2 < w.heap.size:=(h.blk q k0 c2 o2 z2 g2 g1).2.lt
   rcases hx with ⟨hx1,-⟩ | ⟨hx1,hx2⟩
   ·exact .inl (by omega)
   ·rcases g3 with ⟨rfl,rfl,rfl⟩ | ⟨g4,rfl⟩
    ·rw [he] at g1;cases g1
     exact .inr ⟨List.mem_cons_self ..,rfl,hx2⟩
    ·rcases lies g2 g4 g1 with g5 | ⟨g5,g6,g7,g8⟩
     ·exact .inl (by rw [hx1];exact Ne.symm g5)
     ·exact .inr ⟨List.mem_cons_of_mem _ g5,g7,Nat.le_trans g8 hx2⟩
  ·obtain ⟨g1,k0,g2,g3⟩:=old h1 hp h5
   rcases g3 with ⟨rfl,rfl,rfl⟩ | ⟨g4,rfl⟩
   ·cases h4
   ·by_cases hq:q=st.nx
    ·subst hq
     rw [Env.put_same] at h6;cases h6
     have hc1:c1 < w.heap.size:=(h.blk p bp c1 o1 z1 g2 g1).2.lt
     rcases hx with ⟨hx1,-⟩ | ⟨hx1,hx2⟩
     ·exact .inl (by omega)
     ·rcases lies g2 g4 g1 with g5 | ⟨g5,g6,g7,g8⟩
      ·exact .inl (by rw [hx1];exact g5)
      ·rw [g7] at h4;cases h4
    ·obtain ⟨r1,k1,r2,r3⟩:=old h2 hq h6
     have d:=h.dis p q bp k1 c1 o1 z1 c2 o2 z2 g2 r2 h3 h4 g1 r1
     rcases r3 with ⟨rfl,rfl,rfl⟩ | ⟨r4,rfl⟩
     ·rcases d with d | d
      ·exact .inl d
      ·exact absurd d.2.1 (by simp [SB.wr])
     ·exact d
 ·rw [get] at h1
  by_cases hy:y=st.nx
  ·subst hy;exact Nat.lt_succ_self _
  ·rw [if_neg hy] at h1
   by_cases hyb:y=b
   ·subst hyb;exact Nat.lt_succ_of_lt (h.old _ _ hm)
   ·rw [if_neg hyb] at h1;exact Nat.lt_succ_of_lt (h.old _ _ h1)
 ·by_cases hy:y=st.nx
  ·subst hy;exact Nat.lt_succ_self _
  ·rw [Env.put_ne _ _ hy] at h1;exact Nat.lt_succ_of_lt (h.dom _ _ h1)
 ·have up:∀ r,e r≠.none→(e.put st.nx (x1,x2,x3)) r≠.none:=fun r hr hn=>by
   cases hq:e r with
   | none=>exact hr hq
   | some v=>rw [hl r v hq] at hn;cases hn
  by_cases hy:y=st.nx
  ·subst hy
   rw [get,if_pos rfl] at h1;cases h1
   rcases List.mem_cons.1 hq with rfl | hq
   ·exact up _ (by rw [he];nofun)
   ·exact up _ (h.sib b _ hm (by rw [he];nofun) q hq)
  ·rw [get,if_neg hy] at h1
   rw [Env.put_ne _ _ hy] at h2
   by_cases hyb:y=b
   ·rw [if_pos hyb] at h1;cases h1;cases hq
   ·rw [if_neg hyb] at h1;exact up _ (h.sib y k h1 h2 q hq)
 ·refine L.mono _ _ _ _ _ (L.keep _ _ _ _ _ h.ext hs fun d hd=>?_) hl
  exact hk d (L.lt _ _ _ _ h.ext d hd) fun hq=>hcF (by rw [← hq];exact hd)
 ·refine ⟨hl,hos.1,hos.2.1,hos.2.2,hs,fun d hd hni=>hk d hd fun hq=>hni (.inr ⟨b,_,o,z,hm,by rw [hq];exact he⟩),fun d hd hi=>?_,fun y hy hyn=>?_,Nat.le_succ _⟩
  ·rcases hi with hi | ⟨y,k,o1,z1,h1,h2⟩
   ·exact .inl hi
   ·by_cases hy:y=st.nx
    ·subst hy
     rw [Env.put_same] at h2;cases h2
     rcases hx with ⟨hx1,-⟩ | ⟨rfl,hx2⟩
     ·omega
     ·exact .inr ⟨b,_,o,z,hm,he⟩
    ·obtain ⟨g1,k0,g2,-⟩:=old h1 hy h2
     exact .inr ⟨y,k0,o1,z1,g2,g1⟩
  ·have hyx:y≠st.nx:=by omega
   have hyb:y≠b:=fun hq=>by rw [hq,he] at hyn;cases hyn
   exact ⟨by rw [Env.put_ne _ _ hyx];exact hyn,fun _=>by rw [get,if_neg hyx,if_neg hyb]⟩
theorem BlkR.untype {c o z:Nat} {cs:List SV} {ro:Bool} {sib:List Nat} {ty:Option Nat} (h:BlkR e w c o z (.cells cs ro sib ty)):BlkR e w c o z (.cells cs ro sib none):=by
 obtain ⟨arr,t,fr,h1,h2,h3,h4⟩:=h
 exact ⟨arr,t,fr,h1,h2,⟨h3.1,nofun⟩,h4⟩
def St.less (st:St X) (k:Nat):St X:={ st with m:=st.m.upd k none }
theorem Rl.less (h:Rl L e st w F) {k:Nat} (hk:k < TMax) (hs:∀ x bx,st.m.get x=some bx→k∈bx.sib→True):Rl L e (st.less k) w F:=by
 have get:∀ b q,(st.less k).m.get b=some q→st.m.get b=some q∧b≠k:=fun b q hb=>by
  rw [St.less,T.get_upd _ _ hk] at hb
  by_cases hbk:b=k
  ·rw [if_pos hbk] at hb;cases hb
  ·rw [if_neg hbk] at hb;exact ⟨hb,hbk⟩
 exact ⟨fun b q c o z h1 h2=>h.blk b q c o z (get b q h1).1 h2,fun x y bx by_ c o z c' o' z' h1 h2 h3 h4 h5 h6=>h.dis x y bx by_ c o z c' o' z' (get _ _ h1).1 (get _ _ h2).1 h3 h4 h5 h6,fun b q h1=>h.old b q (get b q h1).1,h.dom,fun x bx h1 h2=>h.sib x bx (get x bx h1).1 h2,h.ext⟩
theorem Nxt.letgo (B:Nat) {k:Nat} (hk:k < TMax) (he:st.m.get k=some .emp):Nxt B e st w F e (st.less k) w F :=
 ⟨.refl e,rfl,rfl,rfl,Nat.le_refl _,fun _ _ _=>rfl,fun c hc hi=>by
  rcases hi with hi | ⟨b,q,o,z,h1,h2⟩
  ·exact .inl hi
  ·refine .inr ⟨b,q,o,z,?_,h2⟩
   rw [St.less,T.get_upd _ _ hk] at h1
   by_cases hb:b=k
   ·rw [if_pos hb] at h1;cases h1
   ·rwa [if_neg hb] at h1,fun b hb hn=>⟨hn,fun hne=>by
  rw [St.less,T.upd_ne _ _ (fun hq=>hne (by rw [hq];exact he))]⟩,Nat.le_refl _⟩
theorem Rl.own (h:Rl L e st w F) (hn:st.nx < TMax) {k:SB} (hks:k.sib=[]) {c o z:Nat} (hno:∀ y k0 o1 z1,st.m.get y=some k0→e y≠some (c,o1,z1)) (hcF:¬ F c) (hs:w.heap.size≤w'.heap.size)
  (hk:∀ d,d < w.heap.size→d≠c→w'.heap[d]?=w.heap[d]?) (hb:BlkR (e.put st.nx (c,o,z)) w' c o z k):Rl L (e.put st.nx (c,o,z)) (st.add k) w' F:=by
 have hnone:=h.none
 have hl:=Env.le_put hnone (c,o,z)
 have get:∀ b q,(st.add k).m.get b=some q→(b=st.nx∧q=k)∨(b≠st.nx∧st.m.get b=some q):=fun b q hb=>by
  by_cases hq:b=st.nx
  ·subst hq;rw [St.add,T.upd_same _ _ hn] at hb;cases hb;exact .inl ⟨rfl,rfl⟩
  ·rw [St.add,T.upd_ne _ _ hq] at hb;exact .inr ⟨hq,hb⟩
 refine ⟨fun b q c1 o1 z1 h1 h2=>?_,fun x y bx by_ c1 o1 z1 c2 o2 z2 h1 h2 h3 h4 h5 h6=>?_,fun b q h1=>?_,fun b x hb=>?_,fun x bx h1 h2 y hy=>?_,?_⟩
 ·rcases get b q h1 with ⟨rfl,rfl⟩ | ⟨g1,g2⟩
  ·rw [Env.put_same] at h2;cases h2;exact ⟨hcF,hb⟩
  ·rw [Env.put_ne _ _ g1] at h2
   obtain ⟨a1,a2⟩:=h.blk b q c1 o1 z1 g2 h2
   exact ⟨a1,a2.keep hl (hk c1 a2.lt fun hq=>hno b q o1 z1 g2 (by rw [← hq];exact h2))⟩
 ·rcases get x bx h1 with ⟨rfl,rfl⟩ | ⟨g1,g2⟩
  ·rw [Env.put_same] at h5;cases h5
   rcases get y by_ h2 with ⟨rfl,rfl⟩ | ⟨g3,g4⟩
   ·exact absurd rfl h3
   ·rw [Env.put_ne _ _ g3] at h6
    exact .inl fun hq=>hno y by_ o2 z2 g4 (by rw [hq];exact h6)
  ·rw [Env.put_ne _ _ g1] at h5
   rcases get y by_ h2 with ⟨rfl,rfl⟩ | ⟨g3,g4⟩
   ·rw [Env.put_same] at h6;cases h6
    exact .inl fun hq=>hno x bx o1 z1 g2 (by rw [← hq];exact h5)
   ·rw [Env.put_ne _ _ g3] at h6
    exact h.dis x y bx by_ c1 o1 z1 c2 o2 z2 g2 g4 h3 h4 h5 h6
 ·rcases get b q h1 with ⟨rfl,rfl⟩ | ⟨g1,g2⟩
  ·exact Nat.lt_succ_self _
  ·exact Nat.lt_succ_of_lt (h.old b q g2)
 ·by_cases hq:b=st.nx
  ·subst hq;exact Nat.lt_succ_self _
  ·rw [Env.put_ne _ _ hq] at hb;exact Nat.lt_succ_of_lt (h.dom b x hb)
 ·rcases get x bx h1 with ⟨rfl,rfl⟩ | ⟨g1,g2⟩
  ·rw [hks] at hy;cases hy
  ·rw [Env.put_ne _ _ g1] at h2
   have:=h.sib x bx g2 h2 y hy
   intro hnn
   cases hq:e y with
   | none=>exact this hq
   | some v=>rw [hl y v hq] at hnn;cases hnn
 ·exact L.mono _ _ _ _ _ (L.keep _ _ _ _ _ h.ext hs fun d hd=>hk d (L.lt _ _ _ _ h.ext d hd) fun hq=>hcF (by rw [← hq];exact hd)) hl
def sameTy (ty:Option Nat) (el off:Nat):Option Nat :=
 match ty with
 | some t=>bif Nat.beq t el && Nat.beq off 0 then some t else none
 | none=>none
theorem sameTy_ok {ty:Option Nat} {el off T:Nat} (h:sameTy ty el off=some T):T=el∧ty=some T∧off=0:=by
 unfold sameTy at h
 split at h
 ·rename_i t
  cases hb:Nat.beq t el && Nat.beq off 0 with
  | false=>rw [hb] at h;cases h
  | true =>
   rw [hb] at h;cases h
   simp only [Bool.and_eq_true] at hb
   exact ⟨Nat.eq_of_beq_eq_true hb.1,rfl,Nat.eq_of_beq_eq_true hb.2⟩
 ·cases h
def appV (P:Program) (st:St X) (t tx:TypeId) (s x:SV):Option (SV × St X) :=
 match P.underlying t with
 | some (.slice el)=>match P.info? el with
  | some i=>match zeroS P el with
   | some zs=>bif Nat.beq zs.length i.size && Nat.blt st.nx TMax then match srcS P st.m tx i.size x with
    | some (n,news)=>match n with
     | 0=>match s with
      | .nils=>some (.nils,st)
      | .emp k esz=>some (.emp k esz,st)
      | .sl b off len esz ck=>some (.sl b off len esz ck,st)
      | _=>none
     | n + 1=>match s with
      | .nils=>bif Nat.ble ((n + 1) * i.bytes) 140737488355328 && Nat.ble (n + 1) 1000000000 then
        some (.sl st.nx 0 (n + 1) i.size none,st.add (.cells news false [] (some el)))
       else none
      | .emp k esz=>bif Nat.beq esz i.size && Nat.ble ((n + 1) * i.bytes) 140737488355328 && Nat.ble (n + 1) 1000000000 && Nat.blt k TMax then
        match st.m.get k with
        | some .emp=>some (.sl st.nx 0 (n + 1) i.size none,(st.less k).add (.cells news false [] none))
        | _=>none
       else none
      | .sl b off len esz ck=>bif Nat.beq esz i.size && Nat.ble ((len + (n + 1)) * i.bytes) 140737488355328 && Nat.ble (len + (n + 1)) 1000000000 then
       match st.m.get b with
       | some (.cells cs ro sib ty)=>bif Nat.ble (off + len * esz) cs.length then
        match ck with
        | some cap=>bif Nat.ble (len + (n + 1)) cap then
          match ro with
          | false=>bif ltM b sib then some (.sl b off (len + (n + 1)) esz (some cap),st.turn b sib (.cells (setRange cs (off + len * esz) news) false [] ty)) else none
          | true=>none
         else some (.sl st.nx 0 (len + (n + 1)) esz none,st.add (.cells ((cs.drop off).take (len * esz)++news) false [] (some el)))
        | none=>match ro with
         | false=>bif Nat.beq (off + len * esz) cs.length && Nat.blt b TMax then some (.sl st.nx 0 (len + (n + 1)) esz none,st.app b cs sib ty ((cs.drop off).take (len * esz)++news) (sameTy ty el off)) else none
         | true=>none
        else none
       | _=>none
       else none
      | _=>none
    | none=>none
    else none
   | none=>none
  | none=>none
 | _=>none
theorem app_grows {t tx ty el:TypeId} {i:TypeInfo} {zs:List SV} (ht:P.underlying t=some (.slice el)) (hi:P.info? el=some i) (hz:zeroS P el=some zs) (hzl:zs.length=i.size)
  (base:Option Addr) (len cap n:Nat) {olds:List Value} {os news:List SV} {x:Value} {us:List Value} (hold:(Builtin.firstCells i.size len (.slice base len cap)).run P w.drew=.ok olds.toArray w.drew) (ho:VRs e os olds) (hol:os.length=len * i.size)
  (hs:Src P i.size tx x n us w) (hn:VRs e news us) (h1:(os++news).all SV.one=true) (hg:cap < len + n) (hb:(len + n) * i.bytes≤140737488355328) (hm:len + n≤1000000000) :
  ∃ arr nc,(Builtin.append_ #[t,tx] ty #[.slice base len cap,x]).run P w=.ok (.slice (some ⟨w.heap.size,0,none⟩) (len + n) nc) (w.drew.alloc (.cells arr el))∧len + n≤nc∧nc≤maxLen∧nc * i.size=arr.size ∧
   ∀ e',e.le e'→BlkR e' (w.drew.alloc (.cells arr el)) w.heap.size 0 arr.size (.cells (os++news) false [] (some el)):=by
 obtain ⟨i',z,hi',hzz,hzs⟩:=zeroS_ok hz
 rw [hi] at hi';cases hi'
 obtain ⟨k1,k2⟩:=svs_ok e hzs
 have hzsz:z.cells.size=i.size:=by have:=k1.length;simp at this;omega
 have hrun:=run_append_grow_src (P:=P) w t tx ty el i z ht hi hzz base len cap olds hold x n us hs hg (by omega) (growslice_fits hg hb)
 have hge:=grownCap_ge w (len + n) cap el
 have hcm:=grownCap_le_maxLen w (len + n) cap el (by simp only [maxLen];omega)
 have ho2:=ho.length
 have hn2:=hs.newsLen
 have hsz:((olds++us).toArray++Builtin.zeroCells z.cells (grownCap w (len + n) cap el - (len + n))).size=grownCap w (len + n) cap el * i.size:=by
  simp only [Array.size_append,List.size_toArray,size_zeroCells,hzsz,List.length_append,hn2,← ho2,hol,← Nat.add_mul]
  congr 1
  omega
 refine ⟨_,grownCap w (len + n) cap el,hrun,hge,hcm,hsz.symm,fun e' hl=>?_⟩
 have hv:=ho.append hn
 refine newBlk2 (w:=w.drew) hv (fun j u hj=>?_) hl h1 ?_
 ·have hlt:=(List.getElem?_eq_some_iff.1 hj).1
  rw [Array.getElem?_append_left (by simpa using hlt)]
  simpa using hj
 ·rw [hv.length];simp
theorem all_part {c o z:Nat} {cs:List SV} {ro:Bool} {sib:List Nat} {ty:Option Nat} (h:BlkR e w c o z (.cells cs ro sib ty)) (off n:Nat):((cs.drop off).take n).all SV.one=true:=by
 refine List.all_eq_true.2 fun v hv=>?_
 obtain ⟨j,hj⟩:=List.mem_iff_getElem?.1 hv
 obtain ⟨arr,t,fr,g1,g2,g3,g4,g5⟩:=h
 rw [List.getElem?_take] at hj
 split at hj
 ·rw [List.getElem?_drop] at hj;exact (g5 _ v hj).1
 ·cases hj
theorem appV_ok {t tx:TypeId} {s x v:SV} {st':St X} (h:appV P st t tx s x=some (v,st')) (hR:Rl L e st w F) {us ux:Value} (hs:VR e s us) (hx:VR e x ux) (ty:TypeId) :
  ∃ u w' e',(Builtin.append_ #[t,tx] ty #[us,ux]).run P w=.ok u w'∧VR e' v u∧Rl L e' st' w' F∧Nxt st.nx e st w F e' st' w' F:=by
 unfold appV at h
 split at h
 ·rename_i el ht
  split at h
  ·rename_i i hi
   split at h
   ·rename_i zs hz
    cases hc:Nat.beq zs.length i.size && Nat.blt st.nx TMax with
    | false=>rw [hc] at h;cases h
    | true =>
     rw [hc] at h
     simp only [Bool.and_eq_true] at hc
     have hzl:=Nat.eq_of_beq_eq_true hc.1
     have hnx:st.nx < TMax:=by simpa [Nat.blt_eq] using hc.2
     simp only [cond_true] at h
     split at h
     ·rename_i n news hsrc
      obtain ⟨nv,S1,S2,S3,-⟩:=srcS_ok hsrc hR hx
      split at h
      ·-- nothing is appended
       have hnil:nv=[]:=List.eq_nil_of_length_eq_zero (by have:=S1.newsLen;simpa using this)
       subst hnil
       have hrun:∀ (base:Option Addr) (sLen sCap:Nat),sLen≤sCap→(Builtin.append_ #[t,tx] ty #[.slice base sLen sCap,ux]).run P w=.ok (.slice base sLen sCap) w:=fun base sLen sCap hle=>by
        rcases S1.kind with ⟨e',hk⟩ | hk<;>cases base<;>simp [Builtin.append_,run_underlying ht,run_underlying hk,sizeOf,typeInfo,hi,S1.len,hle,S1.cells,storeCells]
       split at h
       ·cases h;cases hs
        exact ⟨_,w,e,hrun none 0 0 (Nat.le_refl _),.nils,hR,.refl ..⟩
       ·cases h
        cases hs with
        | empn k z=>exact ⟨_,w,e,hrun none 0 0 (Nat.le_refl _),.empn _ _,hR,.refl ..⟩
        | emps hb hz2 hm=>exact ⟨_,w,e,hrun _ _ _ (Nat.zero_le _),.emps hb hz2 hm,hR,.refl ..⟩
       ·cases h
        cases hs with
        | sl hb hl hz2 hm hck=>exact ⟨_,w,e,hrun _ _ _ hl,.sl hb hl hz2 hm hck,hR,.refl ..⟩
        | sle off esz ad hb=>exact ⟨_,w,e,hrun _ _ _ (Nat.le_refl _),.sle _ _ _ hb,hR,.refl ..⟩
       ·cases h
      ·rename_i n
       split at h
       ·-- onto nothing
        cases hc2:Nat.ble ((n + 1) * i.bytes) 140737488355328 && Nat.ble (n + 1) 1000000000 with
        | false=>rw [hc2] at h;cases h
        | true =>
         rw [hc2] at h;cases h
         simp only [Bool.and_eq_true] at hc2
         have b1:=zB hc2.1
         have b2:=zB hc2.2
         cases hs
         obtain ⟨arr,nc,g1,g2,g3,g4,g5⟩:=app_grows (ty:=ty) (e:=e) ht hi hz hzl none 0 0 (n + 1) (olds:=[]) (os:=[]) (by simp [Builtin.firstCells]) .nil (by simp) S1 S2 (by simpa using S3) (by omega) (by simpa using b1) (by omega)
         obtain ⟨R1,N1⟩:=(hR.same (w':=w.drew) rfl).fresh hnx (k:=.cells news false [] (some el)) rfl (obj:=.cells arr el) (z:=arr.size) (g5 _ (Env.le_put hR.none _))
         refine ⟨_,_,_,g1,?_,R1,Nxt.trans (Nxt.same (w:=w) (w':=w.drew) st.nx rfl rfl rfl rfl) N1⟩
         have:=VR.sl (e:=e.put st.nx (w.heap.size,0,arr.size)) (b:=st.nx) (off:=0) (len:=n + 1) (esz:=i.size) (cap:=nc) (ck:=none) (Env.put_same _ _ _) (by omega) (by omega) g3 (.inl rfl)
         simpa using this
       ·-- onto what is empty
        rename_i k esz
        cases hc2:Nat.beq esz i.size && Nat.ble ((n + 1) * i.bytes) 140737488355328 && Nat.ble (n + 1) 1000000000 && Nat.blt k TMax with
        | false=>rw [hc2] at h;cases h
        | true =>
         rw [hc2,cond_true] at h
         simp only [Bool.and_eq_true,Nat.blt_eq] at hc2
         obtain ⟨⟨⟨b0,b1⟩,b2⟩,hkm⟩:=hc2
         have b0:=Nat.eq_of_beq_eq_true b0
         have b1:=zB b1
         have b2:=zB b2
         subst b0
         split at h
         ·rename_i hm
          cases h
          have hR1:=hR.less hkm fun _ _ _ _=>trivial
          have hN1:=Nxt.letgo (e:=e) (w:=w) (F:=F) st.nx hkm hm
          have hnl:nv.length=(n + 1) * i.size:=S1.newsLen
          have grow:∀ (base:Option Addr) (cap:Nat),us=.slice base 0 cap→(Builtin.firstCells i.size 0 (.slice base 0 cap)).run P w.drew=.ok ([]:List Value).toArray w.drew→cap < n + 1 →
            ∃ u w' e',(Builtin.append_ #[t,tx] ty #[us,ux]).run P w=.ok u w'∧VR e' (.sl st.nx 0 (n + 1) i.size none) u∧Rl L e' ((st.less k).add (.cells news false [] none)) w' F∧Nxt st.nx e st w F e' ((st.less k).add (.cells news false [] none)) w' F:=fun base cap hus hfc hcap=>by
           subst hus
           obtain ⟨arr,nc,g1,g2,g3,g4,g5⟩:=app_grows (ty:=ty) (e:=e) ht hi hz hzl base 0 cap (n + 1) (olds:=[]) (os:=[]) hfc .nil (by simp) S1 S2 (by simpa using S3) (by omega) (by simpa using b1) (by omega)
           obtain ⟨R1,N1⟩:=(hR1.same (w':=w.drew) rfl).fresh hnx (k:=.cells news false [] none) rfl (obj:=.cells arr el) (z:=arr.size) (g5 _ (Env.le_put hR.none _)).untype
           refine ⟨_,_,_,g1,?_,R1,hN1.trans (Nxt.trans (Nxt.same (w:=w) (w':=w.drew) st.nx rfl rfl rfl rfl) N1)⟩
           have:=VR.sl (e:=e.put st.nx (w.heap.size,0,arr.size)) (b:=st.nx) (off:=0) (len:=n + 1) (esz:=i.size) (cap:=nc) (ck:=none) (Env.put_same _ _ _) (by omega) (by omega) g3 (.inl rfl)
           simpa [St.less] using this
          cases hs with
          | empn k z=>exact grow none 0 rfl (by simp [Builtin.firstCells]) (by omega)
          | emps hb hz2 hmx =>
           rename_i c o z cap
           obtain ⟨hcF,arr0,t0,k1,k2⟩:=hR.blk k _ c o z hm hb
           by_cases hcap:n + 1≤cap
           ·have hfit:o + nv.length≤arr0.size:=by
             have:(n + 1) * i.size≤cap * i.size:=Nat.mul_le_mul_right _ hcap
             omega
            have hW:∀ j,j < nv.length→(w.cell? ⟨c,o + 0 * i.size + j,none⟩).isSome=true∧w.frozen? ⟨c,o + 0 * i.size + j,none⟩=false:=fun j hj=>by
             refine ⟨?_,by simp [World.frozen?,k1]⟩
             rw [cell_of k1,Array.getElem?_eq_getElem (by omega)];rfl
            have hrun:=run_append_room_src (P:=P) w t tx ty el i ht hi c o 0 cap ux (n + 1) nv S1 (by omega) (fun j hj=>(hW j hj).1) (fun j hj=>(hW j hj).2)
            rw [Nat.zero_mul,Nat.add_zero,Nat.zero_add] at hrun
            obtain ⟨o1,o2,o3,o4,o5⟩:=setCells_outer c nv o w
            obtain ⟨arr',q1,q2,q3,q4⟩:=setCells_in c nv o w arr0 t0 (0,0) k1 (by omega)
            have hno:∀ y k0 o1 z1,(st.less k).m.get y=some k0→e y≠some (c,o1,z1):=fun y k0 o1 z1 h1 h2=>by
             rw [St.less,T.get_upd _ _ hkm] at h1
             by_cases hy:y=k
             ·rw [if_pos hy] at h1;cases h1
             ·rw [if_neg hy] at h1
              rcases hR.dis k y _ k0 c o z c o1 z1 hm h1 (Ne.symm hy) rfl hb h2 with h3 | h3
              ·exact h3 rfl
              ·cases h3.1
            have hR2:=hR1.own (k:=.cells news false [] none) (o:=o) (z:=z) (w':=w.setCells c o nv) hnx rfl hno hcF (Nat.le_of_eq o4.symm) (fun d _ hd=>o5 d hd)
             ⟨arr',t0,(0,0),q1,by omega,⟨fun _=>rfl,nofun⟩,by rw [S2.length];have:(n + 1) * i.size≤cap * i.size:=Nat.mul_le_mul_right _ hcap;omega,fun j v hj=>⟨(List.all_eq_true.1 S3) v (List.mem_of_getElem? hj),by
              obtain ⟨u,a1,a2⟩:=S2.at _ hj
              have hlt:=(List.getElem?_eq_some_iff.1 a1).1
              exact ⟨u,by rw [q4 _ hlt,a1],a2.mono (Env.le_put hR.none _)⟩⟩⟩
            have hnn:=hR.none
            suffices N2:Nxt st.nx e st w F (e.put st.nx (c,o,z)) ((st.less k).add (.cells news false [] none)) (w.setCells c o nv) F by
             refine ⟨_,_,_,hrun,?_,hR2,N2⟩
             have:=VR.sl (e:=e.put st.nx (c,o,z)) (b:=st.nx) (off:=0) (len:=n + 1) (esz:=i.size) (cap:=cap) (ck:=none) (Env.put_same _ _ _) hcap (by omega) hmx (.inl rfl)
             simpa [St.less] using this
            refine ⟨Env.le_put hnn _,o1,o2,o3,Nat.le_of_eq o4.symm,fun d hd hni=>o5 d fun hq=>hni (.inr ⟨k,_,o,z,hm,by rw [hq];exact hb⟩),fun d hd hi=>?_,fun b hb1 he1=>⟨by rw [Env.put_ne _ _ (by omega)];exact he1,fun hne=>?_⟩,Nat.le_succ _⟩
            ·rcases hi with hi | ⟨b,q,o1,z1,h1,h2⟩
             ·exact .inl hi
             ·by_cases hbn:b=st.nx
              ·subst hbn;rw [Env.put_same] at h2;cases h2;exact .inr ⟨k,_,o,z,hm,hb⟩
              ·rw [Env.put_ne _ _ hbn] at h2
               have:(st.less k).m.get b=some q:=by rw [← h1];exact (T.upd_ne _ _ hbn).symm
               rw [St.less,T.get_upd _ _ hkm] at this
               by_cases hbk:b=k
               ·rw [if_pos hbk] at this;cases this
               ·rw [if_neg hbk] at this;exact .inr ⟨b,q,o1,z1,this,h2⟩
            ·show ((st.m.upd k none).upd st.nx _).get b=_
             rw [T.upd_ne _ _ (by omega),T.upd_ne _ _ (fun hq=>hne (by rw [hq];exact hm))]
           ·exact grow _ _ rfl (by simp [Builtin.firstCells,loadCells,loadCellsFrom]) (by omega)
         ·cases h
       ·-- onto a row
        rename_i b off len esz ck
        cases hc2:Nat.beq esz i.size && Nat.ble ((len + (n + 1)) * i.bytes) 140737488355328 && Nat.ble (len + (n + 1)) 1000000000 with
        | false=>rw [hc2] at h;cases h
        | true =>
         rw [hc2] at h
         simp only [Bool.and_eq_true] at hc2
         obtain ⟨⟨b0,b1⟩,b2⟩:=hc2
         have b0:=Nat.eq_of_beq_eq_true b0
         have b1:=zB b1
         have b2:=zB b2
         subst b0
         simp only [cond_true] at h
         split at h
         ·rename_i cs ro sib tyb hm
          cases hc3:Nat.ble (off + len * i.size) cs.length with
          | false=>rw [hc3] at h;cases h
          | true =>
           rw [hc3] at h
           have b3:=zB hc3
           simp only [cond_true] at h
           have hnl:nv.length=(n + 1) * i.size:=S1.newsLen
           -- the old cells,from a place in the world
           have grow:∀ (st2:St X),(∀ (arr:Array Value) (base:Option Addr) (cap:Nat),True)→∀ (base:Option Addr) (cap:Nat),us=.slice base len cap→(∀ hcap:cap < len + (n + 1),∃ arr nc,
             (Builtin.append_ #[t,tx] ty #[us,ux]).run P w=.ok (.slice (some ⟨w.heap.size,0,none⟩) (len + (n + 1)) nc) (w.drew.alloc (.cells arr el))∧len + (n + 1)≤nc∧nc≤maxLen∧nc * i.size=arr.size ∧
             ∀ e',e.le e'→BlkR e' (w.drew.alloc (.cells arr el)) w.heap.size 0 arr.size (.cells ((cs.drop off).take (len * i.size)++news) false [] (some el))):=fun _ _ base cap hus hcap=>by
            subst hus
            cases hs with
            | sl hb hl hz2 hmx hck =>
             rename_i c o z
             have hB:=(hR.blk b _ c o z hm hb).2
             obtain ⟨olds,k1,k2,k3⟩:=part_row hB off (len * i.size)
             have hol:((cs.drop off).take (len * i.size)).length=len * i.size:=by simp;omega
             refine app_grows (ty:=ty) ht hi hz hzl _ len cap (n + 1) (row_load (P:=P) (w:=w.drew) (us:=olds) (by rw [← k1.length,hol]) fun j u hj=>by rw [Nat.add_assoc];exact k2 j u hj) k1 hol S1 S2 (by rw [List.all_append,all_part hB,S3];rfl) hcap b1 b2
            | sle off es ad hb =>
             refine app_grows (ty:=ty) ht hi hz hzl _ 0 0 (n + 1) (olds:=[]) (by simp [Builtin.firstCells,loadCells,loadCellsFrom]) (by simp;exact .nil) (by simp) S1 S2 (by simpa using S3) hcap b1 b2
           split at h
           ·rename_i cap
            cases hc4:Nat.ble (len + (n + 1)) cap with
            | true =>
             rw [hc4] at h
             have b4:=zB hc4
             simp only [cond_true] at h
             split at h
             ·cases hc5:ltM b sib with
              | false=>rw [hc5] at h;cases h
              | true =>
               rw [hc5] at h;cases h
               obtain ⟨q5,q6⟩:=ltM_ok hc5
               cases hs with
               | sl hb hl hz2 hmx hck =>
                rename_i c o z cap'
                have:cap'=cap:=by rcases hck with h | h<;>cases h;rfl
                subst this
                have hB:=(hR.blk b _ c o z hm hb).2
                have hfit:off + len * i.size + nv.length≤z:=by
                 have h5:(len + (n + 1)) * i.size≤cap' * i.size:=Nat.mul_le_mul_right _ b4
                 rw [Nat.add_mul] at h5
                 omega
                have hW:=writable (off:=off + len * i.size) (n:=nv.length) hB hfit
                have hrun:=run_append_room_src (P:=P) w t tx ty el i ht hi c (o + off) len cap' ux (n + 1) nv S1 b4 (fun j hj=>by have:=(hW j hj).1;rwa [← Nat.add_assoc o] at this) (fun j hj=>by have:=(hW j hj).2;rwa [← Nat.add_assoc o] at this)
                obtain ⟨o1,o2,o3,o4,o5⟩:=setCells_outer c nv (o + off + len * i.size) w
                have hwr:=hB.write S2 S3 b3 (by rw [S2.length];exact hfit)
                rw [← Nat.add_assoc o] at hwr
                exact ⟨_,_,e,hrun,.sl hb b4 hz2 hmx (.inr rfl),hR.turn hm rfl hb q5 q6 rfl (Nat.le_of_eq o4.symm) (fun d _ hd=>o5 d hd) hwr,Nxt.turn hR hm hb q5 q6 (Nat.le_of_eq o4.symm) (fun d _ hd=>o5 d hd) ⟨o1,o2,o3⟩⟩
             ·cases h
            | false =>
             rw [hc4] at h;cases h
             have b4:cap < len + (n + 1):=by
              rcases Nat.lt_or_ge cap (len + (n + 1)) with h | h
              ·exact h
              ·rw [Nat.ble_eq_true_of_le h] at hc4;cases hc4
             have hsl:∃ base,us=.slice base len cap:=by
              cases hs with
              | sl hb hl hz2 hmx hck=>rcases hck with h | h<;>cases h;exact ⟨_,rfl⟩
             obtain ⟨base,hus⟩:=hsl
             obtain ⟨arr,nc,g1,g2,g3,g4,g5⟩:=grow st (fun _ _ _=>trivial) base cap hus b4
             obtain ⟨R1,N1⟩:=(hR.same (w':=w.drew) rfl).fresh hnx (k:=.cells ((cs.drop off).take (len * i.size)++news) false [] (some el)) rfl (obj:=.cells arr el) (z:=arr.size) (g5 _ (Env.le_put hR.none _))
             refine ⟨_,_,_,g1,?_,R1,Nxt.trans (Nxt.same (w:=w) (w':=w.drew) st.nx rfl rfl rfl rfl) N1⟩
             have:=VR.sl (e:=e.put st.nx (w.heap.size,0,arr.size)) (b:=st.nx) (off:=0) (len:=len + (n + 1)) (esz:=i.size) (cap:=nc) (ck:=none) (Env.put_same _ _ _) (by omega) (by omega) g3 (.inl rfl)
             simpa using this
           ·split at h
            ·cases hc4:Nat.beq (off + len * i.size) cs.length && Nat.blt b TMax with
             | false=>rw [hc4] at h;cases h
             | true =>
              rw [hc4] at h;cases h
              simp only [Bool.and_eq_true] at hc4
              have b4:=Nat.eq_of_beq_eq_true hc4.1
              have b5:b < TMax:=by simpa [Nat.blt_eq] using hc4.2
              have hol:((cs.drop off).take (len * i.size)).length=len * i.size:=by simp;omega
              have hnl2:news.length=nv.length:=S2.length
              -- where the row lies,or has lain
              have hbx:∃ c o z base cap,e b=some (c,o,z)∧us=.slice base len cap∧(len + (n + 1)≤cap→base=some ⟨c,o + off,none⟩∧off + cap * i.size≤z∧cap≤maxLen):=by
               cases hs with
               | sl hb hl hz2 hmx hck=>exact ⟨_,_,_,_,_,hb,rfl,fun _=>⟨rfl,hz2,hmx⟩⟩
               | sle off es ad hb =>
                exact ⟨_,_,_,_,_,hb,rfl,fun hh=>by omega⟩
              obtain ⟨c,o,z,base,cap,hb,hus,hroom⟩:=hbx
              have hBb:=hR.blk b _ c o z hm hb
              have hB:=hBb.2
              -- siblings lie ahead of what is written
              have sibs:∀ y by_ oy zy,st.m.get y=some by_→y∈sib→y≠b→e y=some (c,oy,zy)→by_.wr=false∧oy + by_.len≤o + cs.length:=fun y by_ oy zy h1 h2 h3 h4=>by
               rcases hR.dis b y _ by_ c o z c oy zy hm h1 (Ne.symm h3) rfl hb h4 with h5 | h5
               ·exact absurd rfl h5
               ·exact ⟨h5.2.1,h5.2.2⟩
              by_cases hcap:len + (n + 1)≤cap
              ·-- in place
               obtain ⟨rfl,hz2,hmx⟩:=hroom hcap
               subst hus
               have hfit:off + len * i.size + nv.length≤z:=by
                have h5:(len + (n + 1)) * i.size≤cap * i.size:=Nat.mul_le_mul_right _ hcap
                rw [Nat.add_mul] at h5
                omega
               have hW:=writable (off:=off + len * i.size) (n:=nv.length) hB hfit
               have hrun:=run_append_room_src (P:=P) w t tx ty el i ht hi c (o + off) len cap ux (n + 1) nv S1 hcap (fun j hj=>by have:=(hW j hj).1;rwa [← Nat.add_assoc o] at this) (fun j hj=>by have:=(hW j hj).2;rwa [← Nat.add_assoc o] at this)
               obtain ⟨o1,o2,o3,o4,o5⟩:=setCells_outer c nv (o + off + len * i.size) w
               have hwr:=hB.write S2 S3 b3 (by rw [S2.length];exact hfit)
               rw [← Nat.add_assoc o] at hwr
               obtain ⟨arr,ty',fr,k1,k2,k3,k4,k5⟩:=hB
               obtain ⟨arr',q1,q2,q3,q4⟩:=setCells_in c nv (o + off + len * i.size) w arr ty' fr k1 (by omega)
               have hA:=hR.app (w':=w.setCells c (o + off + len * i.size) nv) hnx (new:=(cs.drop off).take (len * i.size)++news) (ty':=sameTy tyb el off) hm hb b5 (x:=(c,o + off,z - off)) (Nat.le_of_eq o4.symm) ⟨o1,o2,o3⟩ (fun d _ hd=>o5 d hd) ?_ ?_ (.inr ⟨rfl,?_⟩) hBb.1
               ·refine ⟨_,_,_,hrun,?_,hA.1,hA.2⟩
                have:=VR.sl (e:=e.put st.nx (c,o + off,z - off)) (b:=st.nx) (off:=0) (len:=len + (n + 1)) (esz:=i.size) (cap:=cap) (ck:=none) (Env.put_same _ _ _) hcap (by omega) hmx (.inl rfl)
                simpa using this
               ·intro y by_ oy zy h1 h2 h4
                by_cases hyb:y=b
                ·subst hyb
                 rw [if_pos rfl]
                 rw [hb] at h4;cases h4
                 refine ⟨arr',ty',fr,q1,by omega,⟨nofun,k3.2⟩,k4,fun j v hj=>?_⟩
                 have hj2:=(List.getElem?_eq_some_iff.1 hj).1
                 obtain ⟨a1,u,a2,a3⟩:=k5 j v hj
                 exact ⟨a1,u,by rw [q3 (o + j) (.inl (by omega))];exact a2,a3⟩
                ·rw [if_neg hyb]
                 obtain ⟨s1,s2⟩:=sibs y by_ oy zy h1 (h2.resolve_left hyb) hyb h4
                 have hBy:=(hR.blk y by_ c oy zy h1 h4).2
                 cases by_ with
                 | cells cy roy sy =>
                  obtain ⟨ar2,t2,fr2,m1,m2,m3,m4,m5⟩:=hBy
                  rw [k1] at m1;cases m1
                  refine ⟨arr',_,_,q1,by omega,m3,m4,fun j v hj=>?_⟩
                  have hj2:=(List.getElem?_eq_some_iff.1 hj).1
                  obtain ⟨a1,u,a2,a3⟩:=m5 j v hj
                  have:oy + cy.length≤o + cs.length:=s2
                  exact ⟨a1,u,by rw [q3 (oy + j) (.inl (by omega))];exact a2,a3⟩
                 | map es=>cases s1
                 | siter s p=>cases s1
                 | emp=>cases s1
                 | loop a b c d e f g=>cases s1
               ·refine ⟨arr',ty',fr,q1,by show o + off + (z - off)≤arr'.size;omega,⟨fun _=>k3.1 rfl,fun T hT=>by
                 obtain ⟨-,w2,w3⟩:=sameTy_ok hT
                 obtain ⟨w4,w5⟩:=k3.2 T w2
                 exact ⟨w4,by show o + off=0;omega⟩⟩,?_,fun j v hj=>?_⟩
                ·show _≤z - off
                 rw [List.length_append,hol,hnl2];omega
                ·by_cases hj1:j < len * i.size
                 ·rw [List.getElem?_append_left (by omega),List.getElem?_take,if_pos hj1,List.getElem?_drop] at hj
                  obtain ⟨a1,u,a2,a3⟩:=k5 _ v hj
                  exact ⟨a1,u,by show arr'[o + off + j]?=_;rw [q3 (o + off + j) (.inl (by omega)),Nat.add_assoc];exact a2,a3.mono (Env.le_put hR.none _)⟩
                 ·rw [List.getElem?_append_right (by omega),hol] at hj
                  obtain ⟨u,a1,a2⟩:=S2.at _ hj
                  refine ⟨(List.all_eq_true.1 S3) v (List.mem_of_getElem? hj),u,?_,a2.mono (Env.le_put hR.none _)⟩
                  show arr'[o + off + j]?=_
                  have hlt:=(List.getElem?_eq_some_iff.1 a1).1
                  have:=q4 _ hlt
                  rw [show o + off + len * i.size + (j - len * i.size)=o + off + j by omega] at this
                  rw [this,a1]
               ·show o + cs.length≤o + off + _
                rw [List.length_append,hol];omega
              ·-- a new row
               obtain ⟨arr,nc,g1,g2,g3,g4,g5⟩:=grow st (fun _ _ _=>trivial) base cap hus (by omega)
               have hkeep:∀ d,d < w.heap.size→(w.drew.alloc (.cells arr el)).heap[d]?=w.heap[d]?:=fun d hd=>Below.heap_alloc w.drew _ d hd
               have hA:=hR.app (w':=w.drew.alloc (.cells arr el)) hnx (new:=(cs.drop off).take (len * i.size)++news) (ty':=sameTy tyb el off) hm hb b5 (x:=(w.heap.size,0,arr.size)) (by rw [zL];exact Nat.le_succ _) ⟨rfl,rfl,rfl⟩ (fun d hd _=>hkeep d hd) ?_ ?_ (.inl ⟨Nat.le_refl _,hkeep c hB.lt⟩) (fun hf=>Nat.lt_irrefl _ (L.lt _ _ _ _ hR.ext _ hf))
               ·refine ⟨_,_,_,g1,?_,hA.1,hA.2⟩
                have:=VR.sl (e:=e.put st.nx (w.heap.size,0,arr.size)) (b:=st.nx) (off:=0) (len:=len + (n + 1)) (esz:=i.size) (cap:=nc) (ck:=none) (Env.put_same _ _ _) (by omega) (by omega) g3 (.inl rfl)
                simpa using this
               ·intro y by_ oy zy h1 h2 h4
                by_cases hyb:y=b
                ·subst hyb
                 rw [if_pos rfl]
                 rw [hb] at h4;cases h4
                 obtain ⟨arr2,ty',fr,k1,k2,k3,k4,k5⟩:=hB
                 exact ⟨arr2,ty',fr,(hkeep c (zN k1).1).trans k1,k2,⟨nofun,k3.2⟩,k4,k5⟩
                ·rw [if_neg hyb]
                 exact (hR.blk y by_ c oy zy h1 h4).2.keep (.refl e) (hkeep c hB.lt)
               ·have:=g5 _ (Env.le_put hR.none (w.heap.size,0,arr.size))
                obtain ⟨a1,a2,a3,a4,a5,a6,a7,a8⟩:=this
                exact ⟨a1,a2,a3,a4,a5,⟨fun _=>a6.1 rfl,fun T hT=>a6.2 T (by rw [(sameTy_ok hT).1])⟩,a7,a8⟩
            ·cases h
         ·cases h
       ·cases h
     ·cases h
   ·cases h
  ·cases h
 ·cases h
theorem run_appZ {P:Program} (w:World) (t u ty e:TypeId) (i:TypeInfo) (z:Value) (ht:P.underlying t=some (.slice e)) (hu:P.underlying u=some (.int .i64)) (hi:P.info? e=some i) (hz:i.zero=some z)
  (hzs:z.cells.size=i.size) (hs:i.size≠0) (n:Nat) (h0:0 < n) (hn:n≤1048576) (hb:i.bytes≤1000) :
  n≤grownCap w n 0 e∧grownCap w n 0 e≤maxLen∧(Builtin.append_ #[t,u] ty #[.slice none 0 0,.int .i64 n]).run P w =
   .ok (.slice (some ⟨w.heap.size,0,none⟩) n (grownCap w n 0 e)) (w.drew.alloc (.cells (Builtin.zeroCells z.cells n++Builtin.zeroCells z.cells (grownCap w n 0 e - n)) e)):=by
 have hmul:n * i.bytes≤1048576 * 1000:=Nat.mul_le_mul hn hb
 have h1:¬ ((n:Int) < 0):=by omega
 have hcast:((n:Int) * (i.bytes:Int))=((n * i.bytes:Nat):Int):=by rw [Int.natCast_mul]
 have h2:¬ (281474976710656 < (n:Int) * (i.bytes:Int)):=by rw [hcast];omega
 have h3:n≠0:=by omega
 have h4:¬ (9223372036854775807 < (n:Int)):=by omega
 have h5:¬ (281474976710656 < Builtin.nextslicecap n 0 * i.bytes):=by rw [nextslicecap_zero h0];omega
 have hw:IntKind.i64.wrap (n:Int)=n:=IntWalk.i64_in _ (by omega)
 have hge:=grownCap_ge w n 0 e
 refine ⟨hge,grownCap_le_maxLen w n 0 e (by unfold maxLen;omega),?_⟩
 have hms:¬ n * i.size=0:=by
  intro h;rcases Nat.mul_eq_zero.1 h with h | h
  ·omega
  ·exact hs h
 simp [Builtin.append_,run_underlying ht,run_underlying hu,sizeOf,typeInfo,zeroValue,hi,hz,Builtin.lenOf,h1,h2,h3,h4,h5,hw,hs,Question.forced,run_firstCells_none,newRow,grownCap,asInt,asIntOf]
 exact fun h=>absurd h hms
def appZ (P:Program) (st:St X) (t tx:TypeId) (s x:SV):Option (SV × St X) :=
 match P.underlying t with
 | some (.slice el)=>match P.underlying tx with
  | some (.int .i64)=>match P.info? el with
   | some i=>match zeroS P el with
    | some zs=>match s with
     | .nils=>match x with
      | .int .i64 (.ofNat n)=>bif Nat.beq zs.length i.size && Nat.blt 0 i.size && Nat.blt st.nx TMax && Nat.ble n 1048576 && Nat.blt 0 n && Nat.ble i.bytes 1000 then
        some (.sl st.nx 0 n i.size none,st.add (.cells (repS zs n) false [] (some el)))
       else none
      | _=>none
     | _=>none
    | none=>none
   | none=>none
  | _=>none
 | _=>none
theorem appZ_ok {t tx:TypeId} {s x v:SV} {st':St X} (h:appZ P st t tx s x=some (v,st')) (hR:Rl L e st w F) {us ux:Value} (hs:VR e s us) (hx:VR e x ux) (ty:TypeId) :
  True∧∃ u w' e',(Builtin.append_ #[t,tx] ty #[us,ux]).run P w=.ok u w'∧VR e' v u∧Rl L e' st' w' F∧Nxt st.nx e st w F e' st' w' F:=by
 unfold appZ at h
 split at h
 ·rename_i el ht
  split at h
  ·rename_i hu
   split at h
   ·rename_i i hi
    split at h
    ·rename_i zs hz
     split at h
     ·split at h
      ·rename_i n
       cases hc:Nat.beq zs.length i.size && Nat.blt 0 i.size && Nat.blt st.nx TMax && Nat.ble n 1048576 && Nat.blt 0 n && Nat.ble i.bytes 1000 with
       | false=>rw [hc] at h;cases h
       | true =>
        rw [hc] at h;cases h
        simp only [Bool.and_eq_true,Nat.blt_eq] at hc
        obtain ⟨⟨⟨⟨⟨c1,c2⟩,c3⟩,c4⟩,c5⟩,c6⟩:=hc
        have c1:=Nat.eq_of_beq_eq_true c1
        have c4:=zB c4
        have c6:=zB c6
        cases hs;cases hx
        obtain ⟨i',z,hi',hzz,hzs⟩:=zeroS_ok hz
        rw [hi] at hi';cases hi'
        obtain ⟨k1,k2⟩:=svs_ok e hzs
        have hzsz:z.cells.size=i.size:=by have:=k1.length;simp at this;omega
        obtain ⟨g1,g2,g3⟩:=run_appZ (P:=P) w t tx ty el i z ht hu hi hzz hzsz (by omega) n c5 c4 c6
        have hrep:VRs e (repS zs n) (Builtin.zeroCells z.cells n).toList:=repS_ok k1 n (n * z.cells.size) (by rw [hzsz,c1])
        have hlen:(repS zs n).length=n * i.size:=by rw [repS_len,c1]
        have hsz:(Builtin.zeroCells z.cells n++Builtin.zeroCells z.cells (grownCap w n 0 el - n)).size=grownCap w n 0 el * i.size:=by
         rw [Array.size_append,size_zeroCells,size_zeroCells,hzsz,← Nat.add_mul]
         congr 1;omega
        have hB:=newBlk2 (w:=w.drew) (arr:=Builtin.zeroCells z.cells n++Builtin.zeroCells z.cells (grownCap w n 0 el - n)) (t:=el) hrep (fun j u hj=>by
         have hlt:=(List.getElem?_eq_some_iff.1 hj).1
         rw [Array.getElem?_append_left (by simpa using hlt)]
         simpa using hj) (Env.le_put hR.none (w.heap.size,0,(Builtin.zeroCells z.cells n++Builtin.zeroCells z.cells (grownCap w n 0 el - n)).size)) (repS_one k2 n) (by rw [hlen,hsz];exact Nat.mul_le_mul_right _ g1)
        obtain ⟨R1,N1⟩:=(hR.same (w':=w.drew) rfl).fresh c3 (k:=.cells (repS zs n) false [] (some el)) rfl (obj:=.cells (Builtin.zeroCells z.cells n++Builtin.zeroCells z.cells (grownCap w n 0 el - n)) el) hB
        refine ⟨trivial,_,_,_,g3,?_,R1,Nxt.trans (Nxt.same (w:=w) (w':=w.drew) st.nx rfl rfl rfl rfl) N1⟩
        have:=VR.sl (e:=e.put st.nx (w.heap.size,0,(Builtin.zeroCells z.cells n++Builtin.zeroCells z.cells (grownCap w n 0 el - n)).size)) (b:=st.nx) (off:=0) (len:=n) (esz:=i.size) (cap:=grownCap w n 0 el) (ck:=none) (Env.put_same _ _ _) g1 (by rw [hsz];omega) g2 (.inl rfl)
        simpa using this
      ·cases h
     ·cases h
    ·cases h
   ·cases h
  ·cases h
 ·cases h
theorem appZ_ok' {t tx:TypeId} {s x v:SV} {st':St X} (h:appZ P st t tx s x=some (v,st')):st'.x=st.x:=by
 unfold appZ at h
 split at h
 ·split at h
  ·split at h
   ·rename_i i hi
    split at h
    ·rename_i zs hz
     split at h
     ·split at h
      ·rename_i n
       cases hc:Nat.beq zs.length i.size && Nat.blt 0 i.size && Nat.blt st.nx TMax && Nat.ble n 1048576 && Nat.blt 0 n && Nat.ble i.bytes 1000 with
       | false=>rw [hc] at h;cases h
       | true=>rw [hc] at h;cases h;rfl
      ·cases h
     ·cases h
    ·cases h
   ·cases h
  ·cases h
 ·cases h
end
end
end Go.Proofs.YtmelcflkbfhohaaGreatDoor.W.E
