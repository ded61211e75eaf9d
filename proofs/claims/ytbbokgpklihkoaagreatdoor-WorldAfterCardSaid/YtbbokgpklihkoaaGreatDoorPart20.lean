/- EvK Bld Bld2 EvW EvX EvY Sw6 Sw7 WldA -/
import Derived.Test.YtbbokgpklihkoaaGreatDoorPart16
import Derived.Test.YtbbokgpklihkoaaGreatDoorPart18
import Derived.Test.YtbbokgpklihkoaaGreatDoorPart19
import Derived.Test.YtbbokgpklihkoaaGreatDoorPart10
import Derived.Test.YtbbokgpklihkoaaGreatDoorPart14
import Derived.Shelf.RegionOpenPlain
import Derived.Lib.UnsafeStr
import Derived.Test.YtbbokgpklihkoaaGreatDoorPart13
import Derived.Test.YtbbokgpklihkoaaGreatDoorPart7
import Derived.Sort.LoopGhostIn
import Derived.Test.YtbbokgpklihkoaaGreatDoorPart12
import Derived.Test.YtbbokgpklihkoaaGreatDoorPart8
set_option linter.unusedVariables false
set_option linter.unusedSimpArgs false
namespace Go.Proofs.YtbbokgpklihkoaaGreatDoor.W.E
section
open Go.RowKit
def xKey:ExtF:=fun vs st=>match vs with
 | [a0]=>(match toV a0 with | some x0=>some (.bool (keyB x0),st) | none=>none)
 | _=>none
def xFind:ExtF:=fun vs st=>match vs with
 | [p,a0,a1]=>(match heapAt st.x p with | some h=>(match toV a0 with | some x0=>(match toS a1 with | some x1=>some (.tup [((h.findO x0 x1).1).sv,.bool ((h.findO x0 x1).2)],st) | none=>none) | none=>none) | none=>none)
 | _=>none
def xSub:ExtF:=fun vs st=>match vs with
 | [p,a0,a1]=>(match heapAt st.x p with | some h=>(match toV a0 with | some x0=>(match toV a1 with | some x1=>some (.bool (h.subO x0 x1),st) | none=>none) | none=>none) | none=>none)
 | _=>none
theorem xSub_ok:ExtOk 299 xSub:=fun w0 vs st v st' h=>by
 unfold xSub at h
 split at h
 ·rename_i p a0 a1
  split at h
  ·rename_i hh hq
   split at h
   ·rename_i y0 e0
    split at h
    ·rename_i y1 e1
     cases h
     refine ext_reader fun e w F us hR hvs=>?_
     obtain ⟨uq,us,rfl,q,hvs⟩:=vrs_cons hvs
     obtain ⟨uq0,us,rfl,q0,hvs⟩:=vrs_cons hvs
     obtain ⟨uq1,us,rfl,q1,hvs⟩:=vrs_cons hvs
     cases vrs_nil hvs
     obtain ⟨b,c,F0,g1,k,rfl⟩:=heapAt_ok hq hR q
     obtain rfl:=toV_ok e0 q0
     obtain rfl:=toV_ok e1 q1
     exact ⟨_,.bool _,subO_any w c hh F0 k.hr y0 y1⟩
    ·cases h
   ·cases h
  ·cases h
 ·cases h
def xOrderO:ExtF:=fun vs st=>match vs with
 | [p,a0]=>(match heapAt st.x p with | some h=>(match toV a0 with | some x0=>(bif Nat.blt st.nx TMax then some (st.row (h.orderO x0)) else none) | none=>none) | none=>none)
 | _=>none
abbrev hp0:Hp:=⟨[],fun _=>0,0⟩
def xNew:ExtF:=fun vs st=>match vs with
 | []=>match st.x.h with
  | none=>bif Nat.blt st.nx TMax then some (.ptr st.nx 0,⟨st.m,st.nx + 1,⟨some (st.nx,hp0),st.x.cnt,st.x.sc,st.x.pc,st.x.rc⟩⟩) else none
  | some _=>none
 | _=>none
theorem xNew_ok:ExtOk 16 xNew:=fun w0 vs st v st' h=>by
 unfold xNew at h
 split at h
 ·split at h
  ·rename_i hx
   cases hb:Nat.blt st.nx TMax with
   | false=>rw [hb] at h;cases h
   | true =>
    rw [hb,cond_true] at h;cases h
    refine fun hg=>⟨hg,fun e w F us hR hvs=>?_⟩
    cases vrs_nil hvs
    refine (heap_new w).mono fun en w' ⟨q1,F1,r,s⟩=>?_
    have hgl:=hR.gl
    have hsz:=hgl.2.2
    have hF:∀ b,F b↔Fix w0 b:=by have:=hR.ext;simp only [HL,HXR,hx] at this;exact this.2
    have hn:=hR.none
    have hl:=Env.le_put hn (w.heap.size + 2,0,1)
    have hF1:∀ d,F1 d→w.heap.size≤d:=fun d hd=>(s.foot d hd).elim False.elim id
    have hk:∀ d,d < w.heap.size→w'.heap[d]?=w.heap[d]?:=fun d hd=>s.block d hd (fun h=>h)
    have nm:∀ x k,st.m.get x=some k→x≠st.nx:=fun x k hx hq=>by have:=hR.old x k hx;omega
    refine ⟨_,e.put st.nx (w.heap.size + 2,0,1),fun d=>F1 d∨Fix w0 d,q1,?_,⟨fun x k c o z h1 h2=>?_,fun x y bx by_ c o z c' o' z' h1 h2 h3 h4 h5 h6=>?_,fun x k h1=>Nat.lt_succ_of_lt (hR.old x k h1),fun x y h1=>?_,fun x bx h1 h2 y hy=>?_,?_⟩,?_⟩
    ·have:=VR.ptr (e:=e.put st.nx (w.heap.size + 2,0,1)) (b:=st.nx) (off:=0) (Env.put_same _ _ _)
     simpa using this
    ·rw [Env.put_ne _ _ (nm x k h1)] at h2
     obtain ⟨a1,a2⟩:=hR.blk x k c o z h1 h2
     have hlt:=a2.lt
     exact ⟨fun hf=>hf.elim (fun hf=>by have:=hF1 c hf;omega) (fun hf=>a1 ((hF c).2 hf)),a2.keep hl (hk c hlt)⟩
    ·rw [Env.put_ne _ _ (nm x bx h1)] at h5
     rw [Env.put_ne _ _ (nm y by_ h2)] at h6
     exact hR.dis x y bx by_ c o z c' o' z' h1 h2 h3 h4 h5 h6
    ·by_cases hq:x=st.nx
     ·subst hq;exact Nat.lt_succ_self _
     ·rw [Env.put_ne _ _ hq] at h1;exact Nat.lt_succ_of_lt (hR.dom x y h1)
    ·rw [Env.put_ne _ _ (nm x bx h1)] at h2
     have:=hR.sib x bx h1 h2 y hy
     intro hnn
     cases hq:e y with
     | none=>exact this hq
     | some v=>rw [hl y v hq] at hnn;cases hnn
    ·have he:=hR.ext.1
     have hfs:∀ d,Fix w0 d→d < w.heap.size:=fun d hd=>Nat.lt_of_lt_of_le (hd.lt he.1) he.2.2.1
     refine ⟨⟨he.1,fun d hd=>(hk d (hfs d hd)).trans (he.2.1 d hd),Nat.le_trans he.2.2.1 s.size,he.2.2.2.mono hl⟩,?_⟩
     exact ⟨w.heap.size + 2,F1,⟨1,Env.put_same _ _ _⟩,r,fun n=>rfl,fun d=>Iff.rfl,fun d hd hf=>by have:=hF1 d hf;have:=hfs d hd;omega⟩
    ·refine ⟨hl,s.os,s.tape,s.output,s.size,fun d hd _=>hk d hd,fun d hd hi=>?_,fun b hb he=>⟨by rw [Env.put_ne _ _ (by omega)];exact he,fun _=>rfl⟩,Nat.le_succ _⟩
     rcases hi with hi | ⟨x,k,o,z,h1,h2⟩
     ·exact hi.elim (fun hf=>by have:=hF1 d hf;omega) (fun hf=>.inl ((hF d).2 hf))
     ·rw [Env.put_ne _ _ (nm x k h1)] at h2
      exact .inr ⟨x,k,o,z,h1,h2⟩
  ·cases h
 ·cases h
end
end Go.Proofs.YtbbokgpklihkoaaGreatDoor.W.E
namespace Go.Proofs.YtbbokgpklihkoaaGreatDoor.W
section
open Go Go.RowKit Go.Shelf
structure BForm where
 T:TypeId
 o:Nat
 n:Nat
 cs:Value→Value→Array Value
 at0:∀ p v,(cs p v)[o]?=some p
 at1:∀ p v,(cs p v)[o + 1]?=some v
 set0:∀ p v q,(cs p v).setIfInBounds o q=cs q v
 set1:∀ p v q,(cs p v).setIfInBounds (o + 1) q=cs p q
 size:∀ p v,(cs p v).size=n
 lt:o < n
 lies:liesAt Tryz.prog Tryz.prog.depth T (n / Tryz.prog.cellsOf T) o 205 1=true
 ne:T≠5
structure BAt (w:World) (f:BForm) (b:Nat) (l:List UInt8) (p v:Value) (F:Nat→Prop):Prop where
 blk:w.heap[b]?=some (.cells (f.cs p v) f.T (0,0))
 self:p=.pointer none∨p=.pointer (some ⟨b,f.o,none⟩)
 own:w.ownsRow 0 5 1 v l.length (Lib.strCells (bs l))
 foot:∀ c,F c↔c=b∨v.ownBlock=some c
section
variable {w w':World} {f:BForm} {b:Nat} {l:List UInt8} {p v:Value} {F:Nat→Prop}
theorem BAt.ne (h:BAt w f b l p v F):v.ownBlock≠some b:=Lib.ownBlock_ne h.own h.blk f.ne
theorem BAt.blt (h:BAt w f b l p v F):b < w.heap.size:=(zN h.blk).1
theorem BAt.lt (h:BAt w f b l p v F):∀ c,F c→c < w.heap.size:=fun c hc=>((h.foot c).1 hc).elim (fun e=>e ▸ h.blt) (fun e=>(h.own.lt c e).2)
theorem BAt.cells (h:BAt w f b l p v F):w.cell? ⟨b,f.o,none⟩=some p∧w.cell? ⟨b,f.o + 1,none⟩=some v∧(∀ o,w.frozen? ⟨b,o,none⟩=false)∧w.shape? b=some (f.T,f.n) :=
 ⟨by rw [cell_of h.blk];exact f.at0 p v,by rw [cell_of h.blk];exact f.at1 p v,fun o=>by simp [World.frozen?,h.blk],by simp [World.shape?,h.blk,f.size]⟩
theorem BAt.keep (h:BAt w f b l p v F) (hk:∀ c,F c→w'.heap[c]?=w.heap[c]?):BAt w' f b l p v F :=
 ⟨(hk b ((h.foot b).2 (.inl rfl))).trans h.blk,h.self,⟨h.own.1,h.own.2.elim .inl fun ⟨g,cap,cur,e,h0,hg,r⟩=>.inr ⟨g,cap,cur,e,h0,(hk g ((h.foot g).2 (.inr (by rw [e];rfl)))).trans hg,r⟩⟩,h.foot⟩
theorem BAt.put {w2:World} {l':List UInt8} {v':Value} (h:BAt w f b l p v F) (hown:w2.ownsRow 0 5 1 v' l'.length (Lib.strCells (bs l'))) (hg:w.grownBy w2 v.ownBlock) (hv:v'.ownBlock=none∨v'.ownBlock=v.ownBlock∨∃ g,v'.ownBlock=some g∧w.heap.size≤g) :
  ∃ F',BAt (w2.setCell ⟨b,f.o + 1,none⟩ v') f b l' p v' F'∧Step w.heap.size F w (w2.setCell ⟨b,f.o + 1,none⟩ v') F':=by
 have hb2:w2.heap[b]?=some (.cells (f.cs p v) f.T (0,0)):=(hg.block b h.blt (fun e=>h.ne e.symm)).trans h.blk
 have hne':=Lib.ownBlock_ne hown hb2 f.ne
 have hsz:=hg.size
 refine ⟨fun c=>c=b∨v'.ownBlock=some c,⟨?_,h.self,?_,fun c=>Iff.rfl⟩,⟨hg.os,hg.tape,hg.output,by rw [World.size_setCell];exact hsz,fun c hc hF=>?_,?_,?_⟩⟩
 ·rw [heap_setCell_same w2 b (f.o + 1) _ _ _ hb2,f.set1]
 ·exact hown.kept (row:=some b) ⟨rfl,rfl,rfl,by simp [World.setCell],fun k _ hk=>Below.heap_setCell _ _ _ _ (fun e=>hk (by simp [e]))⟩ (Or.inr hne')
 ·rw [Below.heap_setCell _ _ _ _ (fun e=>hF ((h.foot c).2 (.inl e)))]
  exact hg.block c hc (fun e=>hF ((h.foot c).2 (.inr e.symm)))
 ·rintro c (rfl | hc)
  ·exact .inl ((h.foot _).2 (.inl rfl))
  ·rcases hv with e | e | ⟨g,e,hge⟩
   ·rw [hc] at e;cases e
   ·exact .inl ((h.foot c).2 (.inr (e ▸ hc)))
   ·rw [hc] at e;injection e with e;subst e;exact .inr hge
 ·rintro c (rfl | hc)
  ·rw [World.size_setCell];have:=h.blt;omega
  ·rw [World.size_setCell];exact (hown.lt c hc).2
end
theorem sizeBld:∃ j,Tryz.prog.info? 205=some j∧j.size=2:=Option.map_eq_some_iff.1 (show (Tryz.prog.info? 205).map (·.size)=some 2 by kernel_rfl)
end
section
open Go Go.RowKit Go.Shelf
theorem unsafeString_none (W:World) (q:Option Addr):(Builtin.unsafeString_ #[299,3] 9 #[.pointer q,.int .i64 0]).run Tryz.prog W=.ok (.string .empty) W:=Lib.run_unsafeString_none W _ _ _ q
end
end Go.Proofs.YtbbokgpklihkoaaGreatDoor.W
namespace Go.Proofs.YtbbokgpklihkoaaGreatDoor.W.E
section
open Go.RowKit
theorem rowAt_mono {p:Program} {fits:TypeId→Bool} {d:Nat} {e:TypeId} {c c' off n:Nat} (h:rowAt p fits d e c off n=true) (hc:c≤c'):rowAt p fits d e c' off n=true:=by
 cases d with
 | zero=>cases h
 | succ d =>
  unfold rowAt at *
  simp only at *
  split at h
  ·cases h
  ·rename_i hs
   rw [if_neg hs]
   simp only [Bool.or_eq_true,Bool.and_eq_true,decide_eq_true_eq] at h ⊢
   rcases h with ⟨⟨h1,h2⟩,h3⟩ | ⟨h1,h2⟩
   ·exact .inl ⟨⟨h1,by omega⟩,h3⟩
   ·exact .inr ⟨by omega,h2⟩
theorem liesAt_mono {p:Program}:∀ {d:Nat} {e:TypeId} {c c' off:Nat} {u:TypeId} {n:Nat},liesAt p d e c off u n=true→c≤c'→liesAt p d e c' off u n=true
 | 0,_,_,_,_,_,_,h,_=>by cases h
 | d + 1,e,c,c',off,u,n,h,hc=>by
  unfold liesAt at *
  simp only [Bool.or_eq_true] at h ⊢
  rcases h with h | h
  ·exact .inl (rowAt_mono h hc)
  ·right
   split at h
   ·exact liesAt_mono h hc
   ·cases h
def bldAt (T off:Nat):Bool:=(Nat.beq T 205 && Nat.beq off 0) || (Nat.beq T 207 && Nat.beq off 1)
theorem bldAt_ok {T off:Nat} (h:bldAt T off=true):liesAt Tryz.prog Tryz.prog.depth T 1 off 205 1=true∧((T=205∧off=0∧Tryz.prog.cellsOf T=2)∨(T=207∧off=1∧Tryz.prog.cellsOf T=4)):=by
 simp only [bldAt,Bool.or_eq_true,Bool.and_eq_true] at h
 rcases h with ⟨h1,h2⟩ | ⟨h1,h2⟩
 ·rw [Nat.eq_of_beq_eq_true h1,Nat.eq_of_beq_eq_true h2]
  exact ⟨by kernel_rfl,.inl ⟨rfl,rfl,by kernel_rfl⟩⟩
 ·rw [Nat.eq_of_beq_eq_true h1,Nat.eq_of_beq_eq_true h2]
  exact ⟨by kernel_rfl,.inr ⟨rfl,rfl,by kernel_rfl⟩⟩
set_option maxHeartbeats 1000000 in
set_option maxRecDepth 100000 in
theorem check_new (w:World) (b o:Nat) (T n:Nat) (h0:w.cell? ⟨b,o,none⟩=some (.pointer none)) (hfz:∀ o,w.frozen? ⟨b,o,none⟩=false) (hsh:w.shape? b=some (T,n)) (hlt:o < n) (hlies:liesAt Tryz.prog Tryz.prog.depth T (n / Tryz.prog.cellsOf T) o 205 1=true) :
  Calls Tryz.prog 467 #[.pointer (some ⟨b,o,none⟩)] w fun e w'=>e=.returned (.tuple #[])∧w'=w.setCell ⟨b,o,none⟩ (.pointer (some ⟨b,o,none⟩)):=by
 obtain ⟨j,hj,hjs⟩:=sizeBld
 go_enter Tryz.func467,Tryz.ntmps467
 go_wp2
 rw [Lib.run_to_unsafe w ⟨b,o,none⟩ Tryz.underlying202 Tryz.underlying408 hj (by rw [hjs];decide) hsh hlt]
 simp only [Result.andThen]
 rw [Oper.upon_value]
 go_wp2
 rw [run_callFunc_extern Tryz.func496 (by kernel_rfl) (by kernel_rfl) (by kernel_rfl) (e:=Extern.AbiNoEscape.same) (by kernel_rfl)]
 rw [Lib.run_noEscape]
 simp only [Result.andThen]
 rw [Oper.upon_value]
 go_wp2
 rw [Lib.run_from_unsafe w ⟨b,o,none⟩ Tryz.underlying408 Tryz.underlying202 hj hsh hlies]
 simp only [Result.andThen]
 rw [Oper.upon_value]
 go_wp2
 go_end0
 exact ⟨rfl,rfl⟩
set_option maxHeartbeats 1000000 in
set_option maxRecDepth 100000 in
theorem check_old (w:World) (b o:Nat) (h0:w.cell? ⟨b,o,none⟩=some (.pointer (some ⟨b,o,none⟩))) :
  Calls Tryz.prog 467 #[.pointer (some ⟨b,o,none⟩)] w fun e w'=>e=.returned (.tuple #[])∧w'=w:=by
 obtain ⟨j,hj,hjs⟩:=sizeBld
 go_enter Tryz.func467,Tryz.ntmps467
 go_wp2
 rw [Lib.run_neq_ptr_same w _ Tryz.underlying202 hj]
 go_wp2
 go_end0
 exact ⟨rfl,rfl⟩
def xCheck:ExtF:=fun vs st=>match vs with
 | [.ptr b off]=>match st.m.get b with
  | some (.cells cs false sib (some T))=>bif bldAt T off && ltM b sib && Nat.ble 2 cs.length && (Nat.beq off 0 || Nat.ble 4 cs.length) then match cs[off]? with
   | some .nilp=>some (.tup [],st.turn b sib (.cells (setRange cs off [.ptr b off]) false [] (some T)))
   | some (.ptr b2 o2)=>bif Nat.beq b2 b && Nat.beq o2 off then some (.tup [],st) else none
   | _=>none
   else none
  | _=>none
 | _=>none
theorem xCheck_ok:ExtOk 467 xCheck:=fun w0 vs st v st' h=>by
 unfold xCheck at h
 split at h
 ·rename_i b off
  split at h
  ·rename_i cs sib T hm
   cases hc:bldAt T off && ltM b sib && Nat.ble 2 cs.length && (Nat.beq off 0 || Nat.ble 4 cs.length) with
   | false=>rw [hc] at h;cases h
   | true =>
    rw [hc,cond_true] at h
    simp only [Bool.and_eq_true,Bool.or_eq_true] at hc
    obtain ⟨⟨⟨c1,c2⟩,c3⟩,c4⟩:=hc
    obtain ⟨l1,l2⟩:=bldAt_ok c1
    obtain ⟨l3,l4⟩:=ltM_ok c2
    have c3:=zB c3
    -- the builder's block in a world
    have lies:∀ {e:Env} {w:World} {F:FootE} {c o z:Nat},Rl (HL w0) e st w F→e b=some (c,o,z)→o=0∧(∀ o,w.frozen? ⟨c,o,none⟩=false)∧∃ n,w.shape? c=some (T,n)∧off < n∧cs.length≤n∧liesAt Tryz.prog Tryz.prog.depth T (n / Tryz.prog.cellsOf T) off 205 1=true:=fun {e w F c o z} hR hb=>by
     obtain ⟨arr,t,fr,k1,k2,k3,k4,k5⟩:=(hR.blk b _ c o z hm hb).2
     obtain ⟨rfl,rfl⟩:=k3.2 T rfl
     have hfr:=k3.1 rfl
     subst hfr
     refine ⟨rfl,fun o=>by simp [World.frozen?,k1],arr.size,by simp [World.shape?,k1],?_,by omega,liesAt_mono l1 ?_⟩
     ·rcases l2 with ⟨-,rfl,-⟩ | ⟨-,rfl,-⟩<;>omega
     ·rcases l2 with ⟨-,h0,h2⟩ | ⟨-,h0,h2⟩
      ·rw [h2];omega
      ·rw [h2]
       have:4≤cs.length:=by
        rcases c4 with c4 | c4
        ·have:=Nat.eq_of_beq_eq_true c4;omega
        ·exact zB c4
       omega
    split at h
    ·rename_i hcell
     cases h
     refine fun hg=>⟨hg,fun e w F us hR hvs=>?_⟩
     obtain ⟨u,us,rfl,hu,hvs⟩:=vrs_cons hvs
     cases vrs_nil hvs
     cases hu with
     | ptr hb =>
      rename_i c o z
      obtain ⟨rfl,hfz,n,h1,h2,h3,h4⟩:=lies hR hb
      have hB:=(hR.blk b _ c 0 z hm hb).2
      obtain ⟨y,g1,g2,-⟩:=cells_at hB hcell
      cases g2
      rw [Nat.zero_add] at g1
      have hcall:=check_new w c off T n g1 hfz h1 h2 h4
      have hoff:off + 1≤cs.length:=by have:=(List.getElem?_eq_some_iff.1 hcell).1;omega
      have hz:off + 1≤z:=by obtain ⟨_,_,_,_,_,_,q,_⟩:=hB;omega
      have hv:VR e (.ptr b off) (.pointer (some ⟨c,0 + off,none⟩)):=.ptr hb
      have hwr:=hB.write (vs:=[.ptr b off]) (us:=[.pointer (some ⟨c,off,none⟩)]) (.cons (by simpa using hv) .nil) rfl (by omega) hz
      obtain ⟨o1,o2,o3,o4,o5⟩:=setCells_outer c [.pointer (some ⟨c,off,none⟩)] (0 + off) w
      have hs:w.setCells c (0 + off) [.pointer (some ⟨c,off,none⟩)]=w.setCell ⟨c,off,none⟩ (.pointer (some ⟨c,off,none⟩)):=by rw [Nat.zero_add];rfl
      rw [hs] at o1 o2 o3 o4 o5 hwr
      rw [Nat.zero_add]
      refine hcall.mono fun en w' ⟨q1,q2⟩=>⟨.tuple #[],e,F,q1,.tup .nil,?_,?_⟩
      ·rw [q2];exact hR.turn hm rfl hb l3 l4 rfl (Nat.le_of_eq o4.symm) (fun d _ hd=>o5 d hd) hwr
      ·rw [q2];exact Nxt.turn hR hm hb l3 l4 (Nat.le_of_eq o4.symm) (fun d _ hd=>o5 d hd) ⟨o1,o2,o3⟩
    ·rename_i b2 o2 hcell
     cases hb2:Nat.beq b2 b && Nat.beq o2 off with
     | false=>rw [hb2] at h;cases h
     | true =>
      rw [hb2,cond_true] at h;cases h
      simp only [Bool.and_eq_true] at hb2
      have e1:=Nat.eq_of_beq_eq_true hb2.1
      have e2:=Nat.eq_of_beq_eq_true hb2.2
      subst e1 e2
      refine ext_reader fun e w F us hR hvs=>?_
      obtain ⟨u,us,rfl,hu,hvs⟩:=vrs_cons hvs
      cases vrs_nil hvs
      cases hu with
      | ptr hb =>
       rename_i c o z
       obtain ⟨rfl,hfz,n,h1,h2,h3,h4⟩:=lies hR hb
       obtain ⟨y,g1,g2,-⟩:=cells_at (hR.blk _ _ c 0 z hm hb).2 hcell
       cases g2 with
       | ptr hb3 =>
        rw [hb] at hb3;cases hb3
        rw [Nat.zero_add] at g1 ⊢
        exact ⟨.tuple #[],.tup .nil,(check_old w c _ g1).mono fun en w' ⟨q1,q2⟩=>⟨q1,by rw [q2];exact Bl.refl w⟩⟩
    ·cases h
  ·cases h
 ·cases h
theorem freeze_outer (w:World) (g n:Nat):(w.freeze ⟨g,0,none⟩ n).os=w.os∧(w.freeze ⟨g,0,none⟩ n).tape=w.tape∧(w.freeze ⟨g,0,none⟩ n).output=w.output∧(w.freeze ⟨g,0,none⟩ n).heap.size=w.heap.size∧∀ d,d≠g→(w.freeze ⟨g,0,none⟩ n).heap[d]?=w.heap[d]?:=by
 unfold World.freeze
 split
 ·exact ⟨rfl,rfl,rfl,rfl,fun _ _=>rfl⟩
 ·exact ⟨rfl,rfl,rfl,by simp,fun d hd=>by simp only;rw [Array.getElem?_modify,if_neg (Ne.symm hd)]⟩
theorem freeze_in (w:World) (g n:Nat) (arr:Array Value) (t:TypeId) (fr:Nat × Nat) (h:w.heap[g]?=some (.cells arr t fr)):∃ fr',(w.freeze ⟨g,0,none⟩ n).heap[g]?=some (.cells arr t fr'):=by
 unfold World.freeze
 split
 ·exact ⟨fr,h⟩
 ·simp only
  rw [Array.getElem?_modify,if_pos rfl,h]
  exact ⟨_,rfl⟩
set_option maxHeartbeats 2000000 in
set_option maxRecDepth 100000 in
theorem str_none (w:World) (b o:Nat) (h1:w.cell? ⟨b,o + 1,none⟩=some (.slice none 0 0)) :
  Calls Tryz.prog 218 #[.pointer (some ⟨b,o,none⟩)] w fun e w'=>e=.returned (.string (bs []))∧w'=w.drew:=by
 have hUS:=unsafeString_none
 have mixed:Tryz.prog.follows .mixedOrders=true:=by kernel_rfl
 have c1:w.drew.cell? ⟨b,o + 1,none⟩=some (.slice none 0 0):=h1
 have hSD:(Builtin.unsafeSliceData_ #[203] 299 #[.slice none 0 0]).run Tryz.prog w.drew=.ok (.pointer none) w.drew:=rfl
 clear h1
 go_enter Tryz.func218,Tryz.ntmps218
 go_wp2
 go_region_o
 all_goals (go_wp2;go_ret;exact ⟨rfl,rfl⟩)
set_option maxHeartbeats 2000000 in
set_option maxRecDepth 100000 in
theorem str_some (w:World) (b o g cap:Nat) (cur:Array Value) (l:List UInt8) (h1:w.cell? ⟨b,o + 1,none⟩=some (.slice (some ⟨g,0,none⟩) l.length cap)) (hg:w.heap[g]?=some (.cells cur 5 (0,0))) (hl0:l≠[]) (hle:l.length≤cur.size) (hcap:l.length≤cap) (hcm:cap≤maxLen)
  (hx:∀ (j:Nat) (x:UInt8),l[j]?=some x→w.cell? ⟨g,j,none⟩=some (.int .u8 x.toNat)) :
  Calls Tryz.prog 218 #[.pointer (some ⟨b,o,none⟩)] w fun e w'=>e=.returned (.string (bs l))∧w'=w.drew.freeze ⟨g,0,none⟩ l.length:=by
 have mixed:Tryz.prog.follows .mixedOrders=true:=by kernel_rfl
 have hl1:l.length≠0:=fun e=>hl0 (List.eq_nil_of_length_eq_zero e)
 have c1:w.drew.cell? ⟨b,o + 1,none⟩=some (.slice (some ⟨g,0,none⟩) l.length cap):=h1
 have hSD:(Builtin.unsafeSliceData_ #[203] 299 #[.slice (some ⟨g,0,none⟩) l.length cap]).run Tryz.prog w.drew=.ok (.pointer (some ⟨g,0,none⟩)) w.drew:=Lib.run_unsafeSliceData_row _ _ _ _ _ _ (by omega)
 have hUS2:(Builtin.unsafeString_ #[299,3] 9 #[.pointer (some ⟨g,0,none⟩),.int .i64 l.length]).run Tryz.prog w.drew=.ok (.string (bs l)) (w.drew.freeze ⟨g,0,none⟩ l.length):=by
  refine Lib.run_unsafeString_row w.drew 299 3 9 5 Tryz.underlying299 (by kernel_rfl) g cur.size (by have hg':w.drew.heap[g]?=some (.cells cur 5 (0,0)):=hg;simp [World.shape?,hg']) l hl0 (by omega) (by unfold maxLen at hcm;omega) ?_
  intro j x hj
  rw [add_none,Nat.zero_add]
  exact hx j x hj
 clear h1 hx hg hle hcap hcm
 go_enter Tryz.func218,Tryz.ntmps218
 go_wp2
 go_region_o
 all_goals (go_wp2;go_ret;exact ⟨rfl,rfl⟩)
def toB (v:SV):Option UInt8 :=
 match v with
 | .int .u8 (.ofNat k)=>bif Nat.blt k 256 then some (UInt8.ofNat k) else none
 | _=>none
theorem toB_ok {v:SV} {b:UInt8} (h:toB v=some b) {e:Env} {u:Value} (hv:VR e v u):u=.int .u8 b.toNat:=by
 unfold toB at h
 split at h
 ·rename_i k
  cases hb:Nat.blt k 256 with
  | false=>rw [hb] at h;cases h
  | true =>
   rw [hb,cond_true] at h;cases h
   cases hv
   have:k < 256:=by simpa [Nat.blt_eq] using hb
   have e1:(UInt8.ofNat k).toNat=k:=by simp [UInt8.toNat_ofNat'];omega
   rw [e1];rfl
 ·cases h
def toBs:List SV→Option (List UInt8)
 | []=>some []
 | v :: t=>match toB v with
  | some b=>match toBs t with
   | some l=>some (b :: l)
   | none=>none
  | none=>none
theorem toBs_ok:∀ {vs:List SV} {l:List UInt8} {e:Env} {us:List Value},toBs vs=some l→VRs e vs us→us=l.map fun b=>Value.int .u8 b.toNat
 | [],l,e,us,h,hv=>by cases h;cases hv;rfl
 | v :: t,l,e,us,h,hv=>by
  unfold toBs at h
  split at h
  ·rename_i b hb
   split at h
   ·rename_i l' hl
    cases h
    cases hv with
    | cons h1 h2=>rw [toB_ok hb h1,toBs_ok hl h2];rfl
   ·cases h
  ·cases h
def xString:ExtF:=fun vs st=>match vs with
 | [.ptr b off]=>match st.m.get b with
  | some (.cells cs _ _ _)=>match cs[off + 1]? with
   | some .nils=>some (.str [],st)
   | some (.sl g 0 n 1 _)=>match st.m.get g with
    | some (.cells gs false sib (some T))=>bif Nat.beq T 5 && ltM g sib && Nat.ble n gs.length then match toBs (gs.take n) with
     | some (x :: l)=>some (.str (x :: l),st.turn g sib (.cells gs true [] (some T)))
     | _=>none
     else none
    | _=>none
   | _=>none
  | _=>none
 | _=>none
theorem xString_ok:ExtOk 218 xString:=fun w0 vs st v st' h=>by
 unfold xString at h
 split at h
 ·rename_i b off
  split at h
  ·rename_i cs ro sib0 ty0 hm
   split at h
   ·rename_i hcell
    cases h
    refine ext_reader fun e w F us hR hvs=>?_
    obtain ⟨u,us,rfl,hu,hvs⟩:=vrs_cons hvs
    cases vrs_nil hvs
    cases hu with
    | ptr hb =>
     rename_i c o z
     obtain ⟨y,g1,g2,-⟩:=cells_at (hR.blk b _ c o z hm hb).2 hcell
     cases g2
     rw [← Nat.add_assoc] at g1
     exact ⟨_,.str _,(str_none w c (o + off) g1).mono fun en w' ⟨q1,q2⟩=>⟨q1,by rw [q2];exact Bl.dr w⟩⟩
   ·rename_i g n ck hcell
    split at h
    ·rename_i gs sib T hgm
     cases hc:Nat.beq T 5 && ltM g sib && Nat.ble n gs.length with
     | false=>rw [hc] at h;cases h
     | true =>
      rw [hc,cond_true] at h
      simp only [Bool.and_eq_true] at hc
      obtain ⟨⟨c1,c2⟩,c3⟩:=hc
      have c1:=Nat.eq_of_beq_eq_true c1
      have c3:=zB c3
      obtain ⟨l3,l4⟩:=ltM_ok c2
      subst c1
      split at h
      ·rename_i x l hbs
       cases h
       refine fun hg=>⟨hg,fun e w F us hR hvs=>?_⟩
       obtain ⟨u,us,rfl,hu,hvs⟩:=vrs_cons hvs
       cases vrs_nil hvs
       cases hu with
       | ptr hb =>
        rename_i c o z
        obtain ⟨y,g1,g2,-⟩:=cells_at (hR.blk b _ c o z hm hb).2 hcell
        rw [← Nat.add_assoc] at g1
        have hlen:(x :: l).length=n:=by
         have h1:∀ {vs:List SV} {l:List UInt8},toBs vs=some l→l.length=vs.length:=fun {vs}=>by
          induction vs with
          | nil=>intro l h;cases h;rfl
          | cons v t ih =>
           intro l h
           unfold toBs at h
           split at h
           ·split at h
            ·rename_i l' hl;cases h;simp [ih hl]
            ·cases h
           ·cases h
         have:=h1 hbs
         simp at this ⊢;omega
        cases g2 with
        | sl hgb hle hz hmx hck =>
         rename_i gc go gz cap
         have hB:=(hR.blk g _ gc go gz hgm hgb).2
         obtain ⟨us,r1,r2,-⟩:=part_row hB 0 n
         rw [List.drop_zero] at r1
         have r3:=toBs_ok hbs r1
         obtain ⟨arr,t,fr,k1,k2,k3,k4,k5⟩:=hB
         obtain ⟨rfl,rfl⟩:=k3.2 _ rfl
         have hfr:=k3.1 rfl
         subst hfr
         have hcall:=str_some w c (o + off) gc cap arr (x :: l) (by rw [hlen];simpa using g1) k1 (by simp) (by omega) (by omega) hmx fun j y hj=>by
          have:=r2 j (.int .u8 y.toNat) (by rw [r3,List.getElem?_map,hj];rfl)
          simpa using this
         obtain ⟨o1,o2,o3,o4,o5⟩:=freeze_outer w.drew gc (x :: l).length
         obtain ⟨fr',k6⟩:=freeze_in w.drew gc (x :: l).length arr _ _ k1
         refine hcall.mono fun en w' ⟨q1,q2⟩=>⟨_,e,F,q1,.str _,?_,?_⟩
         ·rw [q2]
          exact hR.turn hgm rfl hgb l3 l4 rfl (Nat.le_of_eq o4.symm) (fun d _ hd=>o5 d hd) ⟨arr,_,fr',k6,k2,⟨nofun,k3.2⟩,k4,k5⟩
         ·rw [q2]
          exact Nxt.turn hR hgm hgb l3 l4 (Nat.le_of_eq o4.symm) (fun d _ hd=>o5 d hd) ⟨o1,o2,o3⟩
        | sle off' es o' hgb=>simp at hlen
      ·cases h
    ·cases h
   ·cases h
  ·cases h
 ·cases h
end
section
open Go.RowKit
def toSs:List SV→Option (List (List UInt8))
 | []=>some []
 | v :: t=>match v with
  | .str s=>match toSs t with
   | some l=>some (s :: l)
   | none=>none
  | _=>none
theorem toSs_ok:∀ {vs:List SV} {l:List (List UInt8)} {e:Env} {us:List Value},toSs vs=some l→VRs e vs us→us=l.map fun s=>Value.string (bs s)
 | [],l,e,us,h,hv=>by cases h;cases hv;rfl
 | v :: t,l,e,us,h,hv=>by
  unfold toSs at h
  split at h
  ·split at h
   ·rename_i l' hl
    cases h
    cases hv with
    | cons h1 h2=>cases h1;rw [toSs_ok hl h2];rfl
   ·cases h
  ·cases h
theorem toSs_len:∀ {vs:List SV} {l:List (List UInt8)},toSs vs=some l→l.length=vs.length
 | [],l,h=>by cases h;rfl
 | v :: t,l,h=>by
  unfold toSs at h
  split at h
  ·split at h
   ·rename_i l' hl;cases h;simp [toSs_len hl]
   ·cases h
  ·cases h
theorem mapbs (ls:List (List UInt8)):(ls.map bs).map (·.data.toList)=ls:=by
 rw [List.map_map]
 conv=>rhs;rw [← List.map_id ls]
 rfl
def xJoin:ExtF:=fun vs st=>match vs with
 | [x,.str sep]=>match x with
  | .nils=>some (.str [],st)
  | .emp _ _=>some (.str [],st)
  | .sl b off n 1 _=>match st.m.get b with
   | some (.cells cs _ _ _)=>bif Nat.ble (off + n) cs.length && Nat.ble n 1000000000 then match toSs ((cs.drop off).take n) with
    | some l=>let r:=Lib.join l sep;bif Nat.ble r.length 1000000000 then some (.str r,st) else none
    | none=>none
    else none
   | _=>none
  | _=>none
 | _=>none
theorem xJoin_ok:ExtOk 452 xJoin:=fun w0 vs st v st' h=>by
 unfold xJoin at h
 split at h
 ·rename_i x sep
  split at h
  ·cases h
   refine ext_reader fun e w F us hR hvs=>?_
   obtain ⟨u,us,rfl,hu,hvs⟩:=vrs_cons hvs
   obtain ⟨u2,us,rfl,hu2,hvs⟩:=vrs_cons hvs
   cases vrs_nil hvs
   cases hu;cases hu2
   exact ⟨_,.str _,(Tryz.strings_Join_none none 0 (bs sep) w).mono fun en w' ⟨q1,q2⟩=>⟨q1,by rw [q2];exact Bl.refl w⟩⟩
  ·cases h
   refine ext_reader fun e w F us hR hvs=>?_
   obtain ⟨u,us,rfl,hu,hvs⟩:=vrs_cons hvs
   obtain ⟨u2,us,rfl,hu2,hvs⟩:=vrs_cons hvs
   cases vrs_nil hvs
   cases hu2
   cases hu<;>exact ⟨_,.str _,(Tryz.strings_Join_none _ _ (bs sep) w).mono fun en w' ⟨q1,q2⟩=>⟨q1,by rw [q2];exact Bl.refl w⟩⟩
  ·rename_i b off n ck
   split at h
   ·rename_i cs ro sib ty hm
    cases hc:Nat.ble (off + n) cs.length && Nat.ble n 1000000000 with
    | false=>rw [hc] at h;cases h
    | true =>
     rw [hc,cond_true] at h
     simp only [Bool.and_eq_true] at hc
     have c1:=zB hc.1
     have c2:=zB hc.2
     split at h
     ·rename_i l hl
      simp only at h
      cases hr:Nat.ble (Lib.join l sep).length 1000000000 with
      | false=>rw [hr] at h;cases h
      | true =>
       rw [hr,cond_true] at h;cases h
       have c3:=zB hr
       refine ext_reader fun e w F us hR hvs=>?_
       obtain ⟨u,us,rfl,hu,hvs⟩:=vrs_cons hvs
       obtain ⟨u2,us,rfl,hu2,hvs⟩:=vrs_cons hvs
       cases vrs_nil hvs
       cases hu2
       have hlen:l.length=n:=by have:=toSs_len hl;simp at this;omega
       cases hu with
       | sl hb hle hz hmx hck =>
        rename_i c o z cap
        have hB:=(hR.blk b _ c o z hm hb).2
        obtain ⟨us,r1,r2,-⟩:=part_row hB off n
        have r3:=toSs_ok hl r1
        have:=Tryz.strings_Join c (o + off) cap (l.map bs) (bs sep) w (fun j x hj=>by
         have:=r2 j (.string x) (by rw [r3,List.getElem?_map];rw [List.getElem?_map] at hj;cases hq:l[j]? with | none=>rw [hq] at hj;cases hj | some y=>rw [hq] at hj;cases hj;rfl)
         rwa [← Nat.add_assoc] at this) hB.lt (by simp;omega) (by simp;omega) (by rw [mapbs];exact Nat.le_trans c3 (by decide))
        rw [mapbs,List.length_map,hlen] at this
        exact ⟨_,.str _,this.mono fun en w' ⟨q1,q2⟩=>⟨q1,q2⟩⟩
       | sle off' es o' hb =>
        have:l=[]:=List.eq_nil_of_length_eq_zero hlen
        subst this
        exact ⟨_,.str _,(Tryz.strings_Join_none _ _ (bs sep) w).mono fun en w' ⟨q1,q2⟩=>⟨q1,by rw [q2];exact Bl.refl w⟩⟩
     ·cases h
   ·cases h
  ·cases h
 ·cases h
def xIndex:ExtF:=fun vs st=>match vs with
 | [.str s,.str u]=>bif Nat.ble s.length 1000000000 then some (.int .i64 (Lib.index s u),st) else none
 | _=>none
def xCut:ExtF:=fun vs st=>match vs with
 | [.str s,.str u]=>bif Nat.ble s.length 1000000000 then some (.tup [.str (Lib.cut s u).1,.str (Lib.cut s u).2.1,.bool (Lib.cut s u).2.2],st) else none
 | _=>none
def xHasSuffix:ExtF:=fun vs st=>match vs with
 | [.str s,.str u]=>bif Nat.ble s.length 1000000000 then some (.bool (Lib.hasSuffix s u),st) else none
 | _=>none
def xRepeat:ExtF:=fun vs st=>match vs with
 | [.str s,.int .i64 (.ofNat n)]=>bif Nat.ble (s.length * n) 1000000000 && Nat.ble n 1000000000 then some (.str (Lib.repeatL s n),st) else none
 | _=>none
end
section
open Go.RowKit
def heldB (n:Int):List V→Bool
 | []=>false
 | x :: t=>(decide (x.k=4) && decide (x.n=n)) || heldB n t
theorem heldB_occ (n:Int):∀ l:List V,heldB n l=true↔0 < occ n l
 | []=>by simp [heldB,occ]
 | x :: t=>by
  rw [heldB,occ,Bool.or_eq_true,heldB_occ n t,Bool.and_eq_true,decide_eq_true_eq,decide_eq_true_eq]
  by_cases h:x.k=4∧x.n=n
  ·rw [if_pos h];simp [h];omega
  ·rw [if_neg h];simp [h]
abbrev Objs:=List (Int × Ob)
def supB (e vs:List V) (p:Int × Ob):Bool:=heldB p.1 e || heldB p.1 vs
def sweepS (e:List V) (s:Objs):Objs:=s.filter (supB e (s.flatMap fun p=>p.2.values))
def sweepL (e:List V):Nat→Objs→Objs
 | 0,s=>s
 | k + 1,s=>bif Nat.beq (sweepS e s).length s.length then s else sweepL e k (sweepS e s)
theorem filter_full {α:Type} {p:α→Bool}:∀ {l:List α},(l.filter p).length=l.length→l.filter p=l
 | [],_=>rfl
 | x :: t,h=>by
  rw [List.filter_cons] at h ⊢
  split at h
  ·rename_i hx
   rw [if_pos hx,filter_full (by simpa using h)]
  ·have:=List.length_filter_le p t
   simp only [List.length_cons] at h;omega
theorem sweepL_fix (e:List V):∀ (k:Nat) (s:Objs),s.length < k→sweepS e (sweepL e k s)=sweepL e k s
 | 0,s,h=>by omega
 | k + 1,s,h=>by
  unfold sweepL
  cases hb:Nat.beq (sweepS e s).length s.length with
  | true=>exact filter_full (Nat.eq_of_beq_eq_true hb)
  | false =>
   have hne:(sweepS e s).length≠s.length:=fun hh=>by rw [hh,Nat.beq_refl] at hb;cases hb
   have:=List.length_filter_le (supB e (s.flatMap fun p=>p.2.values)) s
   exact sweepL_fix e k _ (by unfold sweepS at *;omega)
theorem sweepL_filter (e:List V):∀ (k:Nat) (s:Objs),∃ q:Int × Ob→Bool,sweepL e k s=s.filter q
 | 0,s=>⟨fun _=>true,(List.filter_eq_self.2 fun _ _=>rfl).symm⟩
 | k + 1,s=>by
  unfold sweepL
  cases hb:Nat.beq (sweepS e s).length s.length with
  | true=>exact ⟨fun _=>true,(List.filter_eq_self.2 fun _ _=>rfl).symm⟩
  | false =>
   obtain ⟨q,hq⟩:=sweepL_filter e k (sweepS e s)
   exact ⟨fun p=>q p && supB e (s.flatMap fun p=>p.2.values) p,by rw [cond_false,hq,sweepS,List.filter_filter]⟩
theorem held_of {n:Int} {s:Objs} (h:heldB n (s.flatMap fun p=>p.2.values)=true):∃ p∈s,0 < occ n p.2.values:=by
 rw [heldB_occ,occ_pos] at h
 obtain ⟨x,hx,h1⟩:=h
 obtain ⟨p,hp,hxp⟩:=List.mem_flatMap.1 hx
 exact ⟨p,hp,occ_pos.2 ⟨x,hxp,h1⟩⟩
theorem held_to {n:Int} {s:Objs} {p:Int × Ob} (hp:p∈s) (h:0 < occ n p.2.values):heldB n (s.flatMap fun p=>p.2.values)=true:=by
 rw [heldB_occ,occ_pos]
 obtain ⟨x,hx,h1⟩:=occ_pos.1 h
 exact ⟨x,List.mem_flatMap.2 ⟨p,hp,hx⟩,h1⟩
theorem sweepL_sup {e:List V} {t:Objs} (ht:∀ p∈t,heldB p.1 e=true∨∃ q∈t,0 < occ p.1 q.2.values):∀ (k:Nat) (s:Objs),(∀ p∈t,p∈s)→∀ p∈t,p∈sweepL e k s
 | 0,s,h,p,hp=>h p hp
 | k + 1,s,h,p,hp=>by
  unfold sweepL
  cases hb:Nat.beq (sweepS e s).length s.length with
  | true=>exact h p hp
  | false =>
   refine sweepL_sup ht k _ (fun q hq=>?_) p hp
   refine List.mem_filter.2 ⟨h q hq,?_⟩
   unfold supB
   rw [Bool.or_eq_true]
   rcases ht q hq with h1 | ⟨r,hr,h1⟩
   ·exact .inl h1
   ·exact .inr (held_to (h r hr) h1)
def sweepM (h:Hp) (e:List V):Hp :=
 let a:=sweepL e (h.all.length + 1) h.all
 ⟨a,fun n=>(occ n (a.flatMap fun p=>p.2.values):Int),h.last⟩
theorem swept_eq {h h':Hp} {e:List V} (s:Swept h e h') (hnd:(h.all.map (·.1)).Nodup):h'=sweepM h e:=by
 obtain ⟨T,hT⟩:=s.sub
 obtain ⟨q,hq⟩:=sweepL_filter e (h.all.length + 1) h.all
 have hfix:=sweepL_fix e (h.all.length + 1) h.all (by omega)
 have hnd':=s.cons.nd
 have hall:h'.all=sweepL e (h.all.length + 1) h.all:=by
  rw [hT,hq]
  refine List.filter_congr fun p hp=>?_
  have m1:T p.1=true↔p∈h'.all:=by rw [hT,List.mem_filter];exact ⟨fun h=>⟨hp,h⟩,fun h=>h.2⟩
  have m2:q p=true↔p∈sweepL e (h.all.length + 1) h.all:=by rw [hq,List.mem_filter];exact ⟨fun h=>⟨hp,h⟩,fun h=>h.2⟩
  suffices p∈h'.all↔p∈sweepL e (h.all.length + 1) h.all by
   rw [Bool.eq_iff_iff,m1,m2];exact this
  constructor
  ·intro hp'
   refine sweepL_sup (t:=h'.all) (fun r hr=>?_) _ _ (fun r hr=>by rw [hT] at hr;exact (List.mem_filter.1 hr).1) p hp'
   rcases s.tight r.1 r.2 (mem_get hnd' hr) with h1 | h1
   ·exact .inl ((heldB_occ _ _).2 h1)
   ·right
    have:heldB r.1 (h'.all.flatMap fun p=>p.2.values)=true:=(heldB_occ _ _).2 h1
    exact held_of this
  ·intro hpA
   obtain ⟨o,ho⟩:=s.max (fun n=>∃ o,(n,o)∈sweepL e (h.all.length + 1) h.all) (fun n ⟨o,ho⟩=>by
    have hin:∀ r,r∈sweepL e (h.all.length + 1) h.all→r∈h.all:=fun r hr=>by rw [hq] at hr;exact (List.mem_filter.1 hr).1
    refine ⟨⟨o,mem_get hnd (hin _ ho)⟩,?_⟩
    rw [← hfix] at ho
    have:=(List.mem_filter.1 ho).2
    unfold supB at this
    rw [Bool.or_eq_true] at this
    rcases this with h1 | h1
    ·exact .inl ((heldB_occ _ _).1 h1)
    ·obtain ⟨r,hr,h2⟩:=held_of h1
     exact .inr ⟨r.1,r.2,⟨r.2,hr⟩,mem_get hnd (hin r hr),h2⟩) p.1 ⟨p.2,hpA⟩
   have h1:=get_mem ho
   have h2:(p.1,o)∈h.all:=by rw [hT] at h1;exact (List.mem_filter.1 h1).1
   have h3:=mem_get hnd h2
   have h4:=mem_get hnd (show (p.1,p.2)∈h.all from hp)
   rw [h3] at h4;cases h4
   exact h1
 have hrefs:h'.refs=fun n=>(occ n ((sweepL e (h.all.length + 1) h.all).flatMap fun p=>p.2.values):Int):=by
  funext n
  have:=s.cons.refs n
  rw [this]
  show ((occ n h'.vals:Nat):Int) + _=_
  simp only [occ,Hp.vals,hall]
  simp
 obtain ⟨a1,a2,a3⟩:=h'
 have hlast:=s.last
 simp only at hall hrefs hlast
 subst hall hrefs hlast
 rfl
def xSweep:ExtF:=fun vs st=>match vs with
 | [p,x]=>match heapAt st.x p with
  | some h=>match rowV st.m x with
   | some e=>bif Nat.ble h.all.length 1048576 then some (.int .i64 ((h.all.length:Int) - ((sweepM h e).all.length:Int)),st.wh (hnum st.x) (sweepM h e)) else none
   | none=>none
  | none=>none
 | _=>none
theorem HR.nd {w:World} {hp:Nat} {h:Hp} {F:Foot} (r:HR w hp h F):(h.all.map (·.1)).Nodup:=r.elim fun _ r=>r.nd
theorem xSweep_ok:ExtOk 94 xSweep:=fun w0 vs st v st' h=>by
 unfold xSweep at h
 split at h
 ·rename_i p x
  split at h
  ·rename_i hh hq
   split at h
   ·rename_i l hl
    cases hc:Nat.ble hh.all.length 1048576 with
    | false=>rw [hc] at h;cases h
    | true =>
     rw [hc,cond_true] at h;cases h
     have hc:=zB hc
     refine ext_writer (heapAt_x hq) fun e w F us c F0 hR hvs k=>?_
     obtain ⟨u,us,rfl,hu,hvs⟩:=vrs_cons hvs
     obtain ⟨u2,us,rfl,hu2,hvs⟩:=vrs_cons hvs
     cases vrs_nil hvs
     obtain ⟨b',c',F1,g1,k',rfl⟩:=heapAt_ok hq hR hu
     rw [heapAt_x hq] at g1;cases g1
     obtain ⟨z1,a1⟩:=k.at_;obtain ⟨z2,a2⟩:=k'.at_
     rw [a1] at a2;cases a2
     obtain ⟨r0,m0⟩:=rowV_ok hl hR hu2
     refine ⟨fun n=>rfl,.int .i64 _,.int _ _,(sweep_any w c hh F0 k.hr u2 l (Vx.less r0 k.sub) m0 ⟨fun n=>by rw [k.ok n];simp [occ],HR.nd k.hr⟩ hc).mono fun en w' ⟨h',q1,q2,q3⟩=>?_⟩
     have:=swept_eq q3 (HR.nd k.hr)
     subst this
     exact ⟨q1,q2⟩
   ·cases h
  ·cases h
 ·cases h
end
end Go.Proofs.YtbbokgpklihkoaaGreatDoor.W.E
namespace Go.Proofs.YtbbokgpklihkoaaGreatDoor.W
section
open Go Go.RowKit
section
variable {F:Fence} {n:Nat} {P:Program} {ops:Array Oper} {Q:Exit→Go.Act→World→Prop} {md:Region.Mode} {B:World→Prop} {o:Oper} {a:Go.Act} {v:Value}
variable {R R':Res} {w0:World} {F0:Foot} {O L:List Item} {X:List Fact} {k i:Nat} {T T':List Nat} {listed:Array Bool} {rest:List Oper}
end
section
variable {F:Fence} {n:Nat} {ops:Array Oper} {B:World→Prop} {o:Oper} {a:Go.Act}
end
end
section
open Go Go.RowKit
def obBl (x:Value):List Nat:=match x.ownBlock with | some b=>[b] | none=>[]
def rowF {α:Type} (enc:α→List Value) (e:TypeId) (sz:Nat) (x:Value) (l:List α):Fact:=⟨obBl x,true,true,fun w=>w.ownsRow 0 e sz x l.length (l.flatMap enc),fun w w' h hs hk=>by
 obtain ⟨h1,h2⟩:=h
 refine ⟨h1,?_⟩
 rcases h2 with h2 | ⟨g,cap,cur,rfl,h0,hg,r⟩
 ·exact .inl h2
 ·exact .inr ⟨g,cap,cur,rfl,h0,(hk g (by simp [obBl,Value.ownBlock])).trans hg,r⟩⟩
section
variable {F:Fence} {n:Nat} {P:Program} {ops:Array Oper} {Q:Exit→Go.Act→World→Prop} {md:Region.Mode} {B:World→Prop} {o:Oper} {a:Go.Act} {v:Value}
variable {R R':Res} {w0:World} {F0:Foot} {O L:List Item} {X:List Fact} {k i:Nat} {T T':List Nat} {listed:Array Bool} {rest:List Oper} {W W':World} {G:Foot}
theorem flat_len2 {α:Type} {enc:α→List Value} {sz:Nat} (hz:∀ x,(enc x).length=sz) (l:List α):(l.flatMap enc).length=l.length * sz:=by
 induction l with
 | nil=>simp
 | cons a t ih=>simp [List.flatMap_cons,ih,hz,Nat.add_mul,Nat.add_comm]
theorem SW.nilRow {α:Type} (enc:α→List Value) (e:TypeId) (sz:Nat) (h:SW R w0 F0 O L X W):SW R w0 F0 O L (rowF enc e sz (.slice none 0 0) [] :: X) W:=by
 obtain ⟨⟨G,hG⟩,hn⟩:=h
 obtain ⟨h1,h2⟩:=hG.learn (Wa:=W) hn (rowF enc e sz (.slice none 0 0) []) (World.ownsRow_nil W 0 e sz) hG.st.size (fun b hb=>by simp [rowF,obBl,Value.ownBlock] at hb) hG.ownLt fun y hy _=>hG.factLt y hy
 exact ⟨⟨G,h1⟩,h2⟩
theorem SW.regrow (hR:ROk w0 R) (h:SW R w0 F0 O L X W) (j:Nat) {x y:Fact} (hj:X[j]?=some x) (hx:x.new=true∧x.mine=true) (hy:y.p W') (hs:W.heap.size≤W'.heap.size) (ho:W'.os=W.os∧W'.tape=W.tape∧W'.output=W.output)
  (hk:∀ b,b < W.heap.size→b ∉ x.bl→W'.heap[b]?=W.heap[b]?) (hb:∀ b∈y.bl,b < W'.heap.size∧(b∈x.bl∨W.heap.size≤b)):SW R w0 F0 O L (X.set j y) W':=by
 obtain ⟨⟨G,hG⟩,hn⟩:=h
 have hxm:=List.mem_of_getElem? hj
 have hxf:=hG.fact x hxm
 have hjl:j < X.length:=(List.getElem?_eq_some_iff.1 hj).1
 have he:X[j]=x:=(List.getElem?_eq_some_iff.1 hj).2
 have hnx:∀ b∈x.bl,w0.heap.size≤b∧¬ G b∧b < W.heap.size:=fun b hbx=>⟨(hxf.2 b hbx).2.2 hx.1,(hxf.2 b hbx).1,(hxf.2 b hbx).2.1⟩
 have hdis:∀ i (hi:i < X.length),i≠j→∀ b∈X[i].bl,b ∉ x.bl:=fun i hi hij b hbi hbx=>by
  have hp:=List.pairwise_iff_getElem.1 hn.2.2
  rcases Nat.lt_or_gt_of_ne hij with hlt | hlt
  ·exact hp i j hi hjl hlt (.inr (by rw [he];exact hx.2)) b hbi (by rw [he];exact hbx)
  ·exact hp j i hjl hi hlt (.inl (by rw [he];exact hx.2)) b (by rw [he];exact hbx) hbi
 have hmem:∀ z∈X.set j y,z=y∨∃ i,∃ hi:i < X.length,i≠j∧z=X[i]:=fun z hz=>by
  obtain ⟨i,hi,rfl⟩:=List.getElem_of_mem hz
  rw [List.length_set] at hi
  rw [List.getElem_set]
  by_cases hij:j=i
  ·rw [if_pos hij];exact .inl rfl
  ·rw [if_neg hij];exact .inr ⟨i,hi,Ne.symm hij,rfl⟩
 refine ⟨⟨G,hR.keep _ _ _ hG.res hs fun b hb2=>hk b (hb2.elim (hG.st.lt b) fun h2=>Nat.lt_of_lt_of_le h2 hG.st.size) fun hbx=>hb2.elim (hnx b hbx).2.1 fun h2=>by have:=(hnx b hbx).1;omega,?_,?_,?_,?_⟩,hn.1,?_,?_⟩
 ·exact ⟨ho.1.trans hG.st.os,ho.2.1.trans hG.st.tape,ho.2.2.trans hG.st.output,Nat.le_trans hG.st.size hs,fun c hc hF=>(hk c (Nat.lt_of_lt_of_le hc hG.st.size) fun hbx=>by have:=(hnx c hbx).1;omega).trans (hG.st.block c hc hF),hG.st.foot,fun c hc=>Nat.lt_of_lt_of_le (hG.st.lt c hc) hs⟩
 ·exact fun p hp=>⟨(hk _ (block_lt (hG.out p hp).1) fun hbx=>by have:=(hnx _ hbx).1;have:=(hG.out p hp).2.2;omega).trans (hG.out p hp).1,(hG.out p hp).2⟩
 ·exact fun p hp=>⟨(hk _ (block_lt (hG.own p hp).1) fun hbx=>hn.2.1 x hxm _ hbx p hp rfl).trans (hG.own p hp).1,(hG.own p hp).2⟩
 ·intro z hz
  rcases hmem z hz with rfl | ⟨i,hi,hij,rfl⟩
  ·refine ⟨hy,fun b hbz=>?_⟩
   rcases (hb b hbz).2 with h2 | h2
   ·exact ⟨(hnx b h2).2.1,(hb b hbz).1,fun _=>(hnx b h2).1⟩
   ·exact ⟨fun hF=>by have:=hG.st.lt b hF;omega,(hb b hbz).1,fun _=>Nat.le_trans hG.st.size h2⟩
  ·have hf:=hG.fact _ (List.getElem_mem hi)
   exact ⟨X[i].ok _ _ hf.1 hs fun b hbi=>hk b (hf.2 b hbi).2.1 (hdis i hi hij b hbi),fun b hbi=>⟨(hf.2 b hbi).1,Nat.lt_of_lt_of_le (hf.2 b hbi).2.1 hs,(hf.2 b hbi).2.2⟩⟩
 ·intro z hz b hbz q hq
  rcases hmem z hz with rfl | ⟨i,hi,hij,rfl⟩
  ·rcases (hb b hbz).2 with h2 | h2
   ·exact hn.2.1 x hxm b h2 q hq
   ·exact Nat.ne_of_lt (Nat.lt_of_lt_of_le (block_lt (hG.own q hq).1) h2)
  ·exact hn.2.1 _ (List.getElem_mem hi) b hbz q hq
 ·have hyd:∀ i (hi:i < X.length),i≠j→∀ b∈y.bl,b ∉ X[i].bl:=fun i hi hij b hby hbi=>by
   rcases (hb b hby).2 with h2 | h2
   ·exact hdis i hi hij b hbi h2
   ·have:=((hG.fact _ (List.getElem_mem hi)).2 b hbi).2.1;omega
  refine List.pairwise_iff_getElem.2 fun i k hi hkk hik hm b hbi=>?_
  rw [List.length_set] at hi hkk
  rw [List.getElem_set] at hm hbi
  rw [List.getElem_set] at hm ⊢
  by_cases h1:j=i
  ·subst h1
   rw [if_pos rfl] at hbi
   rw [if_neg (by omega)]
   exact hyd k hkk (by omega) b hbi
  ·rw [if_neg h1] at hbi hm
   by_cases h2:j=k
   ·subst h2
    rw [if_pos rfl]
    exact fun hby=>hyd i hi (by omega) b hby hbi
   ·rw [if_neg h2] at hm ⊢
    exact List.pairwise_iff_getElem.1 hn.2.2 i k hi hkk hik hm b hbi
theorem own_form {w:World} {e:TypeId} {sz m:Nat} {v:Value} {xs:List Value} {base:Nat} (h:w.ownsRow base e sz v m xs):∃ p:Option Addr × Nat,v=.slice p.1 m p.2∧∀ b∈obBl v,b < w.heap.size:=by
 rcases h.2 with ⟨rfl,rfl⟩ | ⟨g,cap,cur,rfl,-,hg,-⟩
 ·exact ⟨(none,0),rfl,fun b hb=>by simp [obBl,Value.ownBlock] at hb⟩
 ·exact ⟨(some ⟨g,0,none⟩,cap),rfl,fun b hb=>by simp [obBl,Value.ownBlock] at hb;subst hb;exact block_lt hg⟩
abbrev slN (p:Option Addr × Nat) (m:Nat):Value:=.slice p.1 m p.2
theorem SW.append {α:Type} {enc:α→List Value} {t ty e:TypeId} {i:TypeInfo} {z:Value} {sz bytes:Nat} (hR:ROk w0 R) (ht:P.underlying t=some (.slice e)) (hi:P.info? e=some i) (hz:i.zero=some z) (hsize:i.size=sz) (hby:i.bytes=bytes) (hzs:z.cells.size=sz) (hsz:0 < sz)
  (henc:∀ x,(enc x).length=sz) (h1:∀ x,∀ u∈enc x,u.oneCell'=true) {x:Value} {l:List α} (j:Nat) (hj:X[j]?=some (rowF enc e sz x l)) (ad:Addr) (m c:Nat) (l2:List α) (hm:l2.length=m)
  (h:SW R w0 F0 O L X W) (hsrc:∀ q u,(l2.flatMap enc)[q]?=some u→W.cell? (ad.add q)=some u) (h63:l.length + m≤maxLen) (hbytes:(l.length + m) * bytes≤140737488355328) :
  ∃ p w',(Builtin.append_ #[t,t] ty #[x,.slice (some ad) m c]).run P W=.ok (slN p (l++l2).length) w'∧SW R w0 F0 O L (X.set j (rowF enc e sz (slN p (l++l2).length) (l++l2))) w':=by
 have hp:W.ownsRow 0 e sz x l.length (l.flatMap enc):=h.sb.elim fun G hG=>(hG.fact _ (List.mem_of_getElem? hj)).1
 obtain ⟨v',w',hr,ho,hgr,hnb⟩:=run_app (P:=P) W t ty e i z sz bytes ht hi hz hsize hby hzs hsz x l.length _ hp ad m c (l2.flatMap enc) (by rw [flat_len2 henc,hm]) hsrc (fun u hu=>by
  obtain ⟨y,-,hy⟩:=List.mem_flatMap.1 hu
  exact h1 y u hy) h63 hbytes
 have hlen:l.length + m=(l++l2).length:=by rw [List.length_append,hm]
 rw [hlen,← List.flatMap_append] at ho
 obtain ⟨p,rfl,hlt⟩:=own_form ho
 refine ⟨p,w',hr,h.regrow hR j hj ⟨rfl,rfl⟩ ho hgr.size ⟨hgr.os,hgr.tape,hgr.output⟩ (fun b hb hnx=>hgr.block b hb fun e2=>hnx ?_) (fun b hb=>⟨hlt b hb,?_⟩)⟩
 ·simp [rowF,obBl,← e2]
 ·rcases hnb with e2 | ⟨g,e2,hg⟩
  ·left
   simp only [rowF,obBl] at hb ⊢
   rw [← e2];exact hb
  ·right
   simp only [rowF,obBl] at hb
   rw [e2] at hb
   simp at hb
   omega
theorem wpIn_append {w w':World} {K:Go.Act→World→Prop} (hF:FWide F) (s x:Operand) (t:TypeId) (hop:o.op=.call { callee:=.builtin .append,args:=#[s,x],argTypes:=#[t,t] }) {v vx v':Value} (hs:a.eval s=v) (hx:a.eval x=vx)
  (hr:(Builtin.append_ #[t,t] o.type #[v,vx]).run P w=.ok v' w') (hk:K (a.put o.dst v') w'):o.wpIn F n P a w K Q:=by
 refine ⟨fun f _=>hF.fn f,?_⟩
 rw [Oper.semAt_eq _ _ _ (by rw [hop];nofun)]
 unfold execOp
 rw [hop]
 simp [resolve,invoke,builtin,hs,hx,hr,Result.andThen]
 exact hk
theorem wpIn_loopN {c:Code} {w:World} (N:Nat) (J:Nat→Go.Act→World→Prop) (h0:J 0 a w) (round:∀ i,i≤N→∀ a w,J i a w→c.wpIn F n P (Exit.then (fun a' w'=>i < N∧J (i + 1) a' w') Q) a w):(Code.loop c).wpIn F n P Q a w:=by
 refine wpIn_loop_ghost (fun m a w=>∃ i,i≤N∧m=N - i∧J i a w) N ⟨0,Nat.zero_le _,rfl,h0⟩ ?_
 rintro m a w ⟨i,hi,rfl,hJ⟩
 refine wpIn_mono (round i hi a w hJ) fun e a' w' q=>?_
 cases e<;>first | exact q | skip
 exact ⟨N - (i + 1),by have:=q.1;omega,i + 1,q.1,rfl,q.2⟩
end
end
section
open Go Go.RowKit
theorem Vs.blk {w:World} {x:Value} {l:List V} (h:Vs w x l):∀ b o n c,x=.slice (some ⟨b,o,none⟩) n c→b < w.heap.size:=by
 rintro b o n c rfl
 rcases h with ⟨h,-⟩ | ⟨b',o',c',e,hb,-⟩
 ·cases h
 ·cases e;exact hb
def slBl:Value→List Nat
 | .slice (some a) _ _=>[a.block]
 | _=>[]
theorem Vs.keep {w w':World} {x:Value} {l:List V} (h:Vs w x l) (hs:w.heap.size≤w'.heap.size) (hk:∀ b∈slBl x,w'.heap[b]?=w.heap[b]?):Vs w' x l:=by
 rcases h with h | ⟨b,o,c,rfl,hb,q1,q2,q3⟩
 ·exact .inl h
 ·exact .inr ⟨b,o,c,rfl,Nat.lt_of_lt_of_le hb hs,q1,q2,fun j u hj=>(World.cell?_of_block (w:=w) (a:=⟨b,o + j,none⟩) (hk b (by simp [slBl]))).trans (q3 j u hj)⟩
def vsF (x:Value) (l:List V) (new:Bool):Fact:=⟨slBl x,new,false,fun w=>Vs w x l,fun w w' h hs hk=>h.keep hs hk⟩
theorem Vs.fact {w:World} {x:Value} {l:List V} (h:Vs w x l):(vsF x l false).p w∧∀ b∈(vsF x l false).bl,b < w.heap.size:=by
 refine ⟨h,fun b hb=>?_⟩
 rcases h with ⟨rfl,-⟩ | ⟨b',o',c',rfl,h',-⟩
 ·cases hb
 ·simp [vsF,slBl] at hb;subst hb;exact h'
theorem Vx.fact {F:Foot} {w:World} {x:Value} {l:List V} (h:Vx F w x l):(vsF x l false).p w∧∀ b∈(vsF x l false).bl,¬ F b∧b < w.heap.size∧(vsF x l false).new=false:=by
 refine ⟨h.vs,fun b hb=>⟨?_,h.vs.fact.2 b hb,rfl⟩⟩
 obtain ⟨hv,ho⟩:=h
 rcases hv with ⟨rfl,-⟩ | ⟨b',o',c',rfl,h',-⟩
 ·cases hb
 ·simp [vsF,slBl] at hb;subst hb;exact ho _ _ _ _ rfl
theorem SWF.vx {nw:Bool} {R:Res} {w0:World} {F0:Foot} {O L:List Item} {X:List Fact} {W:World} {F:Foot} (h:SWF R w0 F0 O L X W F) (k:Nat) {x:Value} {l:List V} (hk:X[k]?=some (vsF x l nw)):Vx F W x l:=by
 have h1:=h.fact _ (List.mem_of_getElem? hk)
 refine ⟨h1.1,fun b o n c e hf=>?_⟩
 subst e
 exact (h1.2 b (by simp [vsF,slBl])).1 hf
theorem SWF.vs {nw:Bool} {R:Res} {w0:World} {F0:Foot} {O L:List Item} {X:List Fact} {W:World} {F:Foot} (h:SWF R w0 F0 O L X W F) (k:Nat) {x:Value} {l:List V} (hk:X[k]?=some (vsF x l nw)):Vs W x l:=(h.vx k hk).vs
theorem Vs.noF {w:World} {x:Value} {l:List V} (h:Vs w x l):Vx noF w x l:=⟨h,fun _ _ _ _ _ h=>h⟩
theorem start_nil {P:Fact→Prop}:∀ x∈([]:List Fact),P x:=fun x h=>(by cases h)
theorem start_cons {P:Fact→Prop} {a:Fact} {l:List Fact} (h:P a) (t:∀ q∈l,P q):∀ q∈a :: l,P q:=fun q hq=>(List.mem_cons.1 hq).elim (fun e=>e ▸ h) (t q)
def Vn (w:World) (F:Foot) (w':World) (x:Value) (l:List V):Prop:=Vs w' x l∧∀ b∈slBl x,w.heap.size≤b∧¬ F b
theorem Vn.nil (w:World) (F:Foot) (w':World):Vn w F w' (.slice none 0 0) []:=⟨.inl ⟨rfl,rfl⟩,fun b hb=>by cases hb⟩
abbrev Sp:=Option Addr × Nat
abbrev sl (x:Sp) (l:List V):Value:=.slice x.1 l.length x.2
theorem newRow {P:Program} {f:FuncId} {args:Array Value} {R:Res} {w0:World} {F0:Foot} {O L:List Item} {X:List Fact} {w:World} {l:List V} (hR:ROk w0 R) (hS:SW R w0 F0 O L X w) (c:Calls P f args w (NewVs w l)) :
  Calls P f args w fun e w'=>∃ x:Sp,e=.returned (sl x l)∧SW R w0 F0 O L (vsF (sl x l) l true :: X) w':=by
 obtain ⟨⟨G,hG⟩,hn⟩:=hS
 refine c.mono fun e w' h=>?_
 obtain ⟨a,cc,rfl,h2,hb⟩:=h.form2
 have hv:=h2.vs
 have hside:∀ b∈(vsF (.slice a l.length cc) l true).bl,w.heap.size≤b∧b < w'.heap.size∧¬ G b:=by
  intro b hbb
  cases a with
  | none=>cases hbb
  | some ad =>
   simp [vsF,slBl] at hbb
   subst hbb
   obtain ⟨bb,off,loc⟩:=ad
   rcases hv with ⟨hv,-⟩ | ⟨b',o',c',e',hlt,-⟩
   ·cases hv
   ·injection e' with e1 e2 e3
    injection e1 with e1
    injection e1 with e1 e2 e3
    subst e1;subst e2;subst e3
    have hf:=h2.fresh _ _ _ _ rfl
    exact ⟨hf,hlt,fun hF=>by have h9:bb < w.heap.size:=hG.st.lt _ hF;omega⟩
 obtain ⟨h3,h4⟩:=(hG.bl hR hb).learn hn (vsF (.slice a l.length cc) l true) hv hG.st.size hside hG.ownLt fun y hy _=>hG.factLt y hy
 exact ⟨(a,cc),rfl,⟨G,h3⟩,h4⟩
@[reducible] def Act.aggX (a:Act) (x y:Sp):Value:=.agg #[.int .i64 a.kind,.int .i64 a.code,.int .i64 a.after,.int .i64 a.v.k,.int .i64 a.v.n,.string (bs a.v.s),.int .i64 a.keep.k,.int .i64 a.keep.n,.string (bs a.keep.s),sl x a.args,sl y a.cells]
@[reducible] def Act.agg0 (a:Act):Value:=.agg #[.int .i64 a.kind,.int .i64 a.code,.int .i64 a.after,.int .i64 a.v.k,.int .i64 a.v.n,.string (bs a.v.s),.int .i64 a.keep.k,.int .i64 a.keep.n,.string (bs a.keep.s),.slice none 0 0,.slice none 0 0]
theorem flat_get {l:List V} {i:Nat} {v:V} (hi:l[i]?=some v):(l.flatMap V.cs)[3 * i]?=some (.int .i64 v.k)∧(l.flatMap V.cs)[3 * i + 1]?=some (.int .i64 v.n)∧(l.flatMap V.cs)[3 * i + 2]?=some (.string (bs v.s)):=by
 induction l generalizing i with
 | nil=>cases hi
 | cons a t ih =>
  cases i with
  | zero=>cases hi;exact ⟨rfl,rfl,rfl⟩
  | succ i =>
   obtain ⟨h1,h2,h3⟩:=ih (i:=i) (by simpa using hi)
   have e:(a :: t).flatMap V.cs=V.cs a++t.flatMap V.cs:=rfl
   rw [e]
   refine ⟨?_,?_,?_⟩
   ·rw [List.getElem?_append_right (by simp [V.cs];omega)];rw [← h1];congr 1
   ·rw [List.getElem?_append_right (by simp [V.cs];omega)];rw [← h2];congr 1
   ·rw [List.getElem?_append_right (by simp [V.cs];omega)];rw [← h3];congr 1
end
end Go.Proofs.YtbbokgpklihkoaaGreatDoor.W
