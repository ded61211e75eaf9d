/- EsN EsF WnA WnB -/
import Derived.Test.YtmelcflkbfhohaaGreatDoorPart10
import Derived.Test.YtmelcflkbfhohaaGreatDoorPart9
set_option linter.unusedVariables false
set_option linter.unusedSimpArgs false
namespace Go.Proofs.YtmelcflkbfhohaaGreatDoor.W.E
section
set_option maxRecDepth 100000
open Go.RowKit
abbrev xz:HX:=⟨none,0,[],[],[]⟩
def ref1 (q:SV→List Nat) (v:SV):List Nat:=match v with
 | .ptr b _=>[b]
 | .sl b _ _ _ _=>[b]
 | .map b=>[b]
 | .fn _ xs ys=>xs.flatMap q++ys.flatMap q
 | .iface _ v=>q v
 | .agg cs=>cs.flatMap q
 | .tup cs=>cs.flatMap q
 | _=>[]
def refsV (n:Nat):SV→List Nat:=Nat.rec (fun _=>[]) (fun _ q=>ref1 q) n
theorem refs_list {e:Env} {q:SV→List Nat} (hq:∀ {v:SV} {u:Value} {b:Nat},VR e v u→b∈q v→e b≠none) {b:Nat}:∀ {vs:List SV} {us:List Value},VRs e vs us→b∈vs.flatMap q→e b≠none
 | [],_,_,hb=>by simp at hb
 | v :: t,_,.cons h1 h2,hb=>by
  rw [List.flatMap_cons] at hb
  rcases List.mem_append.1 hb with h | h
  ·exact hq h1 h
  ·exact refs_list hq h2 h
theorem ref1_some {e:Env} {q:SV→List Nat} (hq:∀ {v:SV} {u:Value} {b:Nat},VR e v u→b∈q v→e b≠none) {v:SV} {u:Value} {b:Nat} (h:VR e v u) (hb:b∈ref1 q v):e b≠none:=by
 unfold ref1 at hb
 cases h<;>simp only [List.mem_singleton,List.not_mem_nil,List.mem_append] at hb
 case ptr h=>subst hb;rw [h];nofun
 case sl h _ _ _ _=>subst hb;rw [h];nofun
 case sle h=>subst hb;rw [h];nofun
 case map h=>subst hb;rw [h];nofun
 case fn h1 h2 =>
  rcases hb with hb | hb
  ·exact refs_list hq h1 hb
  ·exact refs_list hq h2 hb
 case iface h=>exact hq h hb
 case agg h=>exact refs_list hq h hb
 case tup h=>exact refs_list hq h hb
theorem refsV_some {e:Env}:∀ (n:Nat) {v:SV} {u:Value} {b:Nat},VR e v u→b∈refsV n v→e b≠none
 | 0,v,u,b,h,hb=>by replace hb:b∈([]:List Nat):=hb;cases hb
 | n + 1,v,u,b,h,hb=>ref1_some (q:=refsV n) (fun h hb=>refsV_some n h hb) h hb
def refsB (k:SB):List Nat:=match k with
 | .cells c _ _ _=>c.flatMap (refsV renF)
 | .map es=>es.flatMap fun p=>refsV renF p.1++refsV renF p.2
 | _=>[]
theorem map_refs {e:Env} {b:Nat}:∀ {es:List (SV × SV)} {us vs:List Value},VRs e (es.map (·.1)) us→VRs e (es.map (·.2)) vs→(b∈es.flatMap fun p=>refsV renF p.1++refsV renF p.2)→e b≠none
 | [],_,_,_,_,hb=>by simp at hb
 | p :: t,_,_,.cons h1 h2,.cons k1 k2,hb=>by
  rw [List.flatMap_cons,List.mem_append,List.mem_append] at hb
  rcases hb with (h | h) | h
  ·exact refsV_some _ h1 h
  ·exact refsV_some _ k1 h
  ·exact map_refs h2 k2 h
theorem refsB_some {e:Env} {w:World} {c o z:Nat} {k:SB} (h:BlkR e w c o z k) {b:Nat} (hb:b∈refsB k):e b≠none:=by
 unfold refsB at hb
 cases k with
 | cells cs ro sib ty =>
  obtain ⟨arr,t,fr,h1,h2,h3,h4,h5⟩:=h
  obtain ⟨v,hv,hbv⟩:=List.mem_flatMap.1 hb
  obtain ⟨j,hj⟩:=List.getElem?_of_mem hv
  obtain ⟨_,u,_,hu⟩:=h5 j v hj
  exact refsV_some _ hu hbv
 | map es =>
  obtain ⟨es',k,h1,h2,h3⟩:=h
  exact map_refs h2 h3 hb
 | siter s p=>simp at hb
 | emp=>simp at hb
 | loop=>simp at hb
def bfs (m:T SB) (n:Nat):List Nat→List Nat→List Nat:=Nat.rec (fun _ acc=>acc) (fun _ ih work acc=>match work with
 | []=>acc
 | b :: t=>bif acc.any (Nat.beq b) then ih t acc else match m.get b with
  | some k=>ih (t++refsB k) (acc++[b])
  | none=>ih t (acc++[b])) n
theorem bfs_some {e:Env} {st:St HX} {w0:B0} {w:World} {F:FootE} (hR:Rl (HL w0) e st w F):∀ (n:Nat) (work acc:List Nat),(∀ b∈work,e b≠none)→(∀ b∈acc,e b≠none)→∀ b∈bfs st.m n work acc,e b≠none
 | 0,work,acc,h1,h2,b,hb=>h2 b hb
 | n + 1,[],acc,h1,h2,b,hb=>h2 b hb
 | n + 1,x :: t,acc,h1,h2,b,hb=>by
  have hx:=h1 x (List.mem_cons_self ..)
  have ht:∀ b∈t,e b≠none:=fun b hb=>h1 b (List.mem_cons_of_mem _ hb)
  have hacc:∀ b∈acc++[x],e b≠none:=fun b hb=>by
   rcases List.mem_append.1 hb with h | h
   ·exact h2 b h
   ·rw [List.mem_singleton.1 h];exact hx
  replace hb:b∈(bif acc.any (Nat.beq x) then bfs st.m n t acc else match st.m.get x with
   | some k=>bfs st.m n (t++refsB k) (acc++[x])
   | none=>bfs st.m n t (acc++[x])):=hb
  cases hq:acc.any (Nat.beq x) with
  | true=>rw [hq] at hb;exact bfs_some hR n t acc ht h2 b hb
  | false =>
   rw [hq,cond_false] at hb
   split at hb
   ·rename_i k hk
    refine bfs_some hR n _ _ (fun y hy=>?_) hacc b hb
    rcases List.mem_append.1 hy with h | h
    ·exact ht y h
    ·cases hex:e x with
     | none=>exact absurd hex hx
     | some p =>
      obtain ⟨c,o,z⟩:=p
      exact refsB_some (hR.blk x k c o z hk hex).2 h
   ·exact bfs_some hR n _ _ ht hacc b hb
def addZ (m:T SB) (i:Nat):List (Option SB)→T SB
 | []=>m
 | k :: t=>addZ (m.upd i k) (Nat.add i 1) t
theorem addZ_out:∀ (l:List (Option SB)) (m:T SB) (i c:Nat),(c < i∨i + l.length≤c)→(addZ m i l).get c=m.get c
 | [],_,_,_,_=>rfl
 | k :: t,m,i,c,h=>by
  have e:(addZ m i (k :: t)).get c=(m.upd i k).get c:=addZ_out t (m.upd i k) (i + 1) c (by simp only [List.length_cons] at h;omega)
  rw [e,T.upd_ne _ _ (by simp only [List.length_cons] at h;omega)]
theorem addZ_in:∀ (l:List (Option SB)) (m:T SB) (i:Nat),i + l.length≤TMax→∀ j k,l[j]?=some k→(addZ m i l).get (i + j)=k
 | k0 :: t,m,i,h,0,k,hk=>by
  simp only [List.length_cons] at h
  have e:(addZ m i (k0 :: t)).get (i + 0)=(m.upd i k0).get i:=addZ_out t (m.upd i k0) (i + 1) i (.inl (Nat.lt_succ_self _))
  rw [e,T.upd_same _ _ (by omega)]
  simpa using hk
 | k0 :: t,m,i,h,j + 1,k,hk=>by
  simp only [List.length_cons] at h
  have:=addZ_in t (m.upd i k0) (i + 1) (by omega) j k (by simpa using hk)
  rw [show i + (j + 1)=i + 1 + j by omega]
  exact this
def updZ (ρ:Nat→Option Nat):List (Option SB)→Nat→T SB→Option (T SB)
 | [],_,m=>some m
 | k :: t,i,m=>match ρ i with
  | some c=>bif Nat.blt c TMax then (match k with
   | some q=>match SB.ren ρ q with
    | some q2=>updZ ρ t (Nat.add i 1) (m.upd c (some q2))
    | none=>none
   | none=>updZ ρ t (Nat.add i 1) (m.upd c none)) else none
  | none=>none
theorem updZ_get {ρ:Nat→Option Nat}:∀ {es:List (Option SB)} {i:Nat} {m m':T SB},updZ ρ es i m=some m'→∀ c,
  (∃ d q,es[d]?=some q∧ρ (i + d)=some c∧(m'.get c=none∨∃ q0 k,q=some q0∧SB.ren ρ q0=some k∧m'.get c=some k))∨((∀ d,d < es.length→ρ (i + d)≠some c)∧m'.get c=m.get c)
 | [],i,m,m',h,c=>by cases h;exact .inr ⟨fun d hd=>absurd hd (Nat.not_lt_zero d),rfl⟩
 | q :: t,i,m,m',h,c=>by
  unfold updZ at h
  split at h
  ·rename_i c0 hc0
   cases hb:Nat.blt c0 TMax with
   | false=>rw [hb] at h;cases h
   | true =>
    rw [hb,cond_true] at h
    have hlt:c0 < TMax:=by simpa [Nat.blt_eq] using hb
    have step:∀ {x:Option SB},updZ ρ t (i + 1) (m.upd c0 x)=some m'→(x=none∨∃ q0 k,q=some q0∧SB.ren ρ q0=some k∧x=some k)→(∃ d q',(q :: t)[d]?=some q'∧ρ (i + d)=some c∧(m'.get c=none∨∃ q0 k,q'=some q0∧SB.ren ρ q0=some k∧m'.get c=some k))∨((∀ d,d < (q :: t).length→ρ (i + d)≠some c)∧m'.get c=m.get c):=fun {x} h hx=>by
     rcases updZ_get h c with ⟨d,q',h1,h2,h3⟩ | ⟨h1,h2⟩
     ·exact .inl ⟨d + 1,q',by simpa using h1,by rw [show i + (d + 1)=i + 1 + d by omega];exact h2,h3⟩
     ·by_cases hc:c=c0
      ·subst hc
       rw [T.upd_same _ _ hlt] at h2
       refine .inl ⟨0,q,rfl,hc0,?_⟩
       rcases hx with hx | ⟨q0,k,k1,k2,k3⟩
       ·exact .inl (by rw [h2,hx])
       ·exact .inr ⟨q0,k,k1,k2,by rw [h2,k3]⟩
      ·rw [T.upd_ne _ _ hc] at h2
       refine .inr ⟨fun d hd=>?_,h2⟩
       cases d with
       | zero=>rw [Nat.add_zero,hc0];exact fun hh=>hc (Option.some.inj hh).symm
       | succ d=>rw [show i + (d + 1)=i + 1 + d by omega];exact h1 d (by simpa using hd)
    split at h
    ·rename_i q0
     split at h
     ·rename_i q2 hq2
      exact step h (.inr ⟨q0,q2,rfl,hq2,rfl⟩)
     ·cases h
    ·exact step h (.inl rfl)
  ·cases h
def rhoZ (lv:List Nat) (nx k n d:Nat):Option Nat:=match lv[d]? with
 | some b=>some b
 | none=>bif Nat.blt d n then some (Nat.add nx (Nat.sub d k)) else none
theorem rhoZ_cases {lv:List Nat} {nx n d c:Nat} (h:rhoZ lv nx lv.length n d=some c):lv[d]?=some c∨(lv.length≤d∧d < n∧c=nx + (d - lv.length)):=by
 unfold rhoZ at h
 split at h
 ·rename_i b hb;cases h;exact .inl hb
 ·rename_i hn
  cases hb:Nat.blt d n with
  | false=>rw [hb] at h;cases h
  | true =>
   rw [hb] at h;cases h
   exact .inr ⟨by simpa using hn,by simpa [Nat.blt_eq] using hb,rfl⟩
theorem zip_mem {lv:List Nat} {b i:Nat} (h:(b,i)∈lv.zipIdx):lv[i]?=some b:=by
 have:=List.mem_zipIdx_iff_getElem?.1 h
 simpa using this
theorem mem_zip {lv:List Nat} {b i:Nat} (h:lv[i]?=some b):(b,i)∈lv.zipIdx:=List.mem_zipIdx_iff_getElem?.2 (by simpa using h)
def bC (w:World) (I:Nat→Prop) (id:Nat→Option (Nat × Nat × Nat)):B0:=⟨w,fo0,fun _=>none,nofun,I,id⟩
theorem bC_fix {w:World} {I:Nat→Prop} {id:Nat→Option (Nat × Nat × Nat)} (d:Nat):Fix (bC w I id) d↔GlB d:=by
 constructor
 ·rintro (h1 | ⟨_,_,_,h1⟩)
  ·exact h1
  ·cases h1
 ·exact .inl
theorem HXR.iff {w0:B0} {e:Env} {x:HX} {w:World} {F:FootE} (h:HXR w0 e x w F):∀ d,F d↔Fix w0 d:=by
 obtain ⟨-,h⟩:=h
 split at h
 ·exact h
 ·rename_i p hp;exact p.2.elim
theorem HXR.mk0 {w0:B0} {e:Env} {x:HX} {w:World} {F:FootE} (h1:Gl w0.w∧(∀ d,Fix w0 d→w.heap[d]?=w0.w.heap[d]?)∧w0.w.heap.size≤w.heap.size∧FoE w0 e) (h2:∀ d,F d↔Fix w0 d):HXR w0 e x w F:=by
 refine ⟨h1,?_⟩
 split
 ·exact h2
 ·rename_i p hp;exact p.2.elim
theorem Rl.bC {w w':World} {I I':Nat→Prop} {id id':Nat→Option (Nat × Nat × Nat)} {e:Env} {st:St HX} {F:FootE} (hR:Rl (HL (E.bC w I id)) e st w' F):Rl (HL (E.bC w I' id')) e st w' F:=by
 have hx:HXR (E.bC w I id) e st.x w' F:=hR.ext
 have h1:=hx.1
 exact ⟨hR.blk,hR.dis,hR.old,hR.dom,hR.sib,HXR.mk0 ⟨h1.1,fun d hd=>h1.2.1 d ((bC_fix d).2 ((bC_fix d).1 hd)),h1.2.2.1,nofun⟩ fun d=>(hx.iff d).trans ((bC_fix d).trans (bC_fix d).symm)⟩
theorem Im.getEq {X:Type} {e:Env} {m m':T SB} {nx:Nat} {x:X} {F:FootE} (h:∀ d,m.get d=m'.get d) {c:Nat} (hi:Im e ⟨m,nx,x⟩ F c):Im e ⟨m',nx,x⟩ F c:=by
 rcases hi with hi | ⟨b,q,o,z,h1,h2⟩
 ·exact .inl hi
 ·exact .inr ⟨b,q,o,z,by rw [← h b];exact h1,h2⟩
theorem Rl.getEq {X:Type} {L:EL X} {e:Env} {m m':T SB} {nx:Nat} {x:X} {w:World} {F:FootE} (hR:Rl L e ⟨m,nx,x⟩ w F) (h:∀ d,m.get d=m'.get d):Rl L e ⟨m',nx,x⟩ w F :=
 ⟨fun b q c o z h1 h2=>hR.blk b q c o z (by rw [h b];exact h1) h2,fun x y bx by_ c o z c' o' z' h1 h2=>hR.dis x y bx by_ c o z c' o' z' (by rw [h x];exact h1) (by rw [h y];exact h2),fun b q h1=>hR.old b q (by rw [h b];exact h1),hR.dom,fun x bx h1=>hR.sib x bx (by rw [h x];exact h1),hR.ext⟩
def CallZ (f:Nat) (vs0:List SV) (bs0 es:List (Option SB)) (v0:SV):Prop :=
 ∀ (w0:B0),Hd w0 fo0 bs0.length→∀ e F us,Rl (HL w0) e ⟨addZ .e 0 bs0,bs0.length,xz⟩ w0.w F→VRs e vs0 us→Own w0 e ⟨addZ .e 0 bs0,bs0.length,xz⟩ w0.w F →
  Calls Tryz.prog f ⟨us⟩ w0.w fun en w'=>∃ u e' F',en=.returned u∧VR e' v0 u∧Rl (HL w0) e' ⟨addZ .e 0 es,es.length,xz⟩ w' F'∧Own w0 e' ⟨addZ .e 0 es,es.length,xz⟩ w' F'
theorem CallZ.parts {f:Nat} {g:Func} {c:Code} {bs0 es:List (Option SB)} {vs0:List SV} {v0:SV}
  (hf:Tryz.prog.funcs[f]?=some g) (hc:g.body=some c) (hl:vs0.length≤g.ntmps) (hlM:vs0.length < TMax)
  (H:∀ (w0:B0),Hd w0 fo0 bs0.length→CodeQ w0 g.ntmps c (initT vs0 0 .e) ⟨addZ .e 0 bs0,bs0.length,xz⟩ fun x tm st=>(x=.normal∨x=.ret)∧resS Tryz.prog st.m tm g.results=some v0∧st=⟨addZ .e 0 es,es.length,xz⟩) :
  CallZ f vs0 bs0 es v0:=fun w0 hHd e F us hR hvs hOwn=>by
 have hlen:us.length=vs0.length:=(hvs.length).symm
 refine calls_of_wp hf hc (H w0 hHd _ _ _ ⟨⟨e,F,hR,?_,hOwn⟩,?_,rfl⟩ fun x' tm st a' w' ⟨hx,hres,hst⟩ hA=>?_)
 ·refine initT_ok hvs (fun t v ht=>by simp at ht) (by omega) fun j u hj=>?_
  have hj2:=(List.getElem?_eq_some_iff.1 hj).1
  rw [Array.getElem?_append_left (by simp;omega)]
  simpa using hj
 ·simp;omega
 ·subst hst
  obtain ⟨e',F',hR',ha',ho'⟩:=hA.ex
  obtain ⟨u,q1,q2⟩:=resS_ok hR' ha' hres
  have hds:=hA.ds
  rcases hx with rfl | rfl
  ·exact ⟨hds,_,q1,u,e',F',rfl,q2,hR',ho'⟩
  ·exact ⟨hds,_,q1,u,e',F',rfl,q2,hR',ho'⟩
noncomputable def zrun (ext:ExtT) (K n f:Nat) (vs0:List SV) (bs0:List (Option SB)) (live:Live) (N:Nat):Option (SV × T SB):=match recY (C Tryz.prog ext ⟨default,fo0,fun _=>none,nofun,fun _=>False,fun _=>none⟩) plan K n false f vs0 ⟨addZ .e 0 bs0,bs0.length,xz⟩ with
 | some p=>cond (liveOk N live) (match gcM (toNew live) p.2.m live with
  | some M=>(match SV.ren (toNew live) renF p.1 with
   | some v=>(match p.2.x.pc with
    | []=>(match p.2.x.rc with
     | []=>some (v,M)
     | _=>none)
    | _=>none)
   | none=>none)
  | none=>none) none
 | none=>none
theorem CallZ.run {ext:ExtT} (hx:∀ f h,ext f=some h→extP f h) {K n f:Nat} {bs0 es:List (Option SB)} {vs0:List SV} {v0:SV} {live:Live} (h:zrun ext K n f vs0 bs0 live es.length=some (v0,addZ .e 0 es)) (hid:∀ b,b < bs0.length→(b,b)∈live) :
  CallZ f vs0 bs0 es v0:=fun w0 hHd e F us hR hvs hOwn=>by
 unfold zrun at h
 rw [hHd.call] at h
 split at h
 ·rename_i p hp
  cases hlo:liveOk es.length live with
  | false=>rw [hlo] at h;cases h
  | true =>
   rw [hlo,cond_true] at h
   split at h
   ·rename_i M hM
    split at h
    ·rename_i v hv
     split at h
     ·rename_i hpc
      split at h
      ·rename_i hrc
       cases h
       have hgood:p.2.x.good:=⟨by rw [hpc];nofun,by rw [hrc];nofun⟩
       obtain ⟨-,g2⟩:=((recY_ok (C_ok hx w0) K n).1 f vs0 _ p.1 p.2 hp).2 hgood
       refine (g2 e w0.w F us hR hvs).mono fun en w' ⟨u,e',F',h1,h2,h3,h4⟩=>?_
       have hgc:gc live [] es.length .e p.2=some (.e,⟨addZ .e 0 es,es.length,xz⟩):=by
        unfold E.gc
        rw [hlo,cond_true]
        obtain ⟨v1,m1,n1,⟨h0,cnt,sc,pc,rc⟩⟩:=p
        have hh0:h0=none:=by cases h0 with | none=>rfl | some p=>exact p.2.elim
        subst hh0
        replace hM:gcM (toNew live) m1 live=some (addZ .e 0 es):=hM
        simp only [hM,gcT,gcX]
       obtain ⟨e2,-,-,hmem,-,-,hR2,-,ho2⟩:=gc_ex hHd.fd (tm:=.e) (ts:=#[]) h3 (fun t v ht=>by simp at ht) (hOwn.next h3 h4) hid hgc
       exact ⟨u,e2,F',h1,SV.ren_ok (fun b c hbc=>hmem b c (toNew_mem hbc)) renF hv h2,hR2,ho2⟩
      ·cases h
     ·cases h
    ·cases h
   ·cases h
 ·cases h
theorem callZ_of {f:Nat} {bs0 es:List (Option SB)} {vs0:List SV} {v0:SV}
  (hk:bs0.length≤es.length) (hkM:es.length≤TMax) (H:CallZ f vs0 bs0 es v0)
  {w0:B0} {e:Env} {m m':T SB} {nx:Nat} {x:HX} {w:World} {F:FootE} {us:List Value} {lv:List Nat} {vs:List SV} {v:SV} {M0:T SB}
  (hlv:lv.length=bs0.length) (hgc:gc lv.zipIdx [] lv.length .e ⟨m,nx,x⟩=some (.e,⟨M0,lv.length,xz⟩)) (hM0:∀ d,M0.get d=(addZ .e 0 bs0).get d) (hey:∀ b∈lv,e b≠none)
  (hwr:∀ b∈lv,∀ q,m.get b=some q→q.wr=true∧q.sib=[]) (hvs:renL (SV.ren (toNew lv.zipIdx) renF) vs=some vs0) (hv:SV.ren (rhoZ lv nx lv.length es.length) renF v0=some v)
  (hm':updZ (rhoZ lv nx lv.length es.length) es 0 m=some m') (hR:Rl (HL w0) e ⟨m,nx,x⟩ w F) (hvs0:VRs e vs us) :
  Calls Tryz.prog f ⟨us⟩ w fun en w'=>∃ u e' F',en=.returned u∧VR e' v u∧Rl (HL w0) e' ⟨m',nx + (es.length - lv.length),x⟩ w' F'∧Nxt nx e ⟨m,nx,x⟩ w F e' ⟨m',nx + (es.length - lv.length),x⟩ w' F':=by
 have hRE:HXR w0 e x w F:=hR.ext
 have hG:Gl w:=hRE.gl
 have hFix:=hRE.tab
 have hFi:=hRE.iff
 obtain ⟨live,hlive⟩:∃ live:Live,live=lv.zipIdx:=⟨_,rfl⟩
 obtain ⟨k,hkk⟩:∃ k,k=lv.length:=⟨_,rfl⟩
 obtain ⟨n,hnn⟩:∃ n,n=es.length:=⟨_,rfl⟩
 rw [← hlive] at hgc hvs
 unfold CallZ at H
 rw [← hlv] at H hk
 rw [← hkk] at hgc hv hm' H hk ⊢
 rw [← hnn] at hv hm' H hk hkM ⊢
 have hin:∀ {b i},lv[i]?=some b→(b,i)∈live:=fun h=>by rw [hlive];exact mem_zip h
 have hinc:∀ {b i},(b,i)∈live→lv[i]?=some b:=fun h=>by rw [hlive] at h;exact zip_mem h
 have hmemlv:∀ {b i},(b,i)∈live→b∈lv:=fun h=>List.mem_of_getElem? (hinc h)
 have hF1F:∀ d,GlB d→F d:=fun d hd=>hFix d (.inl hd)
 have hRA:∀ (I:Nat→Prop) (id:Nat→Option (Nat × Nat × Nat)),Rl (HL (E.bC w I id)) e ⟨m,nx,x⟩ w GlB:=fun I id =>
  ⟨fun y k c o z r1 r2=>⟨fun hc=>(hR.blk y k c o z r1 r2).1 (hF1F c hc),(hR.blk y k c o z r1 r2).2⟩,hR.dis,hR.old,hR.dom,hR.sib,
   HXR.mk0 ⟨hG,fun _ _=>rfl,Nat.le_refl _,nofun⟩ fun d=>(bC_fix d).symm⟩
 obtain ⟨e2,hlok,-,hmem,hdom,hget0,hR20,-,ho20⟩:=gc_ex (w0:=E.bC w (Im e ⟨m,nx,x⟩ GlB) (fun _=>none)) (fn:=0) ⟨nofun,nofun,nofun⟩ (tm:=.e) (ts:=#[]) (hRA _ _) (fun t v ht=>by simp at ht) ⟨BlI.refl,nofun,fun c _ hi=>.inl hi⟩ (fun b hb=>absurd hb (Nat.not_lt_zero b)) hgc
 have hget:∀ c k2,(addZ .e 0 bs0).get c=some k2→∃ b k,(b,c)∈live∧m.get b=some k:=fun c k2 h=>hget0 c k2 (by rw [← hM0 c] at h;exact h)
 have hR2:=hR20.getEq hM0
 have ho2:∀ d,d < w.heap.size→Im e2 ⟨addZ .e 0 bs0,k,xz⟩ GlB d→_:=fun d hd hi=>ho20.im d hd (Im.getEq (fun d=>(hM0 d).symm) hi)
 obtain ⟨Is,hIs⟩:∃ Is:Nat→Prop,Is=Im e2 ⟨addZ .e 0 bs0,k,xz⟩ GlB:=⟨_,rfl⟩
 have hIF:∀ d,d < w.heap.size→Is d→Im e ⟨m,nx,x⟩ F d:=fun d hd hi=>by
  rw [hIs] at hi
  rcases ho2 d hd hi with h1 | h1
  ·rcases h1 with h1 | h1
   ·exact .inl (hF1F d h1)
   ·exact .inr h1
  ·exact .inl (hF1F d ((bC_fix d).1 h1))
 have hno:∀ y' k cc o z,m.get y'=some k→e y'=some (cc,o,z)→y' ∉ lv→¬ Is cc:=fun y' k cc o z r1 r2 hne0 hi=>by
  rw [hIs] at hi
  rcases hi with hi | ⟨d',k',o',z',s1,s2⟩
  ·exact (hR.blk y' k cc o z r1 r2).1 (hF1F cc hi)
  ·obtain ⟨b',kk,t1,t2⟩:=hget d' k' s1
   rw [hmem b' d' t1] at s2
   have hne:b'≠y':=fun hq=>hne0 (by rw [← hq];exact hmemlv t1)
   obtain ⟨u1,u2⟩:=hwr b' (hmemlv t1) kk t2
   rcases hR.dis b' y' kk k cc o' z' cc o z t2 r1 hne u1 s2 r2 with q | ⟨q,-⟩
   ·exact q rfl
   ·rw [u2] at q;cases q
 have hnoF:∀ d,Fix w0 d→¬ GlB d→¬ Is d:=fun d hd h0 hi=>by
  rw [hIs] at hi
  rcases hi with hi | ⟨d',k',o',z',s1,s2⟩
  ·exact h0 hi
  ·obtain ⟨b',kk,t1,t2⟩:=hget d' k' s1
   rw [hmem b' d' t1] at s2
   exact (hR.blk b' kk d o' z' t2 s2).1 (hFix d hd)
 obtain ⟨wB,hwB⟩:∃ wB:B0,wB=E.bC w Is (fun d=>if d < k then e2 d else none):=⟨_,rfl⟩
 have hHd:Hd wB fo0 k:=by
  subst hwB
  refine ⟨rfl,⟨nofun,nofun,fun d x hd=>?_⟩,nofun⟩
  replace hd:(if d < k then e2 d else none)=some x:=hd
  split at hd
  ·assumption
  ·cases hd
 have hvs2:VRs e2 vs0 us:=renL_ok (fun v v2 u h hv=>SV.ren_ok (fun b c hbc=>hmem b c (toNew_mem hbc)) renF h hv) hvs hvs0
 have hlen:us.length=vs0.length:=(hvs2.length).symm
 have hOwn:Own wB e2 ⟨addZ .e 0 bs0,k,xz⟩ w GlB:=by
  subst hwB
  refine ⟨BlI.refl,fun d x hd=>?_,fun c _ hi=>.inl (by show Is c;rw [hIs];exact hi)⟩
  replace hd:(if d < k then e2 d else none)=some x:=hd
  split at hd
  ·exact hd
  ·cases hd
 have hcall:=H wB hHd e2 GlB us (by subst hwB;exact hR2.bC) hvs2 (by have:=hOwn;subst hwB;exact this)
 have hw00:wB.w=w:=by rw [hwB];rfl
 rw [hw00] at hcall
 refine hcall.mono ?_
 ·rintro en w' ⟨u,e',F',rfl,q2,hR',ho'⟩
  obtain ⟨M3,hM3⟩:∃ M3,M3=addZ .e 0 es:=⟨_,rfl⟩
  obtain ⟨ρ,hρ0⟩:∃ ρ,ρ=rhoZ lv nx k n:=⟨_,rfl⟩
  rw [← hM3] at hR' ho'
  rw [← hρ0] at hv hm'
  have hρc:∀ {d c},ρ d=some c→lv[d]?=some c∨(k≤d∧d < n∧c=nx + (d - k)):=fun {d c} h=>by
   rw [hρ0,hkk] at h
   rw [hkk]
   exact rhoZ_cases h
  have hbn:∀ b∈lv,b < nx:=fun b hb=>by
   cases hq:e b with
   | none=>exact absurd hq (hey b hb)
   | some x=>exact hR.dom b x hq
  have hid:∀ {b i},lv[i]?=some b→e' i=e b:=fun {b i} hp=>by
   cases hq:e b with
   | none=>exact absurd hq (hey b (List.mem_of_getElem? hp))
   | some x =>
    refine ho'.id i x ?_
    rw [hwB]
    show (if i < k then e2 i else none)=some x
    rw [if_pos (by rw [hkk];exact (List.getElem?_eq_some_iff.1 hp).1),hmem b i (hin hp),hq]
  obtain ⟨E',hE'⟩:∃ E':Env,E'=fun d=>if d < nx then e d else if d < nx + (n - k) then e' (d - nx + k) else none:=⟨_,rfl⟩
  have hE1:∀ d,d < nx→E' d=e d:=fun d hd=>by rw [hE'];simp only [if_pos hd]
  have hE2:∀ i,i < n - k→E' (nx + i)=e' (i + k):=fun i hi=>by rw [hE'];simp only [if_neg (show ¬ nx + i < nx by omega),if_pos (show nx + i < nx + (n - k) by omega),show nx + i - nx=i by omega]
  have hle:e.le E':=fun d x hd=>(hE1 d (hR.dom d x hd)).trans hd
  have hρ:∀ d c,ρ d=some c→E' c=e' d:=fun d c hd=>by
   rcases hρc hd with h1 | ⟨r1,r2,rfl⟩
   ·exact (hE1 _ (hbn c (List.mem_of_getElem? h1))).trans (hid h1).symm
   ·rw [hE2 _ (by omega),show d - k + k=d by omega]
  -- which blocks there are now
  have hcl:∀ c q,m'.get c=some q→(∃ d k3,M3.get d=some k3∧SB.ren ρ k3=some q∧ρ d=some c)∨(c < nx∧c ∉ lv∧m.get c=some q):=fun c q hq=>by
   rcases updZ_get hm' c with ⟨d,q0,h1,h2,h3⟩ | ⟨h1,h2⟩
   ·rw [Nat.zero_add] at h2
    rcases h3 with h3 | ⟨q1,k1,r1,r2,r3⟩
    ·rw [hq] at h3;cases h3
    ·rw [hq] at r3;cases r3
     refine .inl ⟨d,q1,?_,r2,h2⟩
     rw [hM3,show d=0 + d by omega,addZ_in es .e 0 (by omega) d q0 h1,r1]
   ·rw [h2] at hq
    refine .inr ⟨hR.old c q hq,fun hc=>?_,hq⟩
    obtain ⟨i,hi⟩:=List.getElem?_of_mem hc
    have hik:i < k:=by rw [hkk];exact (List.getElem?_eq_some_iff.1 hi).1
    refine h1 i (by omega) ?_
    rw [Nat.zero_add,hρ0]
    unfold rhoZ
    rw [hi]
  have hbl':=ho'.bl
  have him:=ho'.im
  have hRx:HXR wB e' xz w' F':=hR'.ext
  have hw0:wB.w=w:=by rw [hwB];rfl
  have hI0:wB.I=Is:=by rw [hwB];rfl
  have hFx:∀ d,Fix wB d↔GlB d:=fun d=>by rw [hwB];exact bC_fix d
  have hF':∀ d,F' d↔GlB d:=fun d=>(hRx.iff d).trans (hFx d)
  have hat:∀ d,d < w.heap.size→¬ Is d→w'.heap[d]?=w.heap[d]?:=fun d hd hn=>by
   have:=hbl'.at_ d (by rw [hw0];exact hd) (by rw [hI0];exact hn)
   rw [this,hw0]
  have himI:∀ d,d < w.heap.size→Im e' ⟨M3,n,xz⟩ F' d→Is d∨GlB d:=fun d hd hi=>by
   rcases him d (by rw [hw0];exact hd) hi with h1 | h1
   ·left;rw [hI0] at h1;exact h1
   ·exact .inr ((hFx d).1 h1)
  have hsz:w.heap.size≤w'.heap.size:=by have:=hbl'.sz;rw [hw0] at this;exact this
  have hlt0:∀ d,Fix w0 d→d < w.heap.size:=fun d hd=>(HL w0).lt _ _ _ _ hR.ext d (hFix d hd)
  -- a block of the callee's: where it lies
  have hnew:∀ d k3 cc o z,M3.get d=some k3→e' d=some (cc,o,z)→(cc < w.heap.size→Is cc)∧¬ Fix w0 cc:=fun d k3 cc o z r1 r2=>by
   have hnF:=(hR'.blk d k3 cc o z r1 r2).1
   have hI:cc < w.heap.size→Is cc:=fun hlt=>by
    rcases himI cc hlt (.inr ⟨d,k3,o,z,r1,r2⟩) with h1 | h1
    ·exact h1
    ·exact absurd ((hF' cc).2 h1) hnF
   exact ⟨hI,fun hf=>hnoF cc hf (fun h0=>hnF ((hF' cc).2 h0)) (hI (hlt0 cc hf))⟩
  have hRF:Rl (HL w0) E' ⟨m',nx + (n - k),x⟩ w' F:=by
   refine ⟨fun c q cc o z r1 r2=>?_,fun x1 x2 b1 b2 c o z c' o' z' r1 r2 r3 r4 r5 r6=>?_,fun c q r1=>?_,fun c x r1=>?_,fun x1 b1 r1 r2 y1 r3=>?_,HXR.mk0 ⟨hRE.1.1,fun d hd=>?_,Nat.le_trans hRE.1.2.2.1 hsz,hRE.1.2.2.2.mono hle⟩ hFi⟩
   ·rcases hcl c q r1 with ⟨d,k3,s1,s2,s3⟩ | ⟨s1,s2,s3⟩
    ·rw [hρ d c s3] at r2
     obtain ⟨t2,t3⟩:=hnew d k3 cc o z s1 r2
     exact ⟨fun hff=>t3 ((hFi cc).1 hff),SB.ren_ok hρ s2 (hR'.blk d k3 cc o z s1 r2).2⟩
    ·rw [hE1 c s1] at r2
     obtain ⟨t1,t2⟩:=hR.blk c q cc o z s3 r2
     exact ⟨t1,t2.keep hle (hat cc t2.lt (hno c q cc o z s3 r2 s2))⟩
   ·rcases hcl x1 b1 r1 with ⟨d,k3,s1,s2,s3⟩ | ⟨s1,s2,s3⟩
    ·rw [hρ d x1 s3] at r5
     rcases hcl x2 b2 r2 with ⟨d',k3',s1',s2',s3'⟩ | ⟨s1',s2',s3'⟩
     ·rw [hρ d' x2 s3'] at r6
      obtain ⟨q1,q2,q3⟩:=SB.ren_wr s2
      obtain ⟨q1',q2',q3'⟩:=SB.ren_wr s2'
      rcases hR'.dis d d' k3 k3' c o z c' o' z' s1 s1' (fun hq=>r3 (by rw [hq,s3'] at s3;exact (Option.some.inj s3).symm)) (by rw [← q1];exact r4) r5 r6 with t | ⟨t1,t2,t3⟩
      ·exact .inl t
      ·exact .inr ⟨q3 _ _ s3' t1,by rw [q1'];exact t2,by rw [q2,q2'];exact t3⟩
     ·rw [hE1 x2 s1'] at r6
      refine .inl fun hq=>?_
      subst hq
      have:=(hR.blk x2 b2 c o' z' s3' r6).2.lt
      exact hno x2 b2 c o' z' s3' r6 s2' ((hnew d k3 c o z s1 r5).1 this)
    ·rw [hE1 x1 s1] at r5
     rcases hcl x2 b2 r2 with ⟨d',k3',s1',s2',s3'⟩ | ⟨s1',s2',s3'⟩
     ·rw [hρ d' x2 s3'] at r6
      refine .inl fun hq=>?_
      subst hq
      have:=(hR.blk x1 b1 c o z s3 r5).2.lt
      exact hno x1 b1 c o z s3 r5 s2 ((hnew d' k3' c o' z' s1' r6).1 this)
     ·rw [hE1 x2 s1'] at r6
      exact hR.dis x1 x2 b1 b2 c o z c' o' z' s3 s3' r3 r4 r5 r6
   ·rcases hcl c q r1 with ⟨d,k3,s1,s2,s3⟩ | ⟨s1,s2,s3⟩
    ·show c < nx + (n - k)
     rcases hρc s3 with h1 | ⟨h0,h1,h2⟩
     ·have:=hbn c (List.mem_of_getElem? h1);omega
     ·omega
    ·exact Nat.lt_of_lt_of_le s1 (Nat.le_add_right _ _)
   ·show c < nx + (n - k)
    rw [hE'] at r1
    simp only at r1
    split at r1
    ·omega
    ·split at r1
     ·assumption
     ·cases r1
   ·rcases hcl x1 b1 r1 with ⟨d,k3,s1,s2,s3⟩ | ⟨s1,s2,s3⟩
    ·rw [hρ d x1 s3] at r2
     obtain ⟨d',t1,t2⟩:=SB.ren_sib s2 y1 r3
     rw [hρ _ _ t2]
     exact hR'.sib d k3 s1 r2 d' t1
    ·rw [hE1 x1 s1] at r2
     have h3:=hR.sib x1 b1 s3 r2 y1 r3
     intro hn
     cases hq:e y1 with
     | none=>exact h3 hq
     | some x=>rw [hle y1 x hq] at hn;cases hn
   ·refine Eq.trans ?_ (hRE.1.2.1 d hd)
    by_cases h0:GlB d
    ·have:=hRx.1.2.1 d ((hFx d).2 h0)
     rw [this,hw0]
    ·exact hat d (hlt0 d hd) (hnoF d hd h0)
  have hN:Nxt nx e ⟨m,nx,x⟩ w F E' ⟨m',nx + (n - k),x⟩ w' F:=by
   have q1:=hbl'.os
   have q2:=hbl'.tape
   have q3:=hbl'.output
   rw [hw0] at q1 q2 q3
   refine ⟨hle,q1,q2,q3,hsz,fun d hd hi=>hat d hd fun h1=>hi (hIF d hd h1),fun d hd hi=>?_,fun c hc he=>⟨(hE1 c hc).trans he,fun _=>?_⟩,Nat.le_add_right _ _⟩
   ·rcases hi with hi | ⟨c,q,o,z,r1,r2⟩
    ·exact .inl hi
    ·rcases hcl c q r1 with ⟨d',k3,s1,s2,s3⟩ | ⟨s1,s2,s3⟩
     ·rw [hρ d' c s3] at r2
      exact hIF d hd ((hnew d' k3 d o z s1 r2).1 hd)
     ·rw [hE1 c s1] at r2
      exact .inr ⟨c,q,o,z,s3,r2⟩
   ·have hcl2:c ∉ lv:=fun hq=>hey c hq he
    rcases updZ_get hm' c with ⟨d,q0,h1,h2,h3⟩ | ⟨h1,h2⟩
    ·rw [Nat.zero_add] at h2
     rcases hρc h2 with h4 | ⟨h4,h5,h6⟩
     ·exact absurd (List.mem_of_getElem? h4) hcl2
     ·omega
    ·exact h2
  have hvu:VR E' v u:=SV.ren_ok hρ renF hv q2
  exact ⟨u,E',F,rfl,hvu,hRF,hN⟩
def eqNL:List Nat→List Nat→Bool
 | [],[]=>true
 | a :: s,b :: t=>Nat.beq a b && eqNL s t
 | _,_=>false
theorem eqNL_ok:∀ {s t:List Nat},eqNL s t=true→s=t
 | [],[],_=>rfl
 | a :: s,b :: t,h=>by
  simp only [eqNL,Bool.and_eq_true] at h
  rw [Nat.eq_of_beq_eq_true h.1,eqNL_ok h.2]
 | [],_ :: _,h=>by cases h
 | _ :: _,[],h=>by cases h
def eqPL:List (SV × SV)→List (SV × SV)→Bool
 | [],[]=>true
 | a :: s,b :: t=>SV.beq a.1 b.1 && SV.beq a.2 b.2 && eqPL s t
 | _,_=>false
theorem eqPL_ok:∀ {s t:List (SV × SV)},eqPL s t=true→s=t
 | [],[],_=>rfl
 | a :: s,b :: t,h=>by
  simp only [eqPL,Bool.and_eq_true] at h
  rw [show a=b from Prod.ext (SV.beq_ok h.1.1) (SV.beq_ok h.1.2),eqPL_ok h.2]
 | [],_ :: _,h=>by cases h
 | _ :: _,[],h=>by cases h
def SB.beq (a b:SB):Bool:=match a with
 | .cells c ro s t=>match b with
  | .cells c2 ro2 s2 t2=>beqL SV.beq fuelL c c2 && (ro == ro2) && eqNL s s2 && optEq t t2
  | _=>false
 | .map es=>match b with
  | .map es2=>eqPL es es2
  | _=>false
 | .emp=>match b with
  | .emp=>true
  | _=>false
 | _=>false
theorem SB.beq_ok {a b:SB} (h:SB.beq a b=true):a=b:=by
 unfold SB.beq at h
 split at h
 ·split at h
  ·simp only [Bool.and_eq_true] at h
   obtain ⟨⟨⟨h1,h2⟩,h3⟩,h4⟩:=h
   rw [beqL_ok (fun a b h=>SV.beq_ok h) _ h1,eq_of_beq h2,eqNL_ok h3,optEq_ok h4]
  ·cases h
 ·split at h
  ·rw [eqPL_ok h]
  ·cases h
 ·split at h
  ·rfl
  ·cases h
 ·cases h
def chkB (ρ:Nat→Option Nat) (m:T SB) (b:Nat) (q:Option SB):Bool:=match m.get b with
 | none=>(match q with | none=>true | some _=>false)
 | some q0=>q0.wr && (match q0.sib with | []=>true | _=>false) && (match SB.ren ρ q0 with
  | some q1=>(match q with | some q2=>SB.beq q1 q2 | none=>false)
  | none=>false)
def chkZ (ρ:Nat→Option Nat) (m:T SB):List Nat→List (Option SB)→Bool
 | [],[]=>true
 | b :: s,q :: t=>chkB ρ m b q && chkZ ρ m s t
 | _,_=>false
theorem chkZ_ok {ρ:Nat→Option Nat} {m:T SB}:∀ {lv:List Nat} {bs:List (Option SB)},chkZ ρ m lv bs=true→lv.length=bs.length∧∀ (i b:Nat),lv[i]?=some b→∃ q,bs[i]?=some q∧chkB ρ m b q=true
 | [],[],_=>⟨rfl,fun i b h=>by simp at h⟩
 | b :: s,q :: t,h=>by
  simp only [chkZ,Bool.and_eq_true] at h
  obtain ⟨h1,h2⟩:=chkZ_ok h.2
  refine ⟨by simp [h1],fun i b' hi=>?_⟩
  cases i with
  | zero=>simp at hi;subst hi;exact ⟨q,rfl,h.1⟩
  | succ i=>simpa using h2 i b' (by simpa using hi)
 | [],_ :: _,h=>by cases h
 | _ :: _,[],h=>by cases h
theorem chkB_ok {ρ:Nat→Option Nat} {m:T SB} {b:Nat} {q:Option SB} (h:chkB ρ m b q=true):(m.get b=none∧q=none)∨∃ q0 q1,m.get b=some q0∧q0.wr=true∧q0.sib=[]∧SB.ren ρ q0=some q1∧q=some q1:=by
 unfold chkB at h
 split at h
 ·rename_i hm
  split at h
  ·exact .inl ⟨hm,rfl⟩
  ·cases h
 ·rename_i q0 hm
  simp only [Bool.and_eq_true] at h
  obtain ⟨⟨h1,h2⟩,h3⟩:=h
  split at h2
  ·rename_i hs
   split at h3
   ·rename_i q1 hr
    split at h3
    ·exact .inr ⟨q0,q1,hm,h1,hs,hr,by rw [SB.beq_ok h3]⟩
    ·cases h3
   ·cases h3
  ·cases h2
theorem gcM_of {ρ:Nat→Option Nat} {m:T SB} {nx:Nat}:∀ {l:Live},liveOk nx l=true→(∀ p∈l,m.get p.1=none∨∃ q0 q1,m.get p.1=some q0∧SB.ren ρ q0=some q1) →
  ∃ M,gcM ρ m l=some M∧∀ c,(∀ b,(b,c) ∉ l)∧M.get c=none∨∃ b,(b,c)∈l∧((m.get b=none∧M.get c=none)∨∃ q0 q1,m.get b=some q0∧SB.ren ρ q0=some q1∧M.get c=some q1)
 | [],_,_=>⟨.e,rfl,fun c=>.inl ⟨(fun b h=>by cases h),(by simp)⟩⟩
 | p :: t,hl,h=>by
  obtain ⟨h1,h2,h3⟩:=liveOk_cons hl
  obtain ⟨M,g1,g2⟩:=gcM_of h3 fun q hq=>h q (List.mem_cons_of_mem _ hq)
  have hold:∀ c,c≠p.2→(∀ b,(b,c) ∉ t)∧M.get c=none→(∀ b,(b,c) ∉ p :: t):=fun c hc hh b hb=>by
   rcases List.mem_cons.1 hb with hb | hb
   ·exact hc (by rw [← hb])
   ·exact hh.1 b hb
  unfold gcM
  rcases h p (List.mem_cons_self ..) with hm | ⟨q0,q1,hm,hr⟩
  ·rw [hm]
   refine ⟨M,g1,fun c=>?_⟩
   by_cases hc:c=p.2
   ·subst hc
    refine .inr ⟨p.1,List.mem_cons_self ..,.inl ⟨hm,?_⟩⟩
    rcases g2 p.2 with ⟨-,k⟩ | ⟨b,k,-⟩
    ·exact k
    ·exact absurd rfl (h2 _ k).2
   ·rcases g2 c with k | ⟨b,k1,k2⟩
    ·exact .inl ⟨hold c hc k,k.2⟩
    ·exact .inr ⟨b,List.mem_cons_of_mem _ k1,k2⟩
  ·rw [hm]
   simp only [hr,g1]
   refine ⟨_,rfl,fun c=>?_⟩
   rw [T.get_upd _ _ h1.2]
   by_cases hc:c=p.2
   ·subst hc
    rw [if_pos rfl]
    exact .inr ⟨p.1,List.mem_cons_self ..,.inr ⟨q0,q1,hm,hr,rfl⟩⟩
   ·rw [if_neg hc]
    rcases g2 c with k | ⟨b,k1,k2⟩
    ·exact .inl ⟨hold c hc k,k.2⟩
    ·exact .inr ⟨b,List.mem_cons_of_mem _ k1,k2⟩
def xZ (vs0:List SV) (bs0 es:List (Option SB)) (v0:SV):ExtF:=fun vs st=>match bfs st.m 200 (vs.flatMap (refsV renF)) [] with
 | lv=>bif chkZ (toNew lv.zipIdx) st.m lv bs0 && liveOk lv.length lv.zipIdx then (match renL (SV.ren (toNew lv.zipIdx) renF) vs with
   | some l=>bif beqL SV.beq fuelL l vs0 then (match SV.ren (rhoZ lv st.nx lv.length es.length) renF v0 with
    | some v=>(match updZ (rhoZ lv st.nx lv.length es.length) es 0 st.m with
     | some m'=>some (v,⟨m',Nat.add st.nx (Nat.sub es.length lv.length),st.x⟩)
     | none=>none)
    | none=>none) else none
   | none=>none) else none
theorem xZ_ok {f:Nat} {bs0 es:List (Option SB)} {vs0:List SV} {v0:SV} (hk:bs0.length≤es.length) (hkM:es.length≤TMax) (H:CallZ f vs0 bs0 es v0) :
  ExtOk f (xZ vs0 bs0 es v0):=fun w0 vs st v st' h=>by
 obtain ⟨m,nx,x⟩:=st
 unfold xZ at h
 simp only at h
 obtain ⟨lv,hlv⟩:∃ lv,lv=bfs m 200 (vs.flatMap (refsV renF)) []:=⟨_,rfl⟩
 rw [← hlv] at h
 cases hb:chkZ (toNew lv.zipIdx) m lv bs0 && liveOk lv.length lv.zipIdx with
 | false=>rw [hb] at h;cases h
 | true =>
  rw [hb,cond_true] at h
  simp only [Bool.and_eq_true] at hb
  obtain ⟨hb1,hb2⟩:=hb
  split at h
  ·rename_i l hrl
   cases hb3:beqL SV.beq fuelL l vs0 with
   | false=>rw [hb3] at h;cases h
   | true =>
    rw [hb3,cond_true] at h
    have hl0:=beqL_ok (fun a b h=>SV.beq_ok h) _ hb3
    subst hl0
    split at h
    ·rename_i v' hv
     split at h
     ·rename_i m' hm'
      cases h
      intro hg
      refine ⟨hg,fun e w F us hR hvs=>?_⟩
      obtain ⟨hlen,hchk⟩:=chkZ_ok hb1
      have hey:∀ b∈lv,e b≠none:=by
       rw [hlv]
       exact bfs_some hR 200 _ _ (fun b hb=>refs_list (fun h hb=>refsV_some _ h hb) hvs hb) nofun
      have hall:∀ p∈lv.zipIdx,m.get p.1=none∨∃ q0 q1,m.get p.1=some q0∧SB.ren (toNew lv.zipIdx) q0=some q1:=fun p hp=>by
       obtain ⟨q,-,h2⟩:=hchk p.2 p.1 (zip_mem hp)
       rcases chkB_ok h2 with ⟨h3,-⟩ | ⟨q0,q1,h3,-,-,h4,-⟩
       ·exact .inl h3
       ·exact .inr ⟨q0,q1,h3,h4⟩
      obtain ⟨M0,g1,g2⟩:=gcM_of hb2 hall
      have hgc:gc lv.zipIdx [] lv.length .e ⟨m,nx,x⟩=some (.e,⟨M0,lv.length,xz⟩):=by
       unfold E.gc
       rw [hb2,cond_true]
       obtain ⟨h0,cnt,sc,pc,rc⟩:=x
       have hh0:h0=none:=by cases h0 with | none=>rfl | some p=>exact p.2.elim
       subst hh0
       simp only [g1,gcT,gcX]
      have hM0:∀ d,M0.get d=(addZ .e 0 bs0).get d:=fun d=>by
       by_cases hd:d < lv.length
       ·obtain ⟨q,r1,r2⟩:=hchk d lv[d] (List.getElem?_eq_getElem hd)
        have e1:=addZ_in bs0 .e 0 (by omega) d q r1
        rw [Nat.zero_add] at e1
        rw [e1]
        rcases g2 d with ⟨k1,-⟩ | ⟨b,k1,k2⟩
        ·exact absurd (mem_zip (List.getElem?_eq_getElem hd)) (k1 _)
        ·have hbb:=zip_mem k1
         rw [List.getElem?_eq_getElem hd] at hbb
         cases hbb
         rcases chkB_ok r2 with ⟨h3,h4⟩ | ⟨q0,q1,h3,-,-,h4,h5⟩
         ·rcases k2 with ⟨k3,k4⟩ | ⟨q0,q1,k3,k4,k5⟩
          ·rw [k4,h4]
          ·rw [h3] at k3;cases k3
         ·rcases k2 with ⟨k3,k4⟩ | ⟨q0',q1',k3,k4,k5⟩
          ·rw [h3] at k3;cases k3
          ·rw [h3] at k3;cases k3
           rw [h4] at k4;cases k4
           rw [k5,h5]
       ·rw [addZ_out bs0 .e 0 d (.inr (by omega))]
        rcases g2 d with ⟨-,k1⟩ | ⟨b,k1,-⟩
        ·rw [k1];simp
        ·exact absurd (List.getElem?_eq_some_iff.1 (zip_mem k1)).1 hd
      exact callZ_of hk hkM H hlen hgc hM0 hey (fun b hb q hq=>by
       obtain ⟨i,hi⟩:=List.getElem?_of_mem hb
       obtain ⟨q',-,r2⟩:=hchk i b hi
       rcases chkB_ok r2 with ⟨h3,-⟩ | ⟨q0,q1,h3,h4,h5,-,-⟩
       ·rw [hq] at h3;cases h3
       ·rw [hq] at h3;cases h3;exact ⟨h4,h5⟩) hrl hv hm' hR hvs
     ·cases h
    ·cases h
  ·cases h
def orX (a b:ExtF):ExtF:=fun vs st=>match a vs st with
 | some r=>some r
 | none=>b vs st
theorem orX_ok {f:Nat} {a b:ExtF} (ha:ExtOk f a) (hb:ExtOk f b):ExtOk f (orX a b):=fun w0 vs st v st' h=>by
 unfold orX at h
 split at h
 ·rename_i r hr;cases h;exact ha w0 _ _ _ _ hr
 ·exact hb w0 _ _ _ _ h
end
section
set_option maxRecDepth 100000
open Go.RowKit
def kwText:List UInt8:=[78,111,110,101,32,84,114,117,101,32,70,97,108,115,101,32,97,110,100,32,111,114,32,110,111,116,32,105,102,32,101,108,115,101,32,101,108,105,102,32,119,104,105,108,101,32,102,111,114,32,105,110,32,105,115,32,98,114,101,97,107,32,99,111,110,116,105,110,117,101,32,112,97,115,115,32,100,101,102,32,99,108,97,115,115,32,114,101,116,117,114,110,32,114,97,105,115,101,32,116,114,121,32,101,120,99,101,112,116,32,97,115,32,102,105,110,97,108,108,121,32,103,108,111,98,97,108,32,110,111,110,108,111,99,97,108,32,100,101,108,32,97,115,115,101,114,116,32,121,105,101,108,100,32,108,97,109,98,100,97]
def kwF:List (List UInt8):=[[78,111,110,101],[84,114,117,101],[70,97,108,115,101],[97,110,100],[111,114],[110,111,116],[105,102],[101,108,115,101],[101,108,105,102],[119,104,105,108,101],[102,111,114],[105,110],[105,115],[98,114,101,97,107],[99,111,110,116,105,110,117,101],[112,97,115,115],[100,101,102],[99,108,97,115,115],[114,101,116,117,114,110],[114,97,105,115,101],[116,114,121],[101,120,99,101,112,116],[97,115],[102,105,110,97,108,108,121],[103,108,111,98,97,108],[110,111,110,108,111,99,97,108],[100,101,108],[97,115,115,101,114,116],[121,105,101,108,100],[108,97,109,98,100,97]]
def strsS:List (List UInt8)→List SV
 | []=>[]
 | s :: t=>.str s :: strsS t
theorem strsS_ok (e:Env):∀ l:List (List UInt8),VRs e (strsS l) (l.map fun f=>Value.string (bs f))
 | []=>.nil
 | s :: t=>.cons (.str s) (strsS_ok e t)
theorem strsS_one:∀ l:List (List UInt8),(strsS l).all SV.one=true
 | []=>rfl
 | s :: t=>by rw [strsS,List.all_cons,strsS_one t];rfl
def xFields:ExtF:=fun vs st=>match vs with
 | [.str s]=>bif eqB s kwText && Nat.blt st.nx TMax then some (.sl st.nx 0 30 1 (some 30),st.add (.cells (strsS kwF) false [] (some 9))) else none
 | _=>none
theorem kwFields (w:World) (hw:Gl w):Calls Tryz.prog 169 #[.string (bs kwText)] w fun e w'=>e=.returned (.slice (some ⟨w.heap.size,0,none⟩) 30 30)∧w'=w.alloc (.cells (kwF.map fun f=>Value.string (bs f)).toArray 9):=by
 have h:=Tryz.strings_Fields_laid (bs kwText) w (show kwText.toArray.size < 4294967281 from by rw [List.size_toArray];exact of_decide_eq_true (by kernel_rfl)) (by
  intro j b hj
  have hall:kwText.all (fun b=>decide (b.toNat < 128))=true:=by kernel_rfl
  exact of_decide_eq_true (List.all_eq_true.1 hall b (List.mem_of_getElem? hj))) hw.tab
 have e1:Go.Lib.fields (Array.toList (ByteArray.data (bs kwText)))=kwF:=by kernel_rfl
 rw [e1] at h
 exact h
theorem xFields_ok:ExtOk 169 xFields:=fun w0 vs st v st' h=>by
 unfold xFields at h
 split at h
 ·rename_i s
  cases hb:eqB s kwText && Nat.blt st.nx TMax with
  | false=>rw [hb] at h;cases h
  | true =>
   rw [hb] at h;cases h
   simp only [Bool.and_eq_true,Nat.blt_eq] at hb
   obtain ⟨h1,h2⟩:=hb
   rw [eqB_ok] at h1
   have h1:=of_decide_eq_true h1
   subst h1
   intro hg
   refine ⟨hg,fun e w F us hR hvs=>?_⟩
   cases hvs with
   | cons v1 v2 =>
    cases v2
    cases v1
    have hGl:Gl w:=HXR.gl (w0:=w0) (e:=e) (x:=st.x) (F:=F) hR.ext
    refine (kwFields w hGl).mono ?_
    rintro en w' ⟨rfl,rfl⟩
    obtain ⟨R1,N1⟩:=hR.fresh h2 (k:=.cells (strsS kwF) false [] (some 9)) rfl (obj:=.cells (kwF.map fun f=>Value.string (bs f)).toArray 9) (newBlk (by simpa using strsS_ok e kwF) (Env.le_put hR.none _) (strsS_one kwF))
    refine ⟨_,_,F,rfl,?_,R1,N1⟩
    have hz:(kwF.map fun f=>Value.string (bs f)).toArray.size=30:=by simp [kwF]
    have:=VR.sl (e:=e.put st.nx (w.heap.size,0,(kwF.map fun f=>Value.string (bs f)).toArray.size)) (b:=st.nx) (off:=0) (len:=30) (esz:=1) (cap:=30) (ck:=some 30) (Env.put_same _ _ _) (Nat.le_refl _) (by rw [hz];omega) (by simp only [maxLen];omega) (.inr rfl)
    simpa using this
 ·cases h
end
section
set_option maxRecDepth 100000
open Go.RowKit
def nodeZ (op:Nat) (s:List UInt8) (n:Nat) (kb k:Nat):List SV:=[.int .i64 (Int.ofNat op),.int .i64 0,.str s,.int .i64 (Int.ofNat n),match k with | 0=>.nils | _=>.sl kb 0 k 1 (some k)]
def kidZ (l:List Nat):Option SB:=some (.cells (l.map fun n=>.int .i64 (Int.ofNat n)) false [] (some 3))
def ndA (o:Nat):Option SB:=some (.cells (nodeZ 6 [120] 0 0 0++nodeZ 4 [] 1 0 0++nodeZ 4 [] 2 0 0++nodeZ 12 [43] 0 (Nat.add o 1) 2++nodeZ 43 [] 0 (Nat.add o 2) 2++nodeZ 40 [] 0 (Nat.add o 3) 1) false [] (some 25))
def kdA:List (Option SB):=[kidZ [1,2],kidZ [0,3],kidZ [4]]
def tA:List (Option SB):=ndA 0 :: kdA
def ndB (o:Nat):Option SB:=some (.cells (nodeZ 6 [102] 0 0 0++nodeZ 17 [] 0 (Nat.add o 1) 1++nodeZ 42 [] 0 (Nat.add o 2) 1++nodeZ 41 [] 0 (Nat.add o 3) 1++nodeZ 51 [102] 0 (Nat.add o 4) 1++nodeZ 6 [102] 0 0 0++nodeZ 17 [] 0 (Nat.add o 5) 1++nodeZ 42 [] 0 (Nat.add o 6) 1++nodeZ 40 [] 0 (Nat.add o 7) 2) false [] (some 25))
def kdB:List (Option SB):=[kidZ [0],kidZ [1],kidZ [2],kidZ [3],kidZ [5],kidZ [6],kidZ [4,7]]
def tB:List (Option SB):=ndB 0 :: kdB
def vA:SV:=.sl 0 0 6 5 (some 6)
def vB:SV:=.sl 0 0 9 5 (some 9)
def ext1:ExtT:=fun f=>bif Nat.beq f 169 then some xFields else none
theorem ext1_ok:∀ f h,ext1 f=some h→extP f h:=fun f h hf=>by
 unfold ext1 at hf
 cases hb:Nat.beq f 169 with
 | true=>rw [hb] at hf;cases hf;rw [Nat.eq_of_beq_eq_true hb];exact ⟨callable_of (by kernel_rfl),xFields_ok⟩
 | false=>rw [hb] at hf;cases hf
theorem kwZ_f:CallZ 100 [.str [102]] [] [] (.bool false):=CallZ.run (live:=[]) ext1_ok (K:=100000) (n:=100) (by kernel_rfl) (fun b hb=>absurd hb (Nat.not_lt_zero b))
theorem kwZ_x:CallZ 100 [.str [120]] [] [] (.bool false):=CallZ.run (live:=[]) ext1_ok (K:=100000) (n:=100) (by kernel_rfl) (fun b hb=>absurd hb (Nat.not_lt_zero b))
end
section
set_option maxRecDepth 100000
open Go.RowKit
def iz (n:Nat):SV:=.int .i64 (Int.ofNat n)
def vz:List SV:=[iz 0,iz 0,.str []]
def clZ (l:List SV) (ty:Nat):Option SB:=some (.cells l false [] (some ty))
def frN (i:Nat):Nat:=match i with | 0=>21 | i + 1=>Nat.add 33 (Nat.mul 14 i)
def taskZ (f:SV):List SV:=[f,.nilf,iz 0,iz 0,.str []]
def mapZ:Option SB:=some (.map [(iz 10,iz 2),(iz 12,iz 3),(iz 13,iz 4),(iz 17,iz 30),(iz 18,iz 8),(iz 19,iz 11),(iz 20,iz 14)])
def frZ (B:Nat) (n:Nat) (kb nd:Nat) (lo bo:SV) (tt tv:Nat):List (Option SB):=[
 clZ ([iz n,.sl (Nat.add B 1) 0 tt 5 none,.sl (Nat.add B 2) 0 tv 3 none,lo,.nils,.nils,bo]++vz++vz++[iz 0,iz 0,.nilp,.bool false]) 63,
 clZ (taskZ (.fn 109 [] [.ptr (Nat.add B 3) 0])++taskZ (.fn 218 [] [.ptr (Nat.add B 4) 0,.ptr (Nat.add B 5) 0,.ptr (Nat.add B 6) 0,.ptr (Nat.add B 7) 0,.ptr (Nat.add B 8) 0])++taskZ (.fn 182 [] [.ptr (Nat.add B 9) 0,.ptr (Nat.add B 10) 0])) 95,
 clZ [iz 4,iz 1,.str []] 35,
 clZ [.ptr B 0] 58,clZ [.ptr 10 0] 53,clZ [.map (Nat.add B 11)] 198,clZ [iz 17,iz 0,.str [],iz 0,.sl kb 0 1 1 (some 1)] 25,clZ [.ptr B 0] 58,clZ [iz 1] 3,
 clZ [.ptr 10 0] 53,clZ [iz nd] 3,mapZ]
def frI (i:Nat) (tt tv:Nat):List (Option SB):=match i with
 | 0=>frZ 21 0 6 5 .nils .nils tt tv
 | i + 1=>frZ (frN (i + 1)) 1 2 0 (.sl (Nat.add (frN (i + 1)) 12) 0 0 3 (some 0)) (.sl (Nat.add (frN (i + 1)) 13) 0 0 1 (some 0)) tt tv++[clZ [] 35,clZ [] 4]
def frsZ (tt:Nat):Nat→Nat→List (Option SB)
 | 0,_=>[]
 | k + 1,i=>frI i tt 0++frsZ tt k (Nat.add i 1)
def ptrsZ:Nat→Nat→List SV
 | 0,_=>[]
 | k + 1,i=>.ptr (frN i) 0 :: ptrsZ k (Nat.add i 1)
def s15:SV:=.str [49,53,32,102]
def s30:SV:=.str [51,48,32,32,52,49]
def logT:Nat→List SV
 | 0=>[]
 | k + 1=>s30 :: s15 :: logT k
def log0:List SV:=[.str [49,56,32,102,32,50,49,32,50,48,32,50,48],.str [49,54,32,102,32,52,49]]
def toyZ (a n:Nat):Option SB:=clZ [.sl a 0 n 1 none,iz 0,.sl (Nat.add a 1) 0 1 13 none,.sl (Nat.add a 2) 0 1 1 none,.sl (Nat.add a 3) 0 1 3 none] 45
def thingZ (d c:Nat):Option SB:=clZ ([iz 4,iz 1,iz 0,iz 0,.str [102],.sl d 0 0 3 (some 0),.sl c 0 0 3 (some 0),.nils,.nils,.nils]++vz) 254
def scoZ (a b:Nat):Option SB:=clZ [iz 1,iz 8,.int .i64 (Int.negSucc 0),.str [],.nils,.nils,.nils,.nils,.sl a 0 1 1 none,.bool false,iz 2,iz 4,iz 0,.str [102],.nils,.nils,.nils,.nils,.sl b 0 1 1 none,.bool false] 82
def wZ:SV:=.iface 31 (.agg [.ptr 1 0,.nilp])
def capZ (j:Nat):Option Nat:=match j with | 0=>some 1 | _=>none
def basZ (j n k:Nat) (b:Int) (ov:Bool) (rs:List SV) (lg:List SV):List (Option SB):=ndB 1 :: toyZ 11 n :: kdB++[clZ ([iz 0]++vz) 37,
 clZ ([vB,.sl 15 0 2 10 none,wZ,.int .i64 b,.sl 16 0 k 1 (capZ j),.nils,.bool ov]++rs) 57,clZ lg 9,thingZ 17 18,clZ [.str [102]] 9,clZ [iz 4,iz 1,.str []] 35,scoZ 19 20,clZ (ptrsZ (Nat.add j 1) 0) 58,clZ [] 35,clZ [] 35,clZ [.str [102]] 9,clZ [.str [102]] 9]
def nZ (j:Nat):Nat:=Nat.add 33 (Nat.mul 14 j)
def tmZ:T SV:=mkT [(6,.ptr 9 0),(10,.ptr 10 0)]
def sZ (j:Nat) (b:Int):SS:=(tmZ,⟨addZ .e 0 (basZ j (Nat.add 3 (Nat.mul 2 j)) (Nat.add j 1) b false ([iz 0]++vz) (log0++(s15 :: logT j))++frsZ 1 j 0++frI j 2 1),nZ j,xz⟩)
def eZ (j:Nat):SS:=(tmZ,⟨addZ .e 0 (basZ j (Nat.add 4 (Nat.mul 2 j)) (Nat.add j 1) (Int.ofNat 0) true ([iz 2]++vz) (log0++((s15 :: logT j)++[s30]))++frsZ 1 (Nat.add j 1) 0),nZ j,xz⟩)
def recE:SV:=.str [82,101,99,117,114,115,105,111,110,69,114,114,111,114]
def s35:SV:=.str [51,53,32,82,101,99,117,114,115,105,111,110,69,114,114,111,114]
def eR (b:Int):SS:=(tmZ,⟨addZ .e 0 (basZ 59 123 0 b true [iz 1,iz 3,iz 0,recE] (log0++((s15 :: logT 59)++[s30,s35]))++frsZ 0 60 0),nZ 59,xz⟩)
def fZ (n:Nat) (rs lg:List SV):List (Option SB):=ndB 1 :: toyZ 10 n :: kdB++[clZ rs 37,clZ lg 9,thingZ 14 15,clZ [.str [102]] 9,clZ [iz 4,iz 1,.str []] 35,clZ [] 35,clZ [] 35]
def fE (j:Nat):List (Option SB):=fZ (Nat.add 4 (Nat.mul 2 j)) ([iz 2]++vz) (log0++((s15 :: logT j)++[s30]))
def vE:SV:=.agg ([iz 2]++vz)
def fR:List (Option SB):=fZ 123 [iz 1,iz 3,iz 0,recE] (log0++((s15 :: logT 59)++[s30,s35]))
def vR:SV:=.agg [iz 1,iz 3,iz 0,recE]
def fS (l:List (Option SB)):SS:=(mkT [(6,.ptr 9 0)],⟨addZ .e 0 l,l.length,xz⟩)
def toy0:Option SB:=clZ [.nils,iz 0,.nils,.nils,.nils] 45
def inZ:List (Option SB):=ndB 1 :: toy0 :: kdB
def pZ (b:Int):SS:=(tmZ,⟨addZ .e 0 (inZ++[clZ ([iz 0]++vz) 37,clZ ([vB,.sl 11 0 2 10 none,wZ,.int .i64 b,.sl 12 0 1 1 (some 1),.nils,.bool false]++([iz 0]++vz)) 57,scoZ 13 14,clZ [.ptr 15 0] 58,clZ [.str [102]] 9,clZ [.str [102]] 9,
 clZ ([iz 0,.sl 16 0 1 5 none,.nils,.nils,.nils,.nils,.nils]++vz++vz++[iz 0,iz 0,.nilp,.bool false]) 63,clZ (taskZ (.fn 27 [] [.ptr 17 0,.ptr 18 0])) 95,clZ [.ptr 10 0] 53,clZ [iz 8] 3]),19,xz⟩)
def s0Z (b:Int):SS:=(initT [vB,wZ,.int .i64 b] 0 .e,⟨addZ .e 0 inZ,9,xz⟩)
def fRun:Nat:=7
def extAdd (f:Nat) (h:ExtF) (t:ExtT):ExtT:=fun g=>bif Nat.beq g f then some h else t g
theorem extAdd_ok {f:Nat} {h:ExtF} {t:ExtT} (h1:Callable Tryz.prog f) (h2:ExtOk f h) (ht:∀ g x,t g=some x→extP g x):∀ g x,extAdd f h t g=some x→extP g x:=fun g x hg=>by
 unfold extAdd at hg
 cases hb:Nat.beq g f with
 | true=>rw [hb] at hg;cases hg;rw [Nat.eq_of_beq_eq_true hb];exact ⟨h1,h2⟩
 | false=>rw [hb] at hg;exact ht g x hg
def ext2:ExtT:=extAdd 100 (orX (xZ [.str [102]] [] [] (.bool false)) (xZ [.str [120]] [] [] (.bool false))) extE
theorem ext2_ok:∀ g x,ext2 g=some x→extP g x:=extAdd_ok (callable_of (by kernel_rfl)) (orX_ok (xZ_ok (Nat.le_refl _) (by decide) kwZ_f) (xZ_ok (Nat.le_refl _) (by decide) kwZ_x)) extE_ok
def ext3:ExtT:=extAdd 9 (orX (xZ [vA] tA tA (.bool true)) (xZ [vB] tB tB (.bool true))) ext2
def esA:List (Option SB):=tA++[clZ [iz 1,iz 5,.int .i64 (Int.negSucc 0),.str [],.nils,.nils,.nils,.nils,.sl 5 0 1 1 none,.bool false] 82,clZ [.str [120]] 9]
def voA:SV:=.tup [.sl 4 0 1 10 none,iz 0,iz 0]
def esB:List (Option SB):=tB++[scoZ 9 10,clZ [.str [102]] 9,clZ [.str [102]] 9]
def voB:SV:=.tup [.sl 8 0 2 10 none,iz 0,iz 0]
def ext4:ExtT:=extAdd 10 (orX (xZ [vA] tA esA voA) (xZ [vB] tB esB voB)) ext3
end
end Go.Proofs.YtmelcflkbfhohaaGreatDoor.W.E
