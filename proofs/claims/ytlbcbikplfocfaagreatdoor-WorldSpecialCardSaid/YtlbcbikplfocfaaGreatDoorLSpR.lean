/- LSpR -/
import Derived.Test.YtlbcbikplfocfaaGreatDoorLSpK
set_option linter.unusedVariables false
set_option linter.unusedSimpArgs false
namespace Go.Proofs.YtlbcbikplfocfaaGreatDoor.W.E
section
set_option maxRecDepth 100000
open Go.RowKit
abbrev okCl (l:List Code):Prop:=(l.all fun c=>planOkC (plan fCl) c)=true
theorem clPlA:okCl (kCl.take 3):=by delta okCl;kernel_rfl
theorem clPl1:okCl k1Cl:=by delta okCl;kernel_rfl
theorem clPlE:okCl (kCl.drop 4):=by delta okCl;kernel_rfl
theorem spHid {live:Live}:∀ b,b < 0→(b,b)∈live:=fun b hb=>absurd hb (Nat.not_lt_zero b)
theorem clHid {live:Live} (h0:(0,0)∈live) (h1:(1,1)∈live) (h2:(2,2)∈live):∀ b,b < 3→(b,b)∈live:=fun b hb=>by
 rcases (by omega:b=0∨b=1∨b=2) with rfl | rfl | rfl<;>assumption
theorem rget_app_l {A B:Row} {k x:V} (h:W.get A k=some x):W.get (A++B) k=some x:=by
 induction A with
 | nil=>cases h
 | cons p t ih =>
  obtain ⟨a,v⟩:=p
  rw [List.cons_append]
  by_cases e:a=k
  ·rw [W.get,if_pos e] at h ⊢;exact h
  ·rw [W.get,if_neg e] at h ⊢;exact ih h
theorem rget_none {A:Row} {k:V} (h:k ∉ A.map (·.1)):W.get A k=none:=by
 have:=rget_app (B:=[]) h
 rw [List.append_nil] at this
 rw [this];rfl
theorem vstr_inj {s t:List UInt8} (h:vstr s=vstr t):s=t:=by injection h
def mC (n:Int):Nat→Int
 | 0=>n + 1
 | i + 1=>mC n i + 1
theorem mC_eq (n:Int):∀ i:Nat,mC n i=n + 1 + (i:Int)
 | 0=>by simp [mC]
 | i + 1=>by rw [mC,mC_eq n i];omega
def Dr (n:Int) (g:Nat→List UInt8):Nat→Row
 | 0=>[]
 | i + 1=>Dr n g i++[(vstr (g i),vr (mC n i + 1))]
def fnsL (n p:Int):Nat→Obs
 | 0=>[]
 | i + 1=>fnsL n p i++[(mC n i + 1,fnO p (Int.ofNat (i + 1)))]
def lC (l:Obs) (n p:Int) (g:Nat→List UInt8) (i:Nat):Obs:=l++[(n + 1,oSp (Dr n g i))]++fnsL n p i
def lT (l:Obs) (n p:Int) (g:Nat→List UInt8) (r:Nat):Obs:=lC l n p g r++[(mC n r + 1,⟨2,[],0,[],[]⟩)]
def lD (l:Obs) (n p:Int) (g:Nat→List UInt8) (r:Nat):Obs:=lT l n p g r++[(mC n r + 1 + 1,oCl sC1 (Dr n g r))]
def cD (n:Int) (r:Nat):Int:=mC n r + 1 + 1
theorem fnsL_ids (n p:Int):∀ i,∀ q∈fnsL n p i,q.1≤mC n i
 | 0,q,h=>by cases h
 | i + 1,q,h=>by
  rw [fnsL] at h
  rcases List.mem_append.1 h with h | h
  ·have:=fnsL_ids n p i q h;rw [mC];omega
  ·rcases List.mem_singleton.1 h with rfl;exact Int.le_refl _
theorem fnsL_get (n p:Int) {j:Nat}:∀ {i:Nat},j < i→get (fnsL n p i) (mC n j + 1)=some (fnO p (Int.ofNat (j + 1)))
 | i + 1,h=>by
  rw [fnsL]
  by_cases hj:j < i
  ·exact get_app_l (fnsL_get n p hj)
  ·obtain rfl:j=i:=by omega
   rw [get_app_r (get_le (fnsL_ids n p j) (by omega)),get,if_pos rfl]
section
variable {g:Nat→List UInt8} {n:Int}
theorem Dr_keys (g:Nat→List UInt8) (n:Int):∀ i,(Dr n g i).map (·.1)=(List.range i).map fun j=>vstr (g j)
 | 0=>rfl
 | i + 1=>by rw [Dr,List.map_append,Dr_keys g n i,List.range_succ,List.map_append];rfl
theorem Dr_len (g:Nat→List UInt8) (n:Int) (i:Nat):(Dr n g i).length=i:=by
 have:=congrArg List.length (Dr_keys g n i);simpa using this
theorem Dr_not {i:Nat} {s:List UInt8} (h:∀ j,j < i→g j≠s):vstr s ∉ (Dr n g i).map (·.1):=fun hm=>by
 rw [Dr_keys] at hm
 obtain ⟨j,hj,e⟩:=List.mem_map.1 hm
 exact h j (List.mem_range.1 hj) (vstr_inj e)
theorem Dr_nodup {r:Nat} (inj:∀ j,j < r→∀ j',j' < r→g j=g j'→j=j'):∀ i,i≤r→((Dr n g i).map (·.1)).Nodup
 | 0,_=>List.nodup_nil
 | i + 1,h=>by
  rw [Dr,List.map_append]
  refine List.nodup_append.2 ⟨Dr_nodup inj i (by omega),by simp,fun a ha b hb=>?_⟩
  rintro rfl
  have hb':a=vstr (g i):=by simpa using hb
  subst hb'
  exact Dr_not (fun j hj e=>by have:=inj j (by omega) i (by omega) e;omega) ha
theorem Dr_get {r:Nat} (inj:∀ j,j < r→∀ j',j' < r→g j=g j'→j=j') {j:Nat}:∀ {i:Nat},j < i→i≤r→W.get (Dr n g i) (vstr (g j))=some (vr (mC n j + 1))
 | i + 1,h,hi=>by
  rw [Dr]
  by_cases hj:j < i
  ·exact rget_app_l (Dr_get inj hj (by omega))
  ·obtain rfl:j=i:=by omega
   rw [rget_app (Dr_not fun q hq e=>by have:=inj q (by omega) j (by omega) e;omega),W.get,if_pos rfl]
theorem Dr_none {i:Nat} {s:List UInt8} (h:∀ j,j < i→g j≠s):W.get (Dr n g i) (vstr s)=none:=rget_none (Dr_not h)
end
section
variable {g:Nat→List UInt8} {l:Obs} {n:Int} {u:Nat} (H:HJ l n u)
include H in
theorem lC_sp (p:Int) (i:Nat):get (lC l n p g i) (n + 1)=some (oSp (Dr n g i)):=get_app_l (get_last H _)
include H in
theorem lC_put (p:Int) (i:Nat) (f:Ob) (d:Row):put (lC l n p g i++[(mC n i + 1,f)]) (n + 1) (oSp d)=l++[(n + 1,oSp d)]++(fnsL n p i++[(mC n i + 1,f)]):=by
 unfold lC
 rw [List.append_assoc,put_app_l (get_last H _),put_last H]
include H in
theorem lC_next (p:Int) (i:Nat) (hn:vstr (g i) ∉ (Dr n g i).map (·.1)):put (lC l n p g i++[(mC n i + 1,fnO p (Int.ofNat (i + 1)))]) (n + 1) { oSp (Dr n g i) with d:=W.put (oSp (Dr n g i)).d (vstr (g i)) (vr (mC n i + 1)) }=lC l n p g (i + 1):=by
 show put _ _ (oSp (W.put (Dr n g i) (vstr (g i)) (vr (mC n i + 1))))=_
 rw [rput_app hn,lC_put H]
 rfl
include H in
theorem HJ.lC (p:Int) {r:Nat} (inj:∀ j,j < r→∀ j',j' < r→g j=g j'→j=j'):∀ i,i≤r→HJ (E.lC l n p g i) (mC n i) (u + 1 + 4 * i)
 | 0,_=>by
  have e:E.lC l n p g 0=l++[(n + 1,oSp [])]:=by simp [E.lC,fnsL,Dr]
  rw [e]
  exact H.add _ (by simp)
 | i + 1,h=>by
  have Hi:=HJ.lC p inj i (by omega)
  have H1:HJ (E.lC l n p g i++[(mC n i + 1,fnO p (Int.ofNat (i + 1)))]) (mC n i + 1) (u + 1 + 4 * i + 3):=Hi.add _ (by simp [fnO])
  have hn:vstr (g i) ∉ (Dr n g i).map (·.1):=Dr_not fun q hq e=>by have:=inj q (by omega) i (by omega) e;omega
  rw [← lC_next H p i hn]
  refine H1.set (get_app_l (lC_sp H p i)) _ ?_ (by omega)
  show _ + 0 + (W.put (Dr n g i) _ _).length≤_ + 0 + (Dr n g i).length
  rw [rput_app hn,List.length_append,List.length_singleton]
  omega
include H in
theorem lC_fn (p:Int) {i j:Nat} (h:j < i):get (lC l n p g i) (mC n j + 1)=some (fnO p (Int.ofNat (j + 1))):=by
 have H1:HJ (l++[(n + 1,oSp (Dr n g i))]) (n + 1) (u + 1 + i):=H.add _ (by simp [Dr_len])
 unfold lC
 rw [get_app_r (get_le H1.ids (by rw [mC_eq];omega))]
 exact fnsL_get n p h
end
section
variable {w0:B0} {g:Nat→List UInt8} {r:Nat} (h8:r≤8) (inj:∀ j,j < r→∀ j',j' < r→g j=g j'→j=j') {l:Obs} {n:Int} {u:Nat} (H:HJ l n u) (hu:u + 500≤uMax)
include h8 inj H in
theorem HJ.lT (p:Int):HJ (E.lT l n p g r) (mC n r + 1) (u + 40):=by
 have:=(H.lC p inj r (Nat.le_refl _)).add (⟨2,[],0,[],[]⟩:Ob) (v:=u + 40) (by simp only [List.length_nil];omega)
 exact this
include h8 inj H in
theorem HJ.lD (p:Int):HJ (E.lD l n p g r) (cD n r) (u + 60):=by
 have:=(HJ.lT h8 inj H p).add (oCl sC1 (Dr n g r)) (v:=u + 60) (by simp only [oCl,List.length_nil,Dr_len];omega)
 exact this
variable {p:Int} (hR:∀ g l l' m s,ClR p g l l' m s)
include h8 inj H hu hR in
theorem clAll (hH:Hd w0 fo0 3):CodeQ w0 nCl cCl (cI p r g (hZ l n)).1 (cI p r g (hZ l n)).2 fun x tm st=>x=.ret∧tm=(cZ r g (lD l n p g r) (cD n r) (cD n r)).1∧st=(cZ r g (lD l n p g r) (cD n r) (cD n r)).2:=by
 have hr9:r∈List.range 9:=List.mem_range.2 (by omega)
 have e0:lC l n p g 0=l++[(n + 1,oSp [])]:=by simp [lC,fnsL,Dr]
 refine CodeL.code ?_
 rw [kCl_eq]
 refine CodeL.app (QT.code hH ((clA p g l n).at hr9) clPlA (And.intro (tMk H (by omega) ⟨by decide,by decide⟩ (by simp [uMax])) trivial) (clHid (by simp) (by simp) (by simp))) ?_ (fun x tm st hx h=>absurd h.1 hx)
 rintro tm st ⟨-,rfl,rfl⟩
 refine CodeL.app (P1:=fun x tm st=>x=.normal∧tm=(cS p r r g (lC l n p g r) (mC n r) (n + 1)).1∧st=(cS p r r g (lC l n p g r) (mC n r) (n + 1)).2) (CodeQ.row (CodeQ.block (CodeQ.mono (P1:=fun x tm st=>x=.exit 0∧tm=(cS p r r g (lC l n p g r) (mC n r) (n + 1)).1∧st=(cS p r r g (lC l n p g r) (mC n r) (n + 1)).2) ?_ ?_))) ?_ (fun x tm st hx h=>absurd h.1 hx)
 ·rw [← e0]
  refine CodeQ.loop (α:=Nat) (S:=fun i=>cS p r i g (lC l n p g i) (mC n i) (n + 1)) (Inv:=fun i=>i≤r) (μ:=fun i=>r - i) (fun i hi=>?_) 0 (Nat.zero_le _)
  replace hi:i≤r:=hi
  refine CodeL.code ?_
  show CodeL w0 nCl k1Cl _ _ _
  by_cases hlt:i < r
  ·have q1:(r * 16 + i) / 16=r:=by omega
   have q2:(r * 16 + i) % 16=i:=by omega
   have hq:r * 16 + i∈prC:=List.mem_flatMap.2 ⟨r,hr9,List.mem_map.2 ⟨i,List.mem_range.2 hlt,rfl⟩⟩
   have h:=QA.at (hR g (lC l n p g i) (lC l n p g (i + 1)) (mC n i) (n + 1)) hq
   simp only [q1,q2] at h
   have Hi:=H.lC p inj i hi
   have H1:HJ (lC l n p g i++[(mC n i + 1,fnO p (Int.ofNat (i + 1)))]) (mC n i + 1) (u + 1 + 4 * i + 3):=Hi.add _ (by simp [fnO])
   have hn:vstr (g i) ∉ (Dr n g i).map (·.1):=Dr_not fun q hq e=>by have:=inj q (by omega) i (by omega) e;omega
   have hd:dputB (oSp (Dr n g i)).d (vstr (g i))=true:=by
    unfold dputB
    show (keyB (vstr (g i)) && _)=true
    rw [show keyB (vstr (g i))=true from rfl]
    have:(Dr n g i).length < 4096:=by rw [Dr_len];omega
    show (true && _)=true
    simp [this]
    split<;>rfl
   refine (QT.code hH h clPl1 (And.intro (tMk Hi (by omega) ⟨by decide,by decide⟩ (by simp [uMax])) (And.intro (zPut H1 (by omega) (get_app_l (lC_sp H p i)) hd (lC_next H p i hn)) trivial)) (clHid (by simp) (by simp) (by simp))).mono ?_
   rintro x tm st ⟨rfl,rfl,rfl⟩
   exact .inl ⟨rfl,i + 1,by show i + 1≤r;omega,by show r - (i + 1) < r - i;omega,rfl,rfl⟩
  ·obtain rfl:i=r:=by omega
   refine (QT.code (tl:=[]) hH ((clX p g (lC l n p g i) (mC n i) (n + 1)).at hr9) clPl1 trivial (clHid (by simp) (by simp) (by simp))).mono ?_
   rintro x tm st ⟨rfl,rfl,rfl⟩
   exact .inr ⟨by simp,rfl,rfl,rfl⟩
 ·rintro x tm st ⟨rfl,rfl,rfl⟩
  exact ⟨rfl,rfl,rfl⟩
 ·rintro tm st ⟨-,rfl,rfl⟩
  have Hr:=H.lC p inj r (Nat.le_refl _)
  have HT:=HJ.lT h8 inj H p
  have et:get (lT l n p g r) (mC n r + 1)=some ⟨2,[],0,[],[]⟩:=get_last Hr _
  have es:get (lT l n p g r) (n + 1)=some (oSp (Dr n g r)):=get_app_l (lC_sp H p r)
  refine (QTX.code hH extCl_ok ((clE p g (lC l n p g r) (mC n r) (n + 1) (Dr n g r)).at hr9) clPlE (And.intro (tMk Hr (by omega) ⟨by decide,by decide⟩ (by simp [uMax])) (And.intro (zKind et rfl) (And.intro (zItems et rfl) (And.intro ?_ trivial)))) (clHid (by simp) (by simp) (by simp))).mono ?_
  ·refine zClass (l:=lT l n p g r) HT (by omega) es rfl (fun q hq=>?_) (Dr_nodup inj r (Nat.le_refl _)) (by show (Dr n g r).length≤50;rw [Dr_len];omega) sC1 rfl
   have hq':q.1∈(Dr n g r).map (·.1):=List.mem_map.2 ⟨q,hq,rfl⟩
   rw [Dr_keys] at hq'
   obtain ⟨j,-,e⟩:=List.mem_map.1 hq'
   rw [← e];rfl
  ·rintro x tm st ⟨rfl,rfl,rfl⟩
   exact ⟨rfl,rfl,rfl⟩
include h8 inj H hu hR in
theorem clCall:CallP fCl [.ptr 2 0,.str sC1,.nils,.sl 3 0 r 1 (ckT r),.int .i64 p] [(2,some (wldAt 1 [])),(3,some (.row (rwS g r) (some 9)))] 1 (hZ l n) (vr (cD n r)).sv (hZ (lD l n p g r) (cD n r)):=by
 have hr9:r∈List.range 9:=List.mem_range.2 (by omega)
 have kA:((List.range 9).map fun r=>gcM (toNew [(1,1),(2,2),(3,0)]) (mkT [(2,wldAt 1 []),(3,SB.row (rwS g r) (some 9))]) [(1,1),(2,2),(3,0)])=(List.range 9).map fun r=>some (mkT [(0,SB.row (rwS g r) (some 9)),(2,wldAt 1 [])]):=by kernel_rfl
 have kB:((List.range 9).map fun r=>SB.ren (toOld [(1,1),(2,2),(3,0)]) (SB.row (rwS g r) (some 9)))=(List.range 9).map fun r=>some (SB.row (rwS g r) (some 9)):=by kernel_rfl
 refine callP_of (g:=Tryz.f15) (c:=cCl) (vs2:=[.ptr 2 0,.str sC1,.nils,.sl 0 0 r 1 (ckT r),.int .i64 p]) (b2:=1) (v2:=(vr (cD n r)).sv) (live:=[(1,1),(2,2),(3,0)]) (fn:=3) (m1:=mkT [(2,wldAt 1 []),(3,.row (rwS g r) (some 9))]) (m2:=mkT [(0,.row (rwS g r) (some 9)),(2,wldAt 1 [])])
  Tryz.func15 (by kernel_rfl) (zB (by kernel_rfl)) (zB (by kernel_rfl)) (by kernel_rfl) (by simp) ?_ rfl ?_ (List.map_inj_left.1 kA r hr9) ?_ rfl rfl ?_
 ·intro q hp
  simp only [List.mem_cons,List.mem_nil_iff,or_false] at hp
  rcases hp with rfl | rfl | rfl
  ·exact .inl rfl
  ·exact .inr ⟨by simp [ptr1],List.mem_cons_self ..⟩
  ·exact .inr ⟨by simp [ptr1],List.mem_cons_of_mem _ (List.mem_cons_self ..)⟩
 ·intro q hp c hc
  simp only [List.mem_cons,List.mem_nil_iff,or_false] at hp
  rcases hp with rfl | rfl | rfl
  ·cases hc
  ·cases hc;exact ⟨rfl,rfl⟩
  ·cases hc;exact ⟨rfl,rfl⟩
 ·intro q hp c hc
  simp only [List.mem_cons,List.mem_nil_iff,or_false] at hp
  rcases hp with rfl | rfl | rfl
  ·cases hc
  ·cases hc;exact ⟨_,rfl,rfl⟩
  ·cases hc;exact ⟨_,rfl,List.map_inj_left.1 kB r hr9⟩
 ·intro w0 hH
  refine (clAll h8 inj H hu hR hH).mono ?_
  rintro x tm st ⟨rfl,rfl,rfl⟩
  refine ⟨.inr rfl,by kernel_rfl,fun d c hc=>?_,rfl⟩
  have e:(cZ r g (lD l n p g r) (cD n r) (cD n r)).2.m=(mkT [(0,SB.row (rwS g r) (some 9)),(2,wldAt 1 [])]).upd 3 (some (vM (cD n r))):=by kernel_rfl
  rw [e]
  by_cases hd:d=3
  ·subst hd;cases hc
  ·rw [T.upd_ne _ _ hd];exact hc
end
end
end Go.Proofs.YtlbcbikplfocfaaGreatDoor.W.E
