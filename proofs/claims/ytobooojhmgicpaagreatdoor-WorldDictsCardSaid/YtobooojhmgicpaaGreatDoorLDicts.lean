/- LDicts -/
import Derived.Test.YtobooojhmgicpaaGreatDoorLDiP
import Derived.Test.YtobooojhmgicpaaGreatDoorLDiS
import Derived.Test.YtobooojhmgicpaaGreatDoorLDiQ
import Derived.Test.YtobooojhmgicpaaGreatDoorLDiE
import Derived.Test.YtobooojhmgicpaaGreatDoorEvF2
set_option linter.unusedVariables false
set_option linter.unusedSimpArgs false
namespace Go.Proofs.YtobooojhmgicpaaGreatDoor.W.E
section
set_option maxRecDepth 100000
open Go.RowKit
abbrev okDi (l:List Code):Prop:=(l.all fun c=>planOkC (plan fDi) c)=true
theorem diPlP:okDi (kDi.take 12):=by delta okDi;kernel_rfl
theorem diPlN:okDi kDi:=by delta okDi;kernel_rfl
theorem diPlT:okDi (k1Di.take 2):=by delta okDi;kernel_rfl
theorem diPlU:okDi (k1Di.drop 3):=by delta okDi;kernel_rfl
theorem diPlW:okDi (kbDi.take 3):=by delta okDi;kernel_rfl
theorem diPlX:okDi (kSDi.take 2):=by delta okDi;kernel_rfl
theorem diPlA:okDi (kADi.take 1):=by delta okDi;kernel_rfl
theorem diPlB:okDi (kADi.drop 1):=by delta okDi;kernel_rfl
theorem diPlY:okDi (kBDi.take 1):=by delta okDi;kernel_rfl
theorem diPlG:okDi kBDi:=by delta okDi;kernel_rfl
theorem diPlQ:okDi (kCDi.take 3):=by delta okDi;kernel_rfl
theorem diPlR:okDi ((kCDi.drop 3).take 2):=by delta okDi;kernel_rfl
theorem diPlL:okDi (kCDi.drop 6):=by delta okDi;kernel_rfl
theorem diPlH:okDi (k2Di.take 2):=by delta okDi;kernel_rfl
theorem diPlI:okDi k3Di:=by delta okDi;kernel_rfl
theorem diPlK:okDi (k2Di.drop 3):=by delta okDi;kernel_rfl
theorem diPlE:okDi ((kDi.drop 13).take 1):=by delta okDi;kernel_rfl
theorem diPlM:okDi ((kDi.drop 14).take 2):=by delta okDi;kernel_rfl
theorem diPlO:okDi ((kDi.drop 16).take 1):=by delta okDi;kernel_rfl
theorem diPlV:okDi (k4Di.take 2):=by delta okDi;kernel_rfl
theorem diPlS:okDi (k4Di.drop 3):=by delta okDi;kernel_rfl
theorem diPlZ:okDi k5Di:=by delta okDi;kernel_rfl
theorem diPlJ:okDi ((kDi.drop 18).take 1):=by delta okDi;kernel_rfl
theorem diPlF:okDi (kDi.drop 19):=by delta okDi;kernel_rfl
theorem rowEq1 (b n i:Nat) (ck:Option Nat):indexAddrV Tryz.prog 43 (.sl b 0 n 1 ck) (.int .i64 (Int.ofNat i))=(match natIx (Int.ofNat i) n with
  | some k=>(match szT Tryz.prog 3 with
   | some s=>bif Nat.beq s 1 then some (SV.ptr b (0 + k * 1)) else none
   | none=>none)
  | none=>none):=by kernel_rfl
theorem rowAt1 (b:Nat) {n i:Nat} (ck:Option Nat) (hi:i < n):indexAddrV Tryz.prog 43 (.sl b 0 n 1 ck) (.int .i64 (Int.ofNat i))=some (.ptr b i):=by
 have hs:szT Tryz.prog 3=some 1:=by kernel_rfl
 rw [rowEq1,natIx_lt hi]
 simp only [hs]
 simp
theorem o_eV (t:Nat) (ht:t=26) {x y:Int} (h:x=y):binV Tryz.prog .eql t false (vI x) (vI y)=some (.bool true):=by
 have key:∃ F:Bool→Option SV,binV Tryz.prog .eql t false (vI x) (vI y)=F (x == y)∧F true=some (.bool true):=by
  subst ht
  exact ⟨fun b=>match (match some b with | some true=>some true | some false=>some false | none=>none) with | some r=>some (.bool r) | none=>none,by kernel_rfl,rfl⟩
 obtain ⟨F,h1,h2⟩:=key
 rw [h1,beq_iff_eq.2 h,h2]
theorem lD_get (D:Row) (z:Obs):get (lD D z) 21=some ⟨3,[],0,[],D⟩:=by kernel_rfl
theorem lD_put (D D':Row) (z:Obs):put (lD D z) 21 ⟨3,[],0,[],D'⟩=lD D' z:=by kernel_rfl
theorem lD_app (D:Row) (z y:Obs):lD D z++y=lD D (z++y):=by
 unfold lD;rw [List.append_assoc];rfl
theorem HJ.di:HJ (lD [] []) 23 100:=⟨by
 have h:((lD [] []).all fun p=>decide (p.1≤23))=true:=by kernel_rfl
 exact fun p hp=>by simpa using List.all_eq_true.1 h p hp,by decide,by decide,Nat.le_of_ble_eq_true (by kernel_rfl)⟩
theorem ofN_lt {a b:Nat} (h:a < b):Int.ofNat a < Int.ofNat b:=by simp only [Int.ofNat_eq_natCast];omega
theorem rowC_csV (R:List Int):rowC (fun j=>R.getD j 0) R.length=csV R:=by
 unfold rowC csV
 refine List.ext_getElem? fun j=>?_
 rw [List.getElem?_map,List.getElem?_map]
 by_cases hj:j < R.length
 ·rw [List.getElem?_range hj,List.getElem?_eq_getElem hj]
  simp [hj]
 ·rw [List.getElem?_eq_none (by simpa using hj),List.getElem?_eq_none (by simpa using hj)];rfl
theorem rowK_map (R:List Int):rowK (fun j=>R.getD j 0) R.length=R.map vnum:=by
 unfold rowK
 refine List.ext_getElem? fun j=>?_
 rw [List.getElem?_map,List.getElem?_map]
 by_cases hj:j < R.length
 ·rw [List.getElem?_range hj,List.getElem?_eq_getElem hj]
  simp [hj]
 ·rw [List.getElem?_eq_none (by simpa using hj),List.getElem?_eq_none (by simpa using hj)];rfl
theorem few_le:∀ (n:Nat) (l:List Int),l.Nodup→(∀ x∈l,∃ k,k < n∧x=Int.ofNat k)→l.length≤n
 | 0,l,_,h=>by
  cases l with
  | nil=>simp
  | cons x t=>obtain ⟨k,hk,-⟩:=h x (List.mem_cons_self ..);omega
 | n + 1,l,hn,h=>by
  by_cases hm:Int.ofNat n∈l
  ·have h1:=few_le n (l.erase (Int.ofNat n)) (hn.erase _) fun x hx=>by
    obtain ⟨hne,hx⟩:=hn.mem_erase_iff.1 hx
    obtain ⟨k,hk,rfl⟩:=h x hx
    refine ⟨k,?_,rfl⟩
    have:k≠n:=fun e=>hne (by rw [e])
    omega
   rw [List.length_erase_of_mem hm] at h1
   omega
  ·have h1:=few_le n l hn fun x hx=>by
    obtain ⟨k,hk,rfl⟩:=h x hx
    refine ⟨k,?_,rfl⟩
    have:k≠n:=fun e=>hm (e ▸ hx)
    omega
   omega
theorem put_keys {d:Row} {k v:V} (x:V) (h:W.get d k=some v):(W.put d k x).map (·.1)=d.map (·.1):=by
 induction d with
 | nil=>cases h
 | cons p t ih =>
  obtain ⟨a,w⟩:=p
  by_cases e:a=k
  ·rw [W.put,if_pos e];rfl
  ·rw [W.get,if_neg e] at h
   rw [W.put,if_neg e,List.map_cons,List.map_cons,ih h]
theorem del_keys {d:Row} (hn:(d.map (·.1)).Nodup) (k:V):(W.del d k).map (·.1)=(d.map (·.1)).filter fun a=>!decide (a=k):=by
 induction d with
 | nil=>rfl
 | cons p t ih =>
  obtain ⟨a,w⟩:=p
  rw [List.map_cons,List.nodup_cons] at hn
  by_cases e:a=k
  ·subst e
   rw [W.del,if_pos rfl,List.map_cons,List.filter_cons]
   simp only [decide_true,Bool.not_true,Bool.false_eq_true,if_false]
   refine (List.filter_eq_self.2 fun x hx=>?_).symm
   simp only [Bool.not_eq_true',decide_eq_false_iff_not]
   rintro rfl
   exact hn.1 hx
  ·rw [W.del,if_neg e,List.map_cons,List.map_cons,List.filter_cons,ih hn.2]
   simp [e]
theorem vnum_inj {x y:Int} (h:vnum x=vnum y):x=y:=by injection h
def oth (k:Nat) (l:List Int):List Int:=l.filter fun x=>!decide (x=Int.ofNat k)
theorem oth_map (k:Nat) (l:List Int):(oth k l).map vnum=(l.map vnum).filter fun a=>!decide (a=vnum (Int.ofNat k)):=by
 induction l with
 | nil=>rfl
 | cons x t ih =>
  unfold oth at ih ⊢
  rw [List.map_cons,List.filter_cons,List.filter_cons]
  by_cases e:x=Int.ofNat k
  ·subst e;simpa using ih
  ·have e2:¬ vnum x=vnum (Int.ofNat k):=fun h=>e (vnum_inj h)
   simp only [e,e2,decide_false,Bool.not_false,if_true,List.map_cons,ih]
theorem mem_get {d:Row} {k:V} (h:k∈d.map (·.1)):∃ v,W.get d k=some v:=by
 induction d with
 | nil=>cases h
 | cons p t ih =>
  obtain ⟨a,w⟩:=p
  by_cases e:a=k
  ·exact ⟨w,by rw [W.get,if_pos e]⟩
  ·rcases List.mem_cons.1 h with h | h
   ·exact absurd h.symm e
   ·obtain ⟨v,hv⟩:=ih h
    exact ⟨v,by rw [W.get,if_neg e];exact hv⟩
theorem get_mem {d:Row} {k v:V} (h:W.get d k=some v):k∈d.map (·.1):=by
 induction d with
 | nil=>cases h
 | cons p t ih =>
  obtain ⟨a,w⟩:=p
  by_cases e:a=k
  ·subst e;simp
  ·rw [W.get,if_neg e] at h
   exact List.mem_cons_of_mem _ (ih h)
structure DiI (Ks:List Int) (D:Row) (b:Nat→Bool) (j:Nat→Int) (z:Obs) (m:Int) (ck:Option Nat) (u:Nat):Prop where
 keys:D.map (·.1)=Ks.map vnum
 has:∀ k,k < 8→W.get D (vnum (Int.ofNat k))=if b k=true then some (vnum (j k)) else none
 nd:Ks.Nodup
 rng:∀ x∈Ks,∃ k,k < 8∧x=Int.ofNat k
 hj:HJ (lD D z) m u
 ck:ck=none∨(Ks=[]∧ck=some 0)
section
variable {Ks:List Int} {D:Row} {b:Nat→Bool} {j:Nat→Int} {z:Obs} {m:Int} {ck:Option Nat} {u:Nat}
theorem DiI.few (H:DiI Ks D b j z m ck u):Ks.length≤8:=few_le 8 Ks H.nd H.rng
theorem DiI.ndK (H:DiI Ks D b j z m ck u):(D.map (·.1)).Nodup:=by
 rw [H.keys]
 exact List.pairwise_map.2 (List.Pairwise.imp (fun h e=>h (vnum_inj e)) H.nd)
theorem DiI.len (H:DiI Ks D b j z m ck u):D.length=Ks.length:=by
 have:=congrArg List.length H.keys
 simpa using this
theorem DiI.up (H:DiI Ks D b j z m ck u) {u':Nat} (h:u≤u'):DiI Ks D b j z m ck u':=⟨H.keys,H.has,H.nd,H.rng,H.hj.up h,H.ck⟩
theorem DiI.mem (H:DiI Ks D b j z m ck u) {k:Nat} (hk:k < 8):Int.ofNat k∈Ks↔b k=true:=by
 constructor
 ·intro h
  have h1:vnum (Int.ofNat k)∈D.map (·.1):=by rw [H.keys];exact List.mem_map_of_mem h
  obtain ⟨v,hv⟩:=mem_get h1
  rw [H.has k hk] at hv
  by_cases hb:b k=true
  ·exact hb
  ·rw [if_neg hb] at hv;cases hv
 ·intro h
  have h1:=H.has k hk
  rw [if_pos h] at h1
  have h2:=get_mem h1
  rw [H.keys] at h2
  obtain ⟨x,hx,he⟩:=List.mem_map.1 h2
  rw [← vnum_inj he];exact hx
theorem DiI.room (H:DiI Ks D b j z m ck u) (k:Nat):dputB D (vnum (Int.ofNat k))=true:=by
 have h1:=H.len
 have h2:=H.few
 unfold dputB
 rw [show keyB (vnum (Int.ofNat k))=true from rfl,decide_eq_true (show D.length < 4096 by omega)]
 simp
theorem DiI.hput (H:DiI Ks D b j z m ck u) (k x:V):HJ (lD (W.put D k x) z) m (u + 1):=by
 have hl:=put_len D k x
 rw [← lD_put D]
 exact H.hj.set (lD_get D z) _ (by simp only [List.length_nil];omega) (by omega)
theorem DiI.put (H:DiI Ks D b j z m ck u) {k:Nat} (hk:k < 8) (x:Int):∀ q,q < 8→W.get (W.put D (vnum (Int.ofNat k)) (vnum x)) (vnum (Int.ofNat q))=if upN b k true q=true then some (vnum (upN j k x q)) else none:=fun q hq=>by
 rw [get_put]
 by_cases e:q=k
 ·subst e;rw [if_pos rfl,upN_same,upN_same,if_pos rfl]
 ·rw [if_neg (fun h=>e (Int.ofNat.inj (vnum_inj h)).symm),upN_ne _ _ e,upN_ne _ _ e,H.has q hq]
theorem DiI.putY (H:DiI Ks D b j z m ck u) {k:Nat} (hk:k < 8) (hb:b k=true) (x:Int):DiI Ks (W.put D (vnum (Int.ofNat k)) (vnum x)) b (upN j k x) z m ck (u + 1):=by
 have hg:W.get D (vnum (Int.ofNat k))=some (vnum (j k)):=by rw [H.has k hk,if_pos hb]
 have h:=H.put hk x
 rw [upN_self hb] at h
 exact ⟨(put_keys _ hg).trans H.keys,h,H.nd,H.rng,H.hput _ _,H.ck⟩
theorem DiI.putN (H:DiI Ks D b j z m ck u) {k:Nat} (hk:k < 8) (hb:b k=false) (x:Int):DiI (Ks++[Int.ofNat k]) (W.put D (vnum (Int.ofNat k)) (vnum x)) (upN b k true) (upN j k x) z m none (u + 1):=by
 have hg:W.get D (vnum (Int.ofNat k))=none:=by rw [H.has k hk,if_neg (by simp [hb])]
 have hnm:Int.ofNat k ∉ Ks:=fun h=>by rw [H.mem hk,hb] at h;cases h
 refine ⟨?_,H.put hk x,?_,fun y hy=>?_,H.hput _ _,.inl rfl⟩
 ·rw [put_new hg,List.map_append,H.keys,List.map_append];rfl
 ·rw [List.nodup_append]
  refine ⟨H.nd,by simp,fun a ha b hb=>?_⟩
  rcases List.mem_singleton.1 hb with rfl
  rintro rfl
  exact hnm ha
 ·rcases List.mem_append.1 hy with h | h
  ·exact H.rng y h
  ·rcases List.mem_singleton.1 h with rfl;exact ⟨k,hk,rfl⟩
theorem DiI.del (H:DiI Ks D b j z m ck u) {k:Nat} (hk:k < 8):DiI (oth k Ks) (W.del D (vnum (Int.ofNat k))) (upN b k false) j z m (ckp (oth k Ks).length) (u + 1):=by
 have hl:=del_len D (vnum (Int.ofNat k))
 refine ⟨?_,fun q hq=>?_,H.nd.filter _,fun x hx=>H.rng x (List.mem_filter.1 hx).1,?_,?_⟩
 ·rw [del_keys H.ndK,H.keys,oth_map]
 ·rw [get_del H.ndK]
  by_cases e:q=k
  ·subst e;rw [if_pos rfl,upN_same];rfl
  ·rw [if_neg (fun h=>e (Int.ofNat.inj (vnum_inj h)).symm),upN_ne _ _ e,H.has q hq]
 ·rw [← lD_put D]
  exact H.hj.set (lD_get D z) _ (by simp only [List.length_nil];omega) (by omega)
 ·cases hc:(oth k Ks).length with
  | zero=>exact .inr ⟨List.eq_nil_of_length_eq_zero hc,rfl⟩
  | succ n=>exact .inl rfl
theorem oth_self {k:Nat} (h:Int.ofNat k ∉ Ks):oth k Ks=Ks:=by
 refine List.filter_eq_self.2 fun x hx=>?_
 simp only [Bool.not_eq_true',decide_eq_false_iff_not]
 rintro rfl
 exact h hx
theorem DiI.delN (H:DiI Ks D b j z m ck u) {k:Nat} (hk:k < 8) (hb:b k=false):∃ z',e3 (lD D z) m [vnum (Int.ofNat k)] eKey 5=lD D z'∧DiI (oth k Ks) D (upN b k false) j z' (m + 1 + 1) (ckp (oth k Ks).length) (u + 5):=by
 have hnm:Int.ofNat k ∉ Ks:=fun h=>by rw [H.mem hk,hb] at h;cases h
 have e:e3 (lD D z) m [vnum (Int.ofNat k)] eKey 5=lD D (z++[(m + 1,o1 [vnum (Int.ofNat k)])]++[(m + 1 + 1,o2 eKey 5 [(vstr sArgs,vr (m + 1))])]):=by
  show (lD D z++_)++_=_
  rw [lD_app,lD_app]
 refine ⟨_,e,?_,?_,?_,?_,?_,?_⟩
 ·rw [oth_self hnm];exact H.keys
 ·rw [upN_self hb];exact H.has
 ·rw [oth_self hnm];exact H.nd
 ·rw [oth_self hnm];exact H.rng
 ·rw [← e];exact H.hj.e2 (by simp) (by simp)
 ·cases hc:(oth k Ks).length with
  | zero=>exact .inr ⟨List.eq_nil_of_length_eq_zero hc,rfl⟩
  | succ n=>exact .inl rfl
end
section
variable {w0:B0} {n:Nat} {cs:List Int} (hH:Hd w0 (foC (csV cs)) 1)
theorem csV_plain (R:List Int):∀ v∈csV R,v.plain=true:=fun v hv=>by
 obtain ⟨y,-,rfl⟩:=List.mem_map.1 hv;rfl
include hH in
theorem diFr {R:List Int} {live:Live} {keep:List Nat} {nx:Nat} {l:List Code} {s s2:SS} {x:Ex} {tl:TL} (h:QT (foW (foC (csV cs)) 8 (csV R)) fDi nDi live keep nx l s s2 x tl) (hp:okDi l) (ht:tl.ok)
  (h0:(0,0)∈live) (h6:(8,8)∈live) (hm:s.2.m.get 8=none) {r:Nat} {ck:Option Nat} (ht0:s.1.get 8=some (.sl 8 0 r 1 ck)) :
  CodeL w0 nDi l (s.w (csV R)).1 (s.w (csV R)).2 (fun x' tm' st'=>x'=x∧tm'=(s2.w (csV R)).1∧st'=(s2.w (csV R)).2) :=
 QT.frame hH _ h hp ht (hidC h0) h6 (csV_plain R) hm (by omega) ht0
abbrev sDi (n i:Nat) (Ks:List Int) (D:Row) (b:Nat→Bool) (j:Nat→Int) (z:Obs) (m:Int) (ck:Option Nat):SS:=(sD [] n i Ks.length ck b j (lD D z) m).w (csV Ks)
abbrev sKi (x:List (Nat × SV)) (n i k:Nat) (Ks:List Int) (D:Row) (b:Nat→Bool) (j:Nat→Int) (z:Obs) (m:Int) (ck:Option Nat):SS:=(sK x n i Ks.length ck b j (lD D z) m k).w (csV Ks)
abbrev DiTo (n i u:Nat) (tm:T SV) (st:St HX):Prop:=∃ Ks D b j z m ck,DiI Ks D b j z m ck u∧tm=(sDi n i Ks D b j z m ck).1∧st=(sDi n i Ks D b j z m ck).2
variable {i u k:Nat} {Ks:List Int} {D:Row} {b:Nat→Bool} {j:Nat→Int} {z:Obs} {m:Int} {ck:Option Nat}
include hH in
theorem diSet (H:DiI Ks D b j z m ck u) (hi:i < n) (hk:k < 8) (hu:u + 100≤uMax) {x2 c:Int} (hx:cs[i * 3 + 2]?=some x2) :
  CodeL w0 nDi (flatC cADi) (sKi [(63,.int .i64 c),(64,.bool true)] n i k Ks D b j z m ck).1 (sKi [(63,.int .i64 c),(64,.bool true)] n i k Ks D b j z m ck).2 fun x tm st=>x=.normal∧DiTo n i (u + 10) tm st:=by
 have a:=rowAt3 (n:=n) hi
 have d:=csV_at hx
 rw [kADi_eq]
 have hd:=zPut (b:=1) H.hj (by omega) (lD_get D z) (x:=vnum x2) (H.room k) (lD_put D (W.put D (vnum (Int.ofNat k)) (vnum x2)) z)
 refine CodeL.app (diFr hH ((diA (csV cs) (csV Ks) n i Ks.length ck b j D z m c x2).at (List.mem_range.2 hk)) diPlA (And.intro a (And.intro d (And.intro hd trivial))) (by simp) (by simp) rfl rfl) ?_ (fun x tm st hx h=>absurd h.1 hx)
 rintro tm st ⟨-,rfl,rfl⟩
 cases hb:b k with
 | true =>
  have h:=(diB (csV cs) (csV Ks) n i Ks.length ck b j (lD (W.put D (vnum (Int.ofNat k)) (vnum x2)) z) m x2).at (List.mem_range.2 hk)
  rw [upN_self hb] at h
  refine (diFr hH h diPlB (And.intro a (And.intro d trivial)) (by simp) (by simp) rfl rfl).mono ?_
  rintro x tm st ⟨rfl,rfl,rfl⟩
  exact ⟨rfl,Ks,_,b,_,z,m,ck,(H.putY hk hb x2).up (by omega),rfl,rfl⟩
 | false =>
  have H2:=(H.putN hk hb x2).up (show u + 1≤u + 10 by omega)
  have h8:=H2.few
  rw [List.length_append,List.length_singleton] at h8
  have e2:(Ks++[Int.ofNat k]).length=Ks.length + 1:=by simp
  have e3:csV (Ks++[Int.ofNat k])=csV Ks++[SV.int .i64 (Int.ofNat k)]:=by simp [csV]
  have fin:∀ x tm st,(x=Ex.normal∧tm=((sD [] n i (Ks.length + 1) none (upN b k true) (upN j k x2) (lD (W.put D (vnum (Int.ofNat k)) (vnum x2)) z) m).w (csV Ks++[SV.int .i64 (Int.ofNat k)])).1∧st=((sD [] n i (Ks.length + 1) none (upN b k true) (upN j k x2) (lD (W.put D (vnum (Int.ofNat k)) (vnum x2)) z) m).w (csV Ks++[SV.int .i64 (Int.ofNat k)])).2)→x=.normal∧DiTo n i (u + 10) tm st:=by
   rintro x tm st ⟨rfl,rfl,rfl⟩
   refine ⟨rfl,Ks++[Int.ofNat k],_,_,_,z,m,none,H2,?_,?_⟩
   ·show _=((sD [] n i (Ks++[Int.ofNat k]).length none _ _ _ m).w (csV (Ks++[Int.ofNat k]))).1
    rw [e2,e3]
   ·show _=((sD [] n i (Ks++[Int.ofNat k]).length none _ _ _ m).w (csV (Ks++[Int.ofNat k]))).2
    rw [e2,e3]
  rcases H.ck with rfl | ⟨rfl,rfl⟩
  ·have h:=(diC (csV cs) n i (fun q=>Ks.getD q 0) b j (lD (W.put D (vnum (Int.ofNat k)) (vnum x2)) z) m x2).at (List.mem_range.2 (show k * 8 + Ks.length < 64 by omega))
   have q1:(k * 8 + Ks.length) % 8=Ks.length:=by omega
   have q2:(k * 8 + Ks.length) / 8=k:=by omega
   simp only [q1,q2,rowC_csV,upN_self hb] at h
   exact (QT.code hH h diPlB (And.intro a (And.intro d trivial)) (hidC (by simp))).mono fin
  ·have h:=(diC0 (csV cs) n i b j (lD (W.put D (vnum (Int.ofNat k)) (vnum x2)) z) m x2).at (List.mem_range.2 hk)
   rw [upN_self hb] at h
   exact (QT.code hH h diPlB (And.intro a (And.intro d trivial)) (hidC (by simp))).mono fin
include hH in
theorem diGot (H:DiI Ks D b j z m ck u) (hk:k < 8):CodeL w0 nDi kBDi (sKi [(63,.int .i64 2),(64,.bool false)] n i k Ks D b j z m ck).1 (sKi [(63,.int .i64 2),(64,.bool false)] n i k Ks D b j z m ck).2 fun x tm st=>x=.normal∧DiTo n i (u + 10) tm st:=by
 have fin:∀ x tm st,(x=Ex.normal∧tm=(sDi n i Ks D b j z m ck).1∧st=(sDi n i Ks D b j z m ck).2)→x=.normal∧DiTo n i (u + 10) tm st:=by
  rintro x tm st ⟨rfl,rfl,rfl⟩
  exact ⟨rfl,Ks,D,b,j,z,m,ck,H.up (by omega),rfl,rfl⟩
 cases hb:b k with
 | true =>
  have hg:W.get D (vnum (Int.ofNat k))=some (vnum (j k)):=by rw [H.has k hk,if_pos hb]
  have h:=(diGY (csV cs) (csV Ks) n i Ks.length ck b j D z m).at (List.mem_range.2 hk)
  rw [upN_self hb] at h
  exact (diFr hH h diPlG (And.intro (zGet (lD_get D z) hg) (And.intro (o_neV _ rfl rfl) trivial)) (by simp) (by simp) rfl rfl).mono fin
 | false =>
  have hg:W.get D (vnum (Int.ofNat k))=none:=by rw [H.has k hk,if_neg (by simp [hb])]
  have h:=(diGN (csV cs) (csV Ks) n i Ks.length ck b j D z m).at (List.mem_range.2 hk)
  rw [upN_self hb] at h
  exact (diFr hH h diPlG (And.intro (zGetN (lD_get D z) hg) trivial) (by simp) (by simp) rfl rfl).mono fin
abbrev sFi (n i k q:Nat) (Ks P:List Int) (b:Nat→Bool) (j:Nat→Int) (l:Obs) (m:Int) (ck:Option Nat):SS:=(sF n i Ks.length ck b j l m k q P.length (csV P)).w (csV Ks)
include hH in
theorem diSeek {l:Obs} (h8:Ks.length≤8):CodeQ w0 nDi (.loop b2Di) (sFi n i k 0 Ks [] b j l m ck).1 (sFi n i k 0 Ks [] b j l m ck).2 fun x tm st=>x=.exit 3∧tm=(sFi n i k Ks.length Ks (oth k Ks) b j l m ck).1∧st=(sFi n i k Ks.length Ks (oth k Ks) b j l m ck).2:=by
 refine CodeQ.loop (α:=Nat) (S:=fun q=>sFi n i k q Ks (oth k (Ks.take q)) b j l m ck) (Inv:=fun q=>q≤Ks.length) (μ:=fun q=>Ks.length - q) (fun q hq=>?_) 0 (Nat.zero_le _)
 have hp:(oth k (Ks.take q)).length≤q:=Nat.le_trans (List.length_filter_le _ _) (by rw [List.length_take];omega)
 refine CodeL.code ?_
 rw [k2Di_eq]
 by_cases hlt:q < Ks.length
 ·have h:=(diHY (csV cs) (csV Ks) n i Ks.length ck b j l m k q (fun y=>(oth k (Ks.take q)).getD y 0)).at (List.mem_range.2 (show (oth k (Ks.take q)).length < 9 by omega))
  simp only [rowC_csV] at h
  refine CodeL.app (diFr hH h diPlH (And.intro (o_lt (ofN_lt hlt)) trivial) (by simp) (by simp) rfl rfl) ?_ (fun x tm st hx h=>absurd h.1 hx)
  rintro tm st ⟨-,rfl,rfl⟩
  refine CodeL.app (P1:=fun x tm st=>x=.normal∧tm=(sFi n i k q Ks (oth k (Ks.take (q + 1))) b j l m ck).1∧st=(sFi n i k q Ks (oth k (Ks.take (q + 1))) b j l m ck).2) (CodeQ.row (CodeQ.block (CodeL.code ?_))) ?_ (fun x tm st hx h=>absurd h.1 hx)
  ·obtain ⟨y,hy⟩:∃ y,Ks[q]?=some y:=⟨_,List.getElem?_eq_getElem hlt⟩
   have et:Ks.take (q + 1)=Ks.take q++[y]:=by rw [List.take_add_one,hy];rfl
   have c1:=rowAt1 8 ck hlt
   have c2:=csV_at hy
   by_cases hyk:y=Int.ofNat k
   ·have e:oth k (Ks.take (q + 1))=oth k (Ks.take q):=by
     rw [et];unfold oth;rw [List.filter_append];simp [hyk]
    have h:=(diJ (csV cs) (csV Ks) n i Ks.length ck b j l m k q (fun y=>(oth k (Ks.take q)).getD y 0) y).at (List.mem_range.2 (show (oth k (Ks.take q)).length < 9 by omega))
    simp only [rowC_csV] at h
    rw [e]
    refine (diFr hH h diPlI (And.intro c1 (And.intro c2 (And.intro (o_nne hyk) trivial))) (by simp) (by simp) rfl rfl).mono ?_
    rintro x tm st ⟨rfl,rfl,rfl⟩
    exact ⟨rfl,rfl,rfl⟩
   ·have e:oth k (Ks.take (q + 1))=oth k (Ks.take q)++[y]:=by
     rw [et];unfold oth;rw [List.filter_append]
     have:(!decide (y=Int.ofNat k))=true:=by simp only [hyk,decide_false,Bool.not_false]
     rw [List.filter_cons,this];rfl
    have h:=(diI (csV cs) (csV Ks) n i Ks.length ck b j l m k q (fun y=>(oth k (Ks.take q)).getD y 0) y).at (List.mem_range.2 (show (oth k (Ks.take q)).length < 8 by omega))
    simp only [rowC_csV] at h
    have e2:(oth k (Ks.take q)++[y]).length=(oth k (Ks.take q)).length + 1:=by simp
    have e3:csV (oth k (Ks.take q)++[y])=csV (oth k (Ks.take q))++[SV.int .i64 y]:=by simp [csV]
    rw [e]
    refine (diFr hH h diPlI (And.intro c1 (And.intro c2 (And.intro (o_ne hyk) (And.intro c1 (And.intro c2 trivial))))) (by simp) (by simp) rfl rfl).mono ?_
    rintro x tm st ⟨rfl,rfl,rfl⟩
    refine ⟨rfl,?_,?_⟩
    ·show _=((sF n i Ks.length ck b j l m k q (oth k (Ks.take q)++[y]).length (csV (oth k (Ks.take q)++[y]))).w (csV Ks)).1
     rw [e2,e3]
    ·show _=((sF n i Ks.length ck b j l m k q (oth k (Ks.take q)++[y]).length (csV (oth k (Ks.take q)++[y]))).w (csV Ks)).2
     rw [e2,e3]
  ·rintro tm st ⟨-,rfl,rfl⟩
   have hp2:(oth k (Ks.take (q + 1))).length≤q + 1:=Nat.le_trans (List.length_filter_le _ _) (by rw [List.length_take];omega)
   have h:=(diK (csV cs) (csV Ks) n i Ks.length ck b j l m k q (fun y=>(oth k (Ks.take (q + 1))).getD y 0)).at (List.mem_range.2 (show (oth k (Ks.take (q + 1))).length < 9 by omega))
   simp only [rowC_csV] at h
   refine (diFr hH h diPlK (And.intro (o_add (by simp only [Int.ofNat_eq_natCast];omega)) trivial) (by simp) (by simp) rfl rfl).mono ?_
   rintro x tm st ⟨rfl,rfl,rfl⟩
   exact .inl ⟨rfl,q + 1,by show q + 1≤Ks.length;omega,by show Ks.length - (q + 1) < Ks.length - q;omega,rfl,rfl⟩
 ·have hq2:q=Ks.length:=by
   replace hq:q≤Ks.length:=hq
   omega
  subst hq2
  have h:=(diHN (csV cs) (csV Ks) n i Ks.length ck b j l m k Ks.length (fun y=>(oth k (Ks.take Ks.length)).getD y 0)).at (List.mem_range.2 (show (oth k (Ks.take Ks.length)).length < 9 by omega))
  simp only [rowC_csV] at h
  refine CodeL.app (diFr hH h diPlH (And.intro (o_nlt (by omega)) trivial) (by simp) (by simp) rfl rfl) (fun tm st h=>by cases h.1) ?_
  rintro x tm st hx ⟨rfl,rfl,rfl⟩
  refine .inr ⟨hx,rfl,?_,?_⟩<;>rw [List.take_length]
include hH in
theorem diPop (H:DiI Ks D b j z m ck u) (hk:k < 8) (hu:u + 100≤uMax):CodeL w0 nDi (flatC cCDi) (sKi [(95,.bool true)] n i k Ks D b j z m ck).1 (sKi [(95,.bool true)] n i k Ks D b j z m ck).2 fun x tm st=>x=.normal∧DiTo n i (u + 10) tm st:=by
 rw [kCDi_eq]
 -- behind the call: whether it was there,or not
 have key:∀ (D':Row) (z':Obs) (m':Int),DiI (oth k Ks) D' (upN b k false) j z' m' (ckp (oth k Ks).length) (u + 10)→CodeL w0 nDi ((kCDi.drop 3).take 2++([.block 3 (.loop b2Di)]++kCDi.drop 6)) (sKi [] n i k Ks D' b j z' m' ck).1 (sKi [] n i k Ks D' b j z' m' ck).2 fun x tm st=>x=.normal∧DiTo n i (u + 10) tm st:=by
  intro D' z' m' H2
  refine CodeL.app (diFr hH (diR (csV cs) (csV Ks) n i Ks.length ck b j (lD D' z') m' k) diPlR trivial (by simp) (by simp) rfl rfl) ?_ (fun x tm st hx h=>absurd h.1 hx)
  rintro tm st ⟨-,rfl,rfl⟩
  refine CodeL.app (P1:=fun x tm st=>x=.normal∧tm=(sFi n i k Ks.length Ks (oth k Ks) b j (lD D' z') m' ck).1∧st=(sFi n i k Ks.length Ks (oth k Ks) b j (lD D' z') m' ck).2) (CodeQ.row (CodeQ.block ((diSeek hH H.few).mono ?_))) ?_ (fun x tm st hx h=>absurd h.1 hx)
  ·rintro x tm st ⟨rfl,rfl,rfl⟩
   exact ⟨rfl,rfl,rfl⟩
  ·rintro tm st ⟨-,rfl,rfl⟩
   have h8:=H2.few
   have h:=(diL (csV cs) n i Ks.length ck b j (lD D' z') m' Ks.length (fun y=>(oth k Ks).getD y 0)).at (List.mem_range.2 (show k * 9 + (oth k Ks).length < 72 by omega))
   have q1:(k * 9 + (oth k Ks).length) % 9=(oth k Ks).length:=by omega
   have q2:(k * 9 + (oth k Ks).length) / 9=k:=by omega
   simp only [q1,q2,rowC_csV] at h
   refine CodeL.sub (Nat.le_of_ble_eq_true (by kernel_rfl)) rfl ((QT.code (tl:=[]) hH h diPlL trivial (hidC (by simp))).mono ?_)
   rintro x tm st ⟨rfl,rfl,rfl⟩
   exact ⟨rfl,oth k Ks,D',_,j,z',m',_,H2,rfl,rfl⟩
 cases hb:b k with
 | true =>
  have hg:W.get D (vnum (Int.ofNat k))=some (vnum (j k)):=by rw [H.has k hk,if_pos hb]
  have h:=(diPY (csV cs) (csV Ks) n i Ks.length ck b j D z m).at (List.mem_range.2 hk)
  rw [upN_self hb] at h
  have c1:=zGet (b:=1) (n:=m) (lD_get D z) hg
  have c2:=zDel (b:=1) H.hj (by omega) (lD_get D z) hg (lD_put D (W.del D (vnum (Int.ofNat k))) z)
  refine CodeL.app (diFr hH h diPlQ (And.intro c1 (And.intro c1 (And.intro c2 (And.intro (o_neV _ rfl rfl) trivial)))) (by simp) (by simp) rfl rfl) ?_ (fun x tm st hx h=>absurd h.1 hx)
  rintro tm st ⟨-,rfl,rfl⟩
  exact key _ _ _ ((H.del hk).up (by omega))
 | false =>
  have hg:W.get D (vnum (Int.ofNat k))=none:=by rw [H.has k hk,if_neg (by simp [hb])]
  have h:=(diPN (csV cs) (csV Ks) n i Ks.length ck b j D z m).at (List.mem_range.2 hk)
  rw [upN_self hb] at h
  have c1:=zGetN (b:=1) (n:=m) (lD_get D z) hg
  obtain ⟨z',hz,H'⟩:=H.delN hk hb
  refine CodeL.app (diFr hH h diPlQ (TL.ok_app (And.intro c1 (And.intro c1 trivial)) (TL.ok_app (qRaise_ok H.hj (by omega) (by simp)) (qText_ok H.hj))) (by simp) (by simp) rfl rfl) ?_ (fun x tm st hx h=>absurd h.1 hx)
  rintro tm st ⟨-,rfl,rfl⟩
  rw [hz]
  exact key _ _ _ (H'.up (by omega))
include hH in
theorem diRound (hn:n * 3≤cs.length) (H:DiI Ks D b j z m ck u) (hi:i < n) (hu:u + 200≤uMax) :
  CodeL w0 nDi (flatC (unBlock (atC k1Di 2))) (sDi n i Ks D b j z m ck).1 (sDi n i Ks D b j z m ck).2 fun x tm st=>x=.normal∧DiTo n i (u + 10) tm st:=by
 obtain ⟨x0,h0⟩:∃ x0,cs[i * 3 + 0]?=some x0:=⟨_,List.getElem?_eq_getElem (by omega)⟩
 obtain ⟨x1,h1⟩:∃ x0,cs[i * 3 + 1]?=some x0:=⟨_,List.getElem?_eq_getElem (by omega)⟩
 obtain ⟨x2,h2⟩:∃ x0,cs[i * 3 + 2]?=some x0:=⟨_,List.getElem?_eq_getElem (by omega)⟩
 have a:=rowAt3 (n:=n) hi
 obtain ⟨k,hk,e0⟩:∃ k,k < 8∧andI x0 7=Int.ofNat k:=⟨(x0 % 8).toNat,by omega,by rw [andI_7];simp only [Int.ofNat_eq_natCast];omega⟩
 have m1:andI x1 3=0∨andI x1 3=1∨andI x1 3=2∨andI x1 3=3:=by rw [andI_3];omega
 rw [kbDi_eq]
 refine CodeL.app (diFr hH ((diW (csV cs) (csV Ks) n i Ks.length ck b j D z m (andI x1 3) x0 x1).at (List.mem_range.2 hk)) diPlW (And.intro a (And.intro (csV_at h0) (And.intro (o_i64 e0) (And.intro a (And.intro (csV_at h1) (And.intro rfl trivial)))))) (by simp) (by simp) rfl rfl) ?_ (fun x tm st hx h=>absurd h.1 hx)
 rintro tm st ⟨-,rfl,rfl⟩
 refine CodeQ.row (CodeQ.block (CodeL.code ?_))
 rw [kSDi_eq]
 have fin:∀ x tm st,(x=Ex.normal∧DiTo n i (u + 10) tm st)→(x.out 2=.normal∧DiTo n i (u + 10) tm st):=by
  rintro x tm st ⟨rfl,h⟩
  exact ⟨rfl,h⟩
 rcases m1 with e | e | e | e
 ·rw [e]
  refine CodeL.app (diFr hH (diX0 (csV cs) (csV Ks) n i Ks.length ck b j D z m k) diPlX trivial (by simp) (by simp) rfl rfl) ?_ (fun x tm st hx h=>absurd h.1 hx)
  rintro tm st ⟨-,rfl,rfl⟩
  exact (CodeQ.row (CodeQ.cond (b:=true) rfl (CodeL.code (diSet hH H hi hk (by omega) h2)))).mono fin
 ·rw [e]
  refine CodeL.app (diFr hH (diX1 (csV cs) (csV Ks) n i Ks.length ck b j D z m k) diPlX trivial (by simp) (by simp) rfl rfl) ?_ (fun x tm st hx h=>absurd h.1 hx)
  rintro tm st ⟨-,rfl,rfl⟩
  refine (CodeQ.row (CodeQ.cond (b:=false) rfl (CodeL.code (?_:CodeL w0 nDi (flatC cBDi) _ _ fun x tm st=>x=.normal∧DiTo n i (u + 10) tm st)))).mono fin
  rw [kBDi_eq]
  refine CodeL.app (diFr hH (diY (csV cs) (csV Ks) n i Ks.length ck b j D z m k) diPlY trivial (by simp) (by simp) rfl rfl) ?_ (fun x tm st hx h=>absurd h.1 hx)
  rintro tm st ⟨-,rfl,rfl⟩
  exact CodeQ.row (CodeQ.cond (b:=true) rfl (CodeL.code (diPop hH H hk (by omega))))
 ·rw [e]
  refine CodeL.app (diFr hH (diX2 (csV cs) (csV Ks) n i Ks.length ck b j D z m k) diPlX trivial (by simp) (by simp) rfl rfl) ?_ (fun x tm st hx h=>absurd h.1 hx)
  rintro tm st ⟨-,rfl,rfl⟩
  exact (CodeQ.row (CodeQ.cond (b:=false) rfl (CodeL.code (diGot hH H hk)))).mono fin
 ·rw [e]
  refine CodeL.app (diFr hH (diX3 (csV cs) (csV Ks) n i Ks.length ck b j D z m k) diPlX trivial (by simp) (by simp) rfl rfl) ?_ (fun x tm st hx h=>absurd h.1 hx)
  rintro tm st ⟨-,rfl,rfl⟩
  exact (CodeQ.row (CodeQ.cond (b:=true) rfl (CodeL.code (diSet hH H hi hk (by omega) h2)))).mono fin
include hH in
theorem diLoop (hn:n * 3≤cs.length):CodeQ w0 nDi (.loop b1Di) (sDi n 0 [] [] (fun _=>false) (fun _=>0) [] 23 (some 0)).1 (sDi n 0 [] [] (fun _=>false) (fun _=>0) [] 23 (some 0)).2 fun x tm st =>
  x=.exit 0∧∃ i,i≤80∧DiTo n i (100 + 10 * i) tm st:=by
 refine CodeQ.loop (α:=Nat × List Int × Row × (Nat→Bool) × (Nat→Int) × Obs × Int × Option Nat) (S:=fun p=>sDi n p.1 p.2.1 p.2.2.1 p.2.2.2.1 p.2.2.2.2.1 p.2.2.2.2.2.1 p.2.2.2.2.2.2.1 p.2.2.2.2.2.2.2)
  (Inv:=fun p=>p.1≤80∧DiI p.2.1 p.2.2.1 p.2.2.2.1 p.2.2.2.2.1 p.2.2.2.2.2.1 p.2.2.2.2.2.2.1 p.2.2.2.2.2.2.2 (100 + 10 * p.1)) (μ:=fun p=>80 - p.1) (fun p hp=>?_) (0,[],[],fun _=>false,fun _=>0,[],23,some 0)
  ⟨Nat.zero_le _,⟨rfl,fun k _=>rfl,List.nodup_nil,fun x hx=>(by cases hx),HJ.di,.inr ⟨rfl,rfl⟩⟩⟩
 obtain ⟨i,Ks,D,b,j,z,m,ck⟩:=p
 obtain ⟨hi80,H⟩:=hp
 replace hi80:i≤80:=hi80
 replace H:DiI Ks D b j z m ck (100 + 10 * i):=H
 refine CodeL.code ?_
 rw [k1Di_eq]
 by_cases hi:i < n
 ·have t1:some (SV.bool (ltI (Int.ofNat i) (Int.ofNat n)))=some (SV.bool true):=o_lt (ofN_lt hi)
  by_cases h80:i < 80
  ·have t2:some (SV.bool (ltI (Int.ofNat i) 80))=some (SV.bool true):=o_lt (by simp only [Int.ofNat_eq_natCast];omega)
   refine CodeL.app (diFr hH (diTT (csV cs) (csV Ks) n i Ks.length ck b j D z m) diPlT (And.intro t1 (And.intro t2 trivial)) (by simp) (by simp) rfl rfl) ?_ (fun x tm st hx h=>absurd h.1 hx)
   rintro tm st ⟨-,rfl,rfl⟩
   refine CodeL.app (P1:=fun x tm st=>x=.normal∧DiTo n i (100 + 10 * i + 10) tm st) (CodeQ.row (CodeQ.block (CodeL.code ((diRound hH hn H hi (by simp only [uMax];omega)).mono ?_)))) ?_ (fun x tm st hx h=>absurd h.1 hx)
   ·rintro x tm st ⟨rfl,h⟩
    exact ⟨rfl,h⟩
   ·rintro tm st ⟨-,Ks',D',b',j',z',m',ck',H',rfl,rfl⟩
    refine (diFr hH ((diU (csV cs) (csV Ks') n Ks'.length ck' b' j' D' z' m').at (List.mem_range.2 h80)) diPlU (tl:=[]) trivial (by simp) (by simp) rfl rfl).mono ?_
    rintro x tm st ⟨rfl,rfl,rfl⟩
    exact .inl ⟨rfl,(i + 1,Ks',D',b',j',z',m',ck'),⟨by show i + 1≤80;omega,H'.up (by show 100 + 10 * i + 10≤100 + 10 * (i + 1);omega)⟩,by show 80 - (i + 1) < 80 - i;omega,rfl,rfl⟩
  ·have t2:some (SV.bool (ltI (Int.ofNat i) 80))=some (SV.bool false):=o_nlt (by simp only [Int.ofNat_eq_natCast];omega)
   refine CodeL.app (diFr hH (diTG (csV cs) (csV Ks) n i Ks.length ck b j D z m) diPlT (And.intro t1 (And.intro t2 trivial)) (by simp) (by simp) rfl rfl) (fun tm st h=>by cases h.1) ?_
   rintro x tm st hx ⟨rfl,rfl,rfl⟩
   exact .inr ⟨hx,rfl,i,hi80,Ks,D,b,j,z,m,ck,H,rfl,rfl⟩
 ·have t1:some (SV.bool (ltI (Int.ofNat i) (Int.ofNat n)))=some (SV.bool false):=o_nlt (fun h=>hi (Int.ofNat_lt.1 h))
  refine CodeL.app (diFr hH (diTF (csV cs) (csV Ks) n i Ks.length ck b j D z m) diPlT (And.intro t1 trivial) (by simp) (by simp) rfl rfl) (fun tm st h=>by cases h.1) ?_
  rintro x tm st hx ⟨rfl,rfl,rfl⟩
  exact .inr ⟨hx,rfl,i,hi80,Ks,D,b,j,z,m,ck,H,rfl,rfl⟩
abbrev ks (Ks:List Int):List V:=Ks.map vnum
theorem DiI.h1 (H:DiI Ks D b j z m ck u):HJ (l1 (lD D z) m) (m + 1) (u + 3):=H.hj.add _ (by simp only [oB,List.length_cons,List.length_nil];omega)
theorem DiI.h2 (H:DiI Ks D b j z m ck u):HJ (l2 (lD D z) m (ks Ks)) (m + 1 + 1) (u + 12):=H.h1.add _ (by have:=H.few;simp only [oL,List.length_map,List.length_nil];omega)
theorem DiI.h3 (H:DiI Ks D b j z m ck u):HJ (l3 (lD D z) m (ks Ks)) (m + 1 + 1 + 1) (u + 21):=H.h2.add _ (by have:=H.few;simp only [oT,List.length_map,List.length_nil];omega)
theorem DiI.h4 (H:DiI Ks D b j z m ck u) (a:Int):HJ (l4 (lD D z) m (ks Ks) a) (m + 1 + 1 + 1 + 1) (u + 24):=H.h3.add _ (by simp only [oW,List.length_cons,List.length_nil];omega)
abbrev sZi (x:List (Nat × SV)) (n i:Nat) (Ks:List Int) (D:Row) (b:Nat→Bool) (j:Nat→Int) (z:Obs) (m:Int) (ck:Option Nat):SS:=(sZ x n i Ks.length ck b j D z m (ks Ks)).w (csV Ks)
include hH in
theorem diItems (H:DiI Ks D b j z m ck u) (hu:u + 100≤uMax):CodeQ w0 nDi (.loop b3Di) (sZi [(19,.int .i64 (Int.ofNat 0))] n i Ks D b j z m ck).1 (sZi [(19,.int .i64 (Int.ofNat 0))] n i Ks D b j z m ck).2 fun x tm st=>x=.exit 5∧∃ q,tm=(sZi [(19,.int .i64 q)] n i Ks D b j z m ck).1∧st=(sZi [(19,.int .i64 q)] n i Ks D b j z m ck).2:=by
 refine CodeQ.loop (α:=Nat) (S:=fun q=>sZi [(19,.int .i64 (Int.ofNat q))] n i Ks D b j z m ck) (Inv:=fun q=>q≤Ks.length) (μ:=fun q=>Ks.length - q) (fun q hq=>?_) 0 (Nat.zero_le _)
 have h8:=H.few
 refine CodeL.code ?_
 rw [k4Di_eq]
 by_cases hlt:q < Ks.length
 ·refine CodeL.app (diFr hH (diVY (csV cs) (csV Ks) n i Ks.length ck b j D z m (ks Ks) q) diPlV (And.intro (o_lt (ofN_lt hlt)) trivial) (by simp) (by simp) rfl rfl) ?_ (fun x tm st hx h=>absurd h.1 hx)
  rintro tm st ⟨-,rfl,rfl⟩
  refine CodeL.app (P1:=fun x tm st=>x=.normal∧tm=(sZi [(19,.int .i64 (Int.ofNat q))] n i Ks D b j z m ck).1∧st=(sZi [(19,.int .i64 (Int.ofNat q))] n i Ks D b j z m ck).2) (CodeQ.row (CodeQ.block (CodeL.code ?_))) ?_ (fun x tm st hx h=>absurd h.1 hx)
  ·obtain ⟨y0,hy0⟩:∃ y0,Ks[0]?=some y0:=⟨_,List.getElem?_eq_getElem (by omega)⟩
   obtain ⟨yq,hyq⟩:∃ yq,Ks[q]?=some yq:=⟨_,List.getElem?_eq_getElem hlt⟩
   have g:get (l2 (lD D z) m (ks Ks)) (m + 1 + 1)=some (oL (ks Ks)):=get_last H.h1 _
   have c1:tRes xAt 1 (hZ (l2 (lD D z) m (ks Ks)) (m + 1 + 1)) [(vr (m + 1 + 1)).sv,.int .i64 (Int.ofNat 0)] (vt (vnum y0) true) (hZ (l2 (lD D z) m (ks Ks)) (m + 1 + 1)):=zAt g (i:=0) (by show (Ks.map vnum)[0]?=_;rw [List.getElem?_map,hy0];rfl)
   have c2:tRes xAt 1 (hZ (l2 (lD D z) m (ks Ks)) (m + 1 + 1)) [(vr (m + 1 + 1)).sv,.int .i64 (Int.ofNat q)] (vt (vnum yq) true) (hZ (l2 (lD D z) m (ks Ks)) (m + 1 + 1)):=zAt g (i:=q) (by show (Ks.map vnum)[q]?=_;rw [List.getElem?_map,hyq];rfl)
   refine (diFr hH (diZ (csV cs) (csV Ks) n i Ks.length ck b j D z m (ks Ks) q y0 yq) diPlZ ?_ (by simp) (by simp) rfl rfl).mono ?_
   ·unfold tDiZ
    exact And.intro (rowAt1 8 ck hlt) (And.intro (csV_at hyq) (And.intro c1 (And.intro (zKind g rfl) (And.intro (zKind g rfl) (And.intro (zLen g (by simp [oL])) (And.intro (o_nlt (by simp only [Int.ofNat_eq_natCast];omega)) (And.intro (o_ge (by simp only [Int.ofNat_eq_natCast];omega)) (And.intro (o_lt (ofN_lt hlt)) (And.intro c2 (And.intro (o_neV _ rfl rfl) trivial))))))))))
   ·rintro x tm st ⟨rfl,rfl,rfl⟩
    exact ⟨rfl,rfl,rfl⟩
  ·rintro tm st ⟨-,rfl,rfl⟩
   refine (diFr hH (diS (csV cs) (csV Ks) n i Ks.length ck b j D z m (ks Ks) q) diPlS (And.intro (o_add (by simp only [Int.ofNat_eq_natCast];omega)) trivial) (by simp) (by simp) rfl rfl).mono ?_
   rintro x tm st ⟨rfl,rfl,rfl⟩
   exact .inl ⟨rfl,q + 1,by show q + 1≤Ks.length;omega,by show Ks.length - (q + 1) < Ks.length - q;omega,rfl,rfl⟩
 ·refine CodeL.app (diFr hH (diVN (csV cs) (csV Ks) n i Ks.length ck b j D z m (ks Ks) q) diPlV (And.intro (o_nlt (fun h=>hlt (Int.ofNat_lt.1 h))) trivial) (by simp) (by simp) rfl rfl) (fun tm st h=>by cases h.1) ?_
  rintro x tm st hx ⟨rfl,rfl,rfl⟩
  exact .inr ⟨hx,rfl,_,rfl,rfl⟩
include hH in
theorem diEnd (H:DiI Ks D b j z m ck u) (hu:u + 100≤uMax):CodeL w0 nDi (kDi.drop 19) ((sY n i Ks.length ck b j D z m (ks Ks)).w (csV Ks)).1 ((sY n i Ks.length ck b j D z m (ks Ks)).w (csV Ks)).2 fun x tm st=>(x=.normal∨x=.ret)∧resS Tryz.prog st.m tm rsDi=some (.bool true):=by
 have gW:∀ a,get (l4 (lD D z) m (ks Ks) a) (m + 1 + 1 + 1 + 1)=some (oW (m + 1 + 1 + 1) a):=fun a=>get_last H.h3 _
 have gT:∀ a,get (l4 (lD D z) m (ks Ks) a) (m + 1 + 1 + 1)=some (oT (ks Ks)):=fun a=>get_app_l (get_last H.h2 _)
 have gD:∀ a,get (l4 (lD D z) m (ks Ks) a) 21=some ⟨3,[],0,[],D⟩:=fun a=>get_app_l (get_app_l (get_app_l (get_app_l (lD_get D z))))
 have cI:(hZ (l4 (lD D z) m (ks Ks) 0) (m + 1 + 1 + 1 + 1)).items (vr (m + 1 + 1 + 1 + 1))=[vr (m + 1 + 1 + 1),vnum 0]:=by
  unfold Hp.items;rw [of_vr,gW 0];rfl
 have hl:=H.len
 cases Ks with
 | nil =>
  refine QE.frame hH _ (diF0 (csV cs) (csV []) n i ck b j D z m) diPlF ?_ (Nat.le_of_ble_eq_true (by kernel_rfl)) rfl (by omega) (t0:=8) rfl
  unfold tDiF0
  exact And.intro cI (And.intro (zKind (gW 0) rfl) (And.intro (zName (gW 0) rfl) (And.intro cI (And.intro (zKind (gW 0) rfl) (And.intro (zName (gW 0) rfl) (And.intro (zKind (gT 0) rfl) (And.intro (zKind (gT 0) rfl) (And.intro (zKind (gT 0) rfl) (And.intro (zLen (gT 0) rfl) (And.intro (zKind (gT 0) rfl) (And.intro (zKind (gT 0) rfl) (And.intro (zKind (gT 0) rfl) (And.intro (zLen (gT 0) rfl) trivial)))))))))))))
 | cons y0 T =>
  have c1:tRes xAt 1 (hZ (l4 (lD D z) m (ks (y0 :: T)) 1) (m + 1 + 1 + 1 + 1)) [(vr (m + 1 + 1 + 1)).sv,.int .i64 (Int.ofNat 0)] (vt (vnum y0) true) (hZ (l4 (lD D z) m (ks (y0 :: T)) 1) (m + 1 + 1 + 1 + 1)):=zAt (gT 1) (i:=0) rfl
  have c2:tRes xSetAt 1 (hZ (l4 (lD D z) m (ks (y0 :: T)) 0) (m + 1 + 1 + 1 + 1)) [(vr (m + 1 + 1 + 1 + 1)).sv,.int .i64 (Int.ofNat 1),(vnum 1).sv] (.bool true) (hZ (l4 (lD D z) m (ks (y0 :: T)) 1) (m + 1 + 1 + 1 + 1)) :=
   zSetAt (H.h4 0) (by omega) (gW 0) (i:=1) (by simp [oW]) (put_last H.h3 _ _)
  refine QE.frame hH _ (diF (csV cs) (csV (y0 :: T)) n i (y0 :: T).length ck b j D z m (ks (y0 :: T)) y0) diPlF ?_ (Nat.le_of_ble_eq_true (by kernel_rfl)) rfl (by omega) (t0:=8) rfl
  have cL:((oT (ks (y0 :: T))).items.length:Int)=Int.ofNat (y0 :: T).length:=by simp [oT]
  unfold tDiF
  exact And.intro cI (And.intro (zKind (gW 0) rfl) (And.intro (zName (gW 0) rfl) (And.intro cI (And.intro (zKind (gW 0) rfl) (And.intro (zName (gW 0) rfl) (And.intro (zKind (gT 0) rfl) (And.intro (zKind (gT 0) rfl) (And.intro (zKind (gT 0) rfl) (And.intro (zLen (gT 0) cL) (And.intro (o_ge (by simp only [Int.ofNat_eq_natCast];omega)) (And.intro (zKind (gT 0) rfl) (And.intro (zKind (gT 0) rfl) (And.intro (zKind (gT 0) rfl) (And.intro (zLen (gT 0) cL)
   (And.intro (o_nge (by simp only [Int.ofNat_eq_natCast,List.length_cons];omega)) (And.intro c2 (And.intro c1 (And.intro (o_neq (by simp only [Int.ofNat_eq_natCast,List.length_cons];omega)) (And.intro (rowAt1 8 ck (by simp)) (And.intro (csV_at rfl) (And.intro (o_eV _ rfl rfl) (And.intro (zSize (gD 1) (by simp [hl])) (And.intro (o_lt (by simp only [Int.ofNat_eq_natCast,List.length_cons];omega)) trivial)))))))))))))))))))))))
include hH in
theorem diAll (hn:n * 3≤cs.length):CodeQ w0 nDi cDi (initT [.sl 0 0 n 3 none] 0 .e) (st0N 1 []) fun x tm st=>(x=.normal∨x=.ret)∧resS Tryz.prog st.m tm rsDi=some (.bool true):=by
 refine CodeL.code ?_
 rw [kDi_eq]
 refine CodeL.app (PT.code (s:=(initT [.sl 0 0 n 3 none] 0 .e,st0N 1 [])) hH (diP (csV cs) n) diPlP trivial (hidC (by simp))) ?_ (fun x tm st hx h=>absurd h.1 hx)
 rintro tm st ⟨-,rfl,rfl⟩
 refine CodeL.app (P1:=fun x tm st=>x=.normal∧∃ i,i≤80∧DiTo n i (100 + 10 * i) tm st) (CodeQ.row (CodeQ.block ((diLoop hH hn).mono ?_))) ?_ (fun x tm st hx h=>absurd h.1 hx)
 ·rintro x tm st ⟨rfl,h⟩
  exact ⟨rfl,h⟩
 ·rintro tm st ⟨-,i,hi,Ks,D,b,j,z,m,ck,H,rfl,rfl⟩
  have hu:100 + 10 * i + 100≤uMax:=by simp only [uMax];omega
  have h8:=H.few
  have hl:=H.len
  have gB:get (l1 (lD D z) m) (m + 1)=some oB:=get_last H.hj _
  have cI:(hZ (l1 (lD D z) m) (m + 1)).items (vr (m + 1))=[vr 21,vfun [100,105,99,116,46,107,101,121,115]]:=by
   unfold Hp.items;rw [of_vr,gB];rfl
  have cK1:(hZ (l1 (lD D z) m) (m + 1)).keys (vr 21)=ks Ks:=by
   unfold Hp.keys;rw [of_vr,show get (l1 (lD D z) m) 21=_ from get_app_l (lD_get D z)];exact H.keys
  have cK2:(hZ (l2 (lD D z) m (ks Ks)) (m + 1 + 1)).keys (vr 21)=ks Ks:=by
   unfold Hp.keys;rw [of_vr,show get (l2 (lD D z) m (ks Ks)) 21=_ from get_app_l (get_app_l (lD_get D z))];exact H.keys
  have gD2:get (l2 (lD D z) m (ks Ks)) 21=some ⟨3,[],0,[],D⟩:=get_app_l (get_app_l (lD_get D z))
  have hE:=(diE (csV cs) (csV Ks) n i ck b j D z m (fun y=>Ks.getD y 0)).at (List.mem_range.2 (show Ks.length < 9 by omega))
  simp only [rowK_map] at hE
  refine CodeL.app (diFr hH hE diPlE ?_ (by simp) (by simp) rfl rfl) ?_ (fun x tm st hx h=>absurd h.1 hx)
  ·unfold tDiE
   exact And.intro (tMk H.hj (by omega) ⟨by decide,by decide⟩ (by simp [uMax])) (And.intro cI (And.intro (zKind gB rfl) (And.intro (zKind gB rfl) (And.intro cI (And.intro cK1 (And.intro (tMk H.h1 (by omega) ⟨by decide,by decide⟩ (by simp only [List.length_map,uMax];omega)) trivial))))))
  rintro tm st ⟨-,rfl,rfl⟩
  refine CodeL.app (diFr hH (diM (csV cs) (csV Ks) n i Ks.length ck b j D z m (ks Ks)) diPlM (And.intro (zSize gD2 (by simp [hl])) (And.intro (o_neV _ rfl rfl) trivial)) (by simp) (by simp) rfl rfl) ?_ (fun x tm st hx h=>absurd h.1 hx)
  rintro tm st ⟨-,rfl,rfl⟩
  refine CodeL.app (diFr hH (diO (csV cs) (csV Ks) n i Ks.length ck b j D z m (ks Ks)) diPlO trivial (by simp) (by simp) rfl rfl) ?_ (fun x tm st hx h=>absurd h.1 hx)
  rintro tm st ⟨-,rfl,rfl⟩
  refine CodeL.app (P1:=fun x tm st=>x=.normal∧∃ q,tm=(sZi [(19,.int .i64 q)] n i Ks D b j z m ck).1∧st=(sZi [(19,.int .i64 q)] n i Ks D b j z m ck).2) (CodeQ.row (CodeQ.block ((diItems hH H hu).mono ?_))) ?_ (fun x tm st hx h=>absurd h.1 hx)
  ·rintro x tm st ⟨rfl,q,rfl,rfl⟩
   exact ⟨rfl,q,rfl,rfl⟩
  ·rintro tm st ⟨-,q,rfl,rfl⟩
   have hN:=(diN (csV cs) (csV Ks) n i ck b j D z m (fun y=>Ks.getD y 0) q).at (List.mem_range.2 (show Ks.length < 9 by omega))
   simp only [rowK_map] at hN
   refine CodeL.app (diFr hH hN diPlJ ?_ (by simp) (by simp) rfl rfl) ?_ (fun x tm st hx h=>absurd h.1 hx)
   ·unfold tDiI
    exact And.intro cK2 (And.intro (tMk H.h2 (by omega) ⟨by decide,by decide⟩ (by simp only [List.length_map,uMax];omega)) (And.intro (tMk H.h3 (by omega) ⟨by decide,by decide⟩ (by simp [uMax])) trivial))
   rintro tm st ⟨-,rfl,rfl⟩
   exact diEnd hH H hu
end
theorem diNil0:LawT fDi [.slice none 0 0] :=
 lawQ (c:=cDi) (vs:=[.nils]) Tryz.func8 (by kernel_rfl) (Nat.le_of_ble_eq_true (by kernel_rfl)) (Nat.le_of_ble_eq_true (by kernel_rfl)) (.cons .nils .nil) fun w0 hg =>
  CodeL.code (PE.code (s:=(initT [.nils] 0 .e,st0 [])) (Hd.of _) diNil diPlN trivial)
theorem dicts_any:LawI fDi 35 3 :=
 lawI (by omega) (c:=cDi) Tryz.func8 (by kernel_rfl) (Nat.le_of_ble_eq_true (by kernel_rfl)) diNil0 fun w0 n cs hH hn hw=>diAll hH hn
end
end Go.Proofs.YtobooojhmgicpaaGreatDoor.W.E
