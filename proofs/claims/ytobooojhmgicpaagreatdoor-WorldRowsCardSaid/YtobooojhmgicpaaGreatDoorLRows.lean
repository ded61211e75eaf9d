/- LRows -/
import Derived.Test.YtobooojhmgicpaaGreatDoorLRoP
import Derived.Test.YtobooojhmgicpaaGreatDoorLRoA
set_option linter.unusedVariables false
set_option linter.unusedSimpArgs false
namespace Go.Proofs.YtobooojhmgicpaaGreatDoor.W.E
section
set_option maxRecDepth 100000
open Go.RowKit
abbrev okRo (l:List Code):Prop:=(l.all fun c=>planOkC (plan fRo) c)=true
theorem roPlP:okRo (kRo.take 10):=by delta okRo;kernel_rfl
theorem roPlN:okRo kRo:=by delta okRo;kernel_rfl
theorem roPlT:okRo (k1Ro.take 2):=by delta okRo;kernel_rfl
theorem roPlU:okRo (k1Ro.drop 3):=by delta okRo;kernel_rfl
theorem roPlI:okRo (kbRo.take 1):=by delta okRo;kernel_rfl
theorem roPlL:okRo (kbRo.drop 2):=by delta okRo;kernel_rfl
theorem roPlA:okRo (kARo.take 2):=by delta okRo;kernel_rfl
theorem roPlB:okRo (kARo.drop 2):=by delta okRo;kernel_rfl
theorem roPlC:okRo (kBRo.take 1):=by delta okRo;kernel_rfl
theorem roPlG:okRo ((kBRo.drop 1).take 1):=by delta okRo;kernel_rfl
theorem roPlH:okRo (flatC cCRo):=by delta okRo;kernel_rfl
theorem roPlK:okRo (flatC cDRo):=by delta okRo;kernel_rfl
theorem roPlV:okRo ((kRo.drop 11).take 1):=by delta okRo;kernel_rfl
theorem roPlW:okRo (k2Ro.take 2):=by delta okRo;kernel_rfl
theorem roPlX:okRo (k2Ro.drop 3):=by delta okRo;kernel_rfl
theorem roPlZ:okRo k3Ro:=by delta okRo;kernel_rfl
theorem roPlF:okRo (kRo.drop 13):=by delta okRo;kernel_rfl
theorem rowEq1 (b n i:Nat) (ck:Option Nat):indexAddrV Tryz.prog 43 (.sl b 0 n 1 ck) (.int .i64 (Int.ofNat i))=(match natIx (Int.ofNat i) n with
  | some k=>(match szT Tryz.prog 3 with
   | some s=>bif Nat.beq s 1 then some (SV.ptr b (0 + k * 1)) else none
   | none=>none)
  | none=>none):=by kernel_rfl
theorem rowAt1 (b:Nat) {n i:Nat} (ck:Option Nat) (hi:i < n):indexAddrV Tryz.prog 43 (.sl b 0 n 1 ck) (.int .i64 (Int.ofNat i))=some (.ptr b i):=by
 have hs:szT Tryz.prog 3=some 1:=by kernel_rfl
 rw [rowEq1,natIx_lt hi]
 simp only [hs]
 simp
theorem roSl (q:Nat):sliceV Tryz.prog (mkT [(98,.int .i64 (Int.ofNat q))]) 43 (.sl 6 0 (q + 1) 1 none) none (some (.tmp 98)) none=some (.sl 6 0 q 1 none):=by
 have hU:Tryz.prog.underlying 43=some (.slice 3):=by kernel_rfl
 have hs:szT Tryz.prog 3=some 1:=by kernel_rfl
 have he:evx (mkT [(98,SV.int .i64 (Int.ofNat q))]) (.tmp 98)=some (.int .i64 (Int.ofNat q)):=rfl
 have hn:natLe (Int.ofNat q) (q + 1)=some q:=by
  have hb:Nat.ble q (q + 1)=true:=Nat.ble_eq_true_of_le (by omega)
  show (bif Nat.ble q (q + 1) then some q else none)=_
  rw [hb];rfl
 unfold sliceV
 rw [hU]
 simp only [hs,bounds3,bdV,he,knowC,hn]
 simp
theorem lR_get (R:List Int) (z:Obs):get (lR R z) 21=some ⟨1,[],0,R.map vnum,[]⟩:=by kernel_rfl
theorem lR_put (R Q:List Int) (z:Obs):put (lR R z) 21 ⟨1,[],0,Q.map vnum,[]⟩=lR Q z:=by kernel_rfl
theorem lR_app (R:List Int) (z y:Obs):lR R z++y=lR R (z++y):=by
 unfold lR;rw [List.append_assoc];rfl
theorem HJ.ro:HJ (lR [] []) 23 100:=⟨by
 have h:((lR [] []).all fun p=>decide (p.1≤23))=true:=by kernel_rfl
 exact fun p hp=>by simpa using List.all_eq_true.1 h p hp,by decide,by decide,Nat.le_of_ble_eq_true (by kernel_rfl)⟩
structure RoI (R:List Int) (z:Obs) (m:Int) (ck:Option Nat) (i u:Nat):Prop where
 len:R.length≤i
 hj:HJ (lR R z) m u
 ck:ck=none∨(R=[]∧ck=some 0)
theorem RoI.up {R:List Int} {z:Obs} {m:Int} {ck:Option Nat} {i u i' u':Nat} (H:RoI R z m ck i u) (hi:i≤i') (hu:u≤u'):RoI R z m ck i' u':=⟨Nat.le_trans H.len hi,H.hj.up hu,H.ck⟩
theorem ofN_lt {a b:Nat} (h:a < b):Int.ofNat a < Int.ofNat b:=by simp only [Int.ofNat_eq_natCast];omega
section
variable {w0:B0} {n:Nat} {cs:List Int} (hH:Hd w0 (foC (csV cs)) 1)
theorem csV_plain (R:List Int):∀ v∈csV R,v.plain=true:=fun v hv=>by
 obtain ⟨y,-,rfl⟩:=List.mem_map.1 hv;rfl
include hH in
theorem roFr {R:List Int} {live:Live} {keep:List Nat} {nx:Nat} {l:List Code} {s s2:SS} {x:Ex} {tl:TL} (h:QT (foW (foC (csV cs)) 6 (csV R)) fRo nRo live keep nx l s s2 x tl) (hp:okRo l) (ht:tl.ok)
  (h0:(0,0)∈live) (h6:(6,6)∈live) (hm:s.2.m.get 6=none) {r:Nat} {ck:Option Nat} (ht0:s.1.get 8=some (.sl 6 0 r 1 ck)) :
  CodeL w0 nRo l (s.w (csV R)).1 (s.w (csV R)).2 (fun x' tm' st'=>x'=x∧tm'=(s2.w (csV R)).1∧st'=(s2.w (csV R)).2) :=
 QT.frame hH _ h hp ht (hidC h0) h6 (csV_plain R) hm (by omega) ht0
abbrev sRo (n i:Nat) (R:List Int) (z:Obs) (m:Int) (ck:Option Nat):SS:=(sR [] n i R.length ck (lR R z) m).w (csV R)
abbrev RoTo (n i j u:Nat) (tm:T SV) (st:St HX):Prop:=∃ R z m ck,RoI R z m ck j u∧tm=(sRo n i R z m ck).1∧st=(sRo n i R z m ck).2
variable {i u:Nat} {R:List Int} {z:Obs} {m:Int} {ck:Option Nat}
include hH in
theorem roPush {x0:Int} (H:RoI R z m ck i u) (hi:i < n) (h200:i < 200) (hu:u + 100≤uMax) (hx:cs[i]?=some x0) :
  CodeL w0 nRo kARo (((sR [(45,.bool true)] n i R.length ck (lR R z) m)).w (csV R)).1 (((sR [(45,.bool true)] n i R.length ck (lR R z) m)).w (csV R)).2 fun x tm st=>x=.normal∧RoTo n i (i + 1) (u + 10) tm st:=by
 have a:=rowAt1 0 none hi
 have d:=csV_at hx
 have hl:=H.len
 rw [show kARo=kARo.take 2++kARo.drop 2 from kARo_eq]
 have H2:HJ (lR (R++[x0]) z) m (u + 1):=by
  rw [← lR_put R]
  exact H.hj.set (lR_get R z) _ (by simp;omega) (by omega)
 refine CodeL.app (roFr hH (roA (csV cs) (csV R) n i R.length ck R z m x0) roPlA ?_ (by simp) (by simp) rfl rfl) ?_ (fun x tm st hx h=>absurd h.1 hx)
 ·have g:=lR_get R z
  unfold tRoA
  refine And.intro a (And.intro d (And.intro (zLen g (by simp)) (And.intro (o_nge (by simp only [Int.ofNat_eq_natCast];omega)) (And.intro (zRep H.hj (by omega) g (by simp) (by simp;omega) ?_) trivial))))
  have e:(R.map vnum).take R.length++[vnum x0]++(R.map vnum).drop R.length=(R++[x0]).map vnum:=by
   rw [List.take_of_length_le (by simp),List.drop_eq_nil_of_le (by simp)];simp
  show put (lR R z) 21 ⟨1,[],0,_,[]⟩=_
  rw [e];exact lR_put R _ z
 ·rintro tm st ⟨-,rfl,rfl⟩
  have e:rowC (fun j=>R.getD j 0) R.length=csV R:=by
   unfold rowC csV
   refine List.ext_getElem? fun j=>?_
   rw [List.getElem?_map,List.getElem?_map]
   by_cases hj:j < R.length
   ·rw [List.getElem?_range hj,List.getElem?_eq_getElem hj]
    simp [hj]
   ·rw [List.getElem?_eq_none (by simpa using hj),List.getElem?_eq_none (by simpa using hj)];rfl
  have e2:(R++[x0]).length=R.length + 1:=by simp
  have e3:csV (R++[x0])=csV R++[SV.int .i64 x0]:=by simp [csV]
  rcases H.ck with rfl | ⟨rfl,rfl⟩
  ·have h:=(roB (csV cs) n i (fun j=>R.getD j 0) (lR (R++[x0]) z) m x0).at (List.mem_range.2 (show R.length < 200 by omega))
   simp only [e] at h
   refine (QT.code hH h roPlB (And.intro a (And.intro d trivial)) (hidC (by simp))).mono ?_
   rintro x tm st ⟨rfl,rfl,rfl⟩
   refine ⟨rfl,R++[x0],z,m,none,⟨by simp;omega,H2.up (by omega),.inl rfl⟩,?_,?_⟩
   ·show _=((sR [] n i (R++[x0]).length none (lR (R++[x0]) z) m).w (csV (R++[x0]))).1
    rw [e2,e3]
   ·show _=((sR [] n i (R++[x0]).length none (lR (R++[x0]) z) m).w (csV (R++[x0]))).2
    rw [e2,e3]
  ·refine (QT.code hH (roB0 (csV cs) n i (lR ([]++[x0]) z) m x0) roPlB (And.intro a (And.intro d trivial)) (hidC (by simp))).mono ?_
   rintro x tm st ⟨rfl,rfl,rfl⟩
   exact ⟨rfl,[]++[x0],z,m,none,⟨by simp,H2.up (by omega),.inl rfl⟩,rfl,rfl⟩
include hH in
theorem roPop (H:RoI R z m ck i u) (h200:i < 200) (hu:u + 100≤uMax) :
  CodeL w0 nRo kBRo (((sR [(45,.bool false)] n i R.length ck (lR R z) m)).w (csV R)).1 (((sR [(45,.bool false)] n i R.length ck (lR R z) m)).w (csV R)).2 fun x tm st=>x=.normal∧RoTo n i (i + 1) (u + 10) tm st:=by
 have hl:=H.len
 rw [show kBRo=kBRo.take 1++((kBRo.drop 1).take 1++[.cond (.tmp 70) cCRo cDRo]) from kBRo_eq]
 by_cases hR:R=[]
 ·subst hR
  refine CodeL.app (roFr hH (roE (csV cs) (csV []) n i 0 ck z m) roPlC (qRaise_ok H.hj (by omega) (by simp)) (by simp) (by simp) rfl rfl) ?_ (fun x tm st hx h=>absurd h.1 hx)
  rintro tm st ⟨-,rfl,rfl⟩
  refine CodeL.app (roFr hH (roGY (csV cs) (csV []) n i 0 ck (m + 1 + 1) m (fun _=>.nils) (e3 (lR [] z) m [] eIndex 4)) roPlG (And.intro (o_eq rfl) trivial) (by simp) (by simp) rfl rfl) ?_ (fun x tm st hx h=>absurd h.1 hx)
  rintro tm st ⟨-,rfl,rfl⟩
  refine CodeQ.row (CodeQ.cond (b:=true) rfl (CodeL.code ((roFr hH (roH (csV cs) (csV []) n i 0 ck z m) roPlH ?_ (by simp) (by simp) rfl rfl).mono ?_)))
  ·have g2:get (e3 (lR [] z) m [] eIndex 4) (m + 1 + 1)=some (o2 eIndex 4 [(vstr sArgs,vr (m + 1))]):=gE2 H.hj (by simp)
   have g1:get (e3 (lR [] z) m [] eIndex 4) (m + 1)=some (o1 []):=gE1 H.hj (by simp)
   unfold tRoC
   exact And.intro (zAt g2 (i:=0) rfl) (And.intro (zKind g2 rfl) (And.intro (zAt g2 (i:=0) rfl) (And.intro (zKind g2 rfl) (And.intro (zGet g2 rfl) (And.intro (zAtN g1 (.inr (by simp [o1]))) trivial)))))
  ·rintro x tm st ⟨rfl,rfl,rfl⟩
   have e:e3 (lR [] z) m [] eIndex 4=lR [] (z++[(m + 1,o1 [])]++[(m + 1 + 1,o2 eIndex 4 [(vstr sArgs,vr (m + 1))])]):=by
    show (lR [] z++_)++_=_
    rw [lR_app,lR_app]
   refine ⟨rfl,[],z++[(m + 1,o1 [])]++[(m + 1 + 1,o2 eIndex 4 [(vstr sArgs,vr (m + 1))])],m + 1 + 1,ck,⟨by simp,?_,H.ck⟩,?_,?_⟩
   ·rw [← e];exact (H.hj.e2 (by simp) (by simp)).up (by omega)
   ·rfl
   ·show _=((sR [] n i 0 ck (lR [] (z++[(m + 1,o1 [])]++[(m + 1 + 1,o2 eIndex 4 [(vstr sArgs,vr (m + 1))])])) (m + 1 + 1)).w (csV [])).2
    rw [← e]
 ·obtain ⟨Q,y,rfl⟩:∃ Q y,R=Q++[y]:=⟨R.dropLast,R.getLast hR,(List.dropLast_concat_getLast hR).symm⟩
  obtain rfl:ck=none:=by
   rcases H.ck with h | ⟨h,-⟩
   ·exact h
   ·exact absurd h hR
  rw [List.length_append,List.length_singleton] at hl
  have g:=lR_get (Q++[y]) z
  have hlen:(((Q++[y]).map vnum).length:Int)=Int.ofNat (Q.length + 1):=by simp
  have H2:HJ (lR Q z) m u:=by
   rw [← lR_put (Q++[y])]
   exact H.hj.set g _ (by simp) (Nat.le_refl _)
  rw [List.length_append,List.length_singleton]
  refine CodeL.app (roFr hH (roC (csV cs) (csV (Q++[y])) n i (Q.length + 1) none Q z m y) roPlC ?_ (by simp) (by simp) rfl rfl) ?_ (fun x tm st hx h=>absurd h.1 hx)
  ·unfold tRoP
   have c1:some (SV.int .i64 (wrapF .i64 (Int.add (-1) (Int.ofNat (Q.length + 1)))))=some (SV.int .i64 (Int.ofNat Q.length)):=o_add (by simp only [Int.ofNat_eq_natCast];omega)
   have c2:some (SV.bool (not (ltI (Int.ofNat Q.length) 0)))=some (SV.bool true):=o_ge (by simp only [Int.ofNat_eq_natCast];omega)
   have c3:some (SV.bool (ltI (Int.ofNat Q.length) (Int.ofNat (Q.length + 1))))=some (SV.bool true):=o_lt (ofN_lt (by omega))
   have c4:some (SV.int .i64 (wrapF .i64 (Int.add (Int.ofNat Q.length) 1)))=some (SV.int .i64 (Int.ofNat (Q.length + 1))):=o_add (by simp only [Int.ofNat_eq_natCast];omega)
   have c5:tRes xAt 1 (hZ (lR (Q++[y]) z) m) [(vr 21).sv,.int .i64 (Int.ofNat Q.length)] (vt (vnum y) true) (hZ (lR (Q++[y]) z) m):=zAt g (i:=Q.length) (by simp)
   have c6:=zRep H.hj (by omega) g (i:=Q.length) (j:=Q.length + 1) (xs:=[]) ⟨by omega,by simp⟩ (by simp;omega) (l':=lR Q z) (by
    have e:((Q++[y]).map vnum).take Q.length++[]++((Q++[y]).map vnum).drop (Q.length + 1)=Q.map vnum:=by simp
    show put (lR (Q++[y]) z) 21 ⟨1,[],0,_,[]⟩=_
    rw [e];exact lR_put _ _ z)
   exact And.intro (zLen g hlen) (And.intro c1 (And.intro c2 (And.intro c3 (And.intro c5 (And.intro (zLen g hlen) (And.intro c1 (And.intro c2 (And.intro c3 (And.intro c4 (And.intro c6 trivial))))))))))
  rintro tm st ⟨-,rfl,rfl⟩
  refine CodeL.app (roFr hH (roGN (csV cs) (csV (Q++[y])) n i (Q.length + 1) none m y (fun _=>.nils) (lR Q z)) roPlG (And.intro (o_neq (by simp only [Int.ofNat_eq_natCast];omega)) trivial) (by simp) (by simp) rfl rfl) ?_ (fun x tm st hx h=>absurd h.1 hx)
  rintro tm st ⟨-,rfl,rfl⟩
  refine CodeL.less (CodeQ.row (CodeQ.cond (b:=false) rfl (CodeL.code (roFr hH (roK (csV cs) (csV (Q++[y])) n i Q.length (lR Q z) m y) roPlK ?_ (by simp) (by simp) rfl rfl)))) ?_
  ·unfold tRoD
   exact And.intro (o_sub (by simp only [Int.ofNat_eq_natCast];omega)) (And.intro (rowAt1 6 none (by omega)) (And.intro (csV_at (by simp)) (And.intro (o_neV _ rfl rfl) (And.intro (roSl Q.length) trivial))))
  ·rintro x tm st a w ⟨rfl,rfl,rfl⟩ hA
   have e:csV (Q++[y])=csV Q++[SV.int .i64 y]:=by simp [csV]
   rw [e] at hA
   exact ⟨.normal,_,_,rfl,⟨rfl,Q,z,m,none,⟨by omega,H2.up (by omega),.inl rfl⟩,rfl,rfl⟩,hA.trunc (cs:=csV Q) (Nat.le_of_ble_eq_true (by kernel_rfl))⟩
include hH in
theorem roLen (H:RoI R z m ck i u) (hu:u + 100≤uMax) (h200:i≤200) (i':Nat):CodeL w0 nRo (kbRo.drop 2) (sRo n i' R z m ck).1 (sRo n i' R z m ck).2 fun x tm st=>x=.normal∧tm=(sRo n i' R z m ck).1∧st=(sRo n i' R z m ck).2:=by
 cases R with
 | nil=>exact roFr hH (roM (csV cs) (csV []) n i' ck z m) roPlL trivial (by simp) (by simp) rfl rfl
 | cons y0 T =>
  have g:=lR_get (y0 :: T) z
  have hl:=H.len
  refine roFr hH (roL (csV cs) (csV (y0 :: T)) n i' (y0 :: T).length ck (y0 :: T) z m y0) roPlL ?_ (by simp) (by simp) rfl rfl
  unfold tRoL
  exact And.intro (zAt g (i:=0) rfl) (And.intro (zLen g (by simp)) (And.intro (o_ge (by simp only [Int.ofNat_eq_natCast];omega)) (And.intro (o_neV _ rfl rfl) trivial)))
include hH in
theorem roRound (hn:n * 1≤cs.length) (H:RoI R z m ck i u) (hi:i < n) (h200:i < 200) (hu:u + 200≤uMax) :
  CodeL w0 nRo (flatC (unBlock (atC k1Ro 2))) (sRo n i R z m ck).1 (sRo n i R z m ck).2 fun x tm st=>x=.normal∧RoTo n i (i + 1) (u + 10) tm st:=by
 obtain ⟨x0,h0⟩:∃ x0,cs[i]?=some x0:=⟨_,List.getElem?_eq_getElem (by omega)⟩
 have a:=rowAt1 0 none hi
 have d:=csV_at h0
 rw [kbRo_eq]
 have key:∀ tm st,RoTo n i (i + 1) (u + 10) tm st→CodeL w0 nRo (kbRo.drop 2) tm st fun x tm st=>x=.normal∧RoTo n i (i + 1) (u + 10) tm st:=by
  rintro tm st ⟨R',z',m',ck',H',rfl,rfl⟩
  refine (roLen hH H' (by omega) (by omega) i).mono ?_
  rintro x tm st ⟨rfl,rfl,rfl⟩
  exact ⟨rfl,R',z',m',ck',H',rfl,rfl⟩
 by_cases hx:x0 < 0
 ·refine CodeL.app (roFr hH (roIN (csV cs) (csV R) n i R.length ck R z m x0) roPlI (And.intro a (And.intro d (And.intro (o_nge hx) trivial))) (by simp) (by simp) rfl rfl) ?_ (fun x tm st hx h=>absurd h.1 hx)
  rintro tm st ⟨-,rfl,rfl⟩
  refine CodeL.app (P1:=fun x tm st=>x=.normal∧RoTo n i (i + 1) (u + 10) tm st) (CodeQ.row (CodeQ.cond (b:=false) rfl (CodeL.code (roPop hH H h200 (by omega))))) (fun tm st h=>key tm st h.2) (fun x tm st hx h=>absurd h.1 hx)
 ·refine CodeL.app (roFr hH (roIY (csV cs) (csV R) n i R.length ck R z m x0) roPlI (And.intro a (And.intro d (And.intro (o_ge hx) trivial))) (by simp) (by simp) rfl rfl) ?_ (fun x tm st hx h=>absurd h.1 hx)
  rintro tm st ⟨-,rfl,rfl⟩
  refine CodeL.app (P1:=fun x tm st=>x=.normal∧RoTo n i (i + 1) (u + 10) tm st) (CodeQ.row (CodeQ.cond (b:=true) rfl (CodeL.code (roPush hH H hi h200 (by omega) h0)))) (fun tm st h=>key tm st h.2) (fun x tm st hx h=>absurd h.1 hx)
include hH in
theorem roLoop (hn:n * 1≤cs.length):CodeQ w0 nRo (.loop b1Ro) (sRo n 0 [] [] 23 (some 0)).1 (sRo n 0 [] [] 23 (some 0)).2 fun x tm st =>
  x=.exit 0∧∃ i,i≤200∧RoTo n i i (100 + 10 * i) tm st:=by
 refine CodeQ.loop (α:=Nat × List Int × Obs × Int × Option Nat) (S:=fun p=>sRo n p.1 p.2.1 p.2.2.1 p.2.2.2.1 p.2.2.2.2) (Inv:=fun p=>p.1≤200∧RoI p.2.1 p.2.2.1 p.2.2.2.1 p.2.2.2.2 p.1 (100 + 10 * p.1)) (μ:=fun p=>200 - p.1) (fun p hp=>?_) (0,[],[],23,some 0) ⟨Nat.zero_le _,⟨Nat.zero_le _,HJ.ro,.inr ⟨rfl,rfl⟩⟩⟩
 obtain ⟨i,R,z,m,ck⟩:=p
 obtain ⟨hi200,H⟩:=hp
 replace hi200:i≤200:=hi200
 replace H:RoI R z m ck i (100 + 10 * i):=H
 refine CodeL.code ?_
 rw [k1Ro_eq]
 by_cases hi:i < n
 ·have t1:some (SV.bool (ltI (Int.ofNat i) (Int.ofNat n)))=some (SV.bool true):=o_lt (ofN_lt hi)
  by_cases h200:i < 200
  ·have t2:some (SV.bool (ltI (Int.ofNat i) 200))=some (SV.bool true):=o_lt (by simp only [Int.ofNat_eq_natCast];omega)
   refine CodeL.app (roFr hH (roTT (csV cs) (csV R) n i R.length ck R z m) roPlT (And.intro t1 (And.intro t2 trivial)) (by simp) (by simp) rfl rfl) ?_ (fun x tm st hx h=>absurd h.1 hx)
   rintro tm st ⟨-,rfl,rfl⟩
   refine CodeL.app (P1:=fun x tm st=>x=.normal∧RoTo n i (i + 1) (100 + 10 * i + 10) tm st) (CodeQ.row (CodeQ.block (CodeL.code ((roRound hH hn H hi h200 (by simp only [uMax];omega)).mono ?_)))) ?_ (fun x tm st hx h=>absurd h.1 hx)
   ·rintro x tm st ⟨rfl,h⟩
    exact ⟨rfl,h⟩
   ·rintro tm st ⟨-,R',z',m',ck',H',rfl,rfl⟩
    refine (roFr hH ((roU (csV cs) (csV R') n R'.length ck' R' z' m').at (List.mem_range.2 h200)) roPlU (tl:=[]) trivial (by simp) (by simp) rfl rfl).mono ?_
    rintro x tm st ⟨rfl,rfl,rfl⟩
    exact .inl ⟨rfl,(i + 1,R',z',m',ck'),⟨by show i + 1≤200;omega,H'.up (Nat.le_refl _) (by show 100 + 10 * i + 10≤100 + 10 * (i + 1);omega)⟩,by show 200 - (i + 1) < 200 - i;omega,rfl,rfl⟩
  ·have t2:some (SV.bool (ltI (Int.ofNat i) 200))=some (SV.bool false):=o_nlt (by simp only [Int.ofNat_eq_natCast];omega)
   refine CodeL.app (roFr hH (roTG (csV cs) (csV R) n i R.length ck R z m) roPlT (And.intro t1 (And.intro t2 trivial)) (by simp) (by simp) rfl rfl) (fun tm st h=>by cases h.1) ?_
   rintro x tm st hx ⟨rfl,rfl,rfl⟩
   exact .inr ⟨hx,rfl,i,hi200,R,z,m,ck,H,rfl,rfl⟩
 ·have t1:some (SV.bool (ltI (Int.ofNat i) (Int.ofNat n)))=some (SV.bool false):=o_nlt (fun h=>hi (Int.ofNat_lt.1 h))
  refine CodeL.app (roFr hH (roTF (csV cs) (csV R) n i R.length ck R z m) roPlT (And.intro t1 trivial) (by simp) (by simp) rfl rfl) (fun tm st h=>by cases h.1) ?_
  rintro x tm st hx ⟨rfl,rfl,rfl⟩
  exact .inr ⟨hx,rfl,i,hi200,R,z,m,ck,H,rfl,rfl⟩
abbrev sRk (n i k:Nat) (R:List Int) (z:Obs) (m:Int) (ck:Option Nat):SS:=(sR [(12,.int .i64 (Int.ofNat k))] n i R.length ck (lR R z) m).w (csV R)
include hH in
theorem roItems (H:RoI R z m ck i u) (h200:i≤200) (hu:u + 100≤uMax):CodeQ w0 nRo (.loop b2Ro) (sRk n i 0 R z m ck).1 (sRk n i 0 R z m ck).2 fun x tm st=>x=.exit 2∧∃ k,tm=(sRk n i k R z m ck).1∧st=(sRk n i k R z m ck).2:=by
 refine CodeQ.loop (α:=Nat) (S:=fun k=>sRk n i k R z m ck) (Inv:=fun k=>k≤R.length) (μ:=fun k=>R.length - k) (fun k hk=>?_) 0 (Nat.zero_le _)
 have hl:=H.len
 refine CodeL.code ?_
 rw [k2Ro_eq]
 by_cases hlt:k < R.length
 ·refine CodeL.app (roFr hH (roWY (csV cs) (csV R) n i R.length ck R z m k) roPlW (And.intro (o_lt (ofN_lt hlt)) trivial) (by simp) (by simp) rfl rfl) ?_ (fun x tm st hx h=>absurd h.1 hx)
  rintro tm st ⟨-,rfl,rfl⟩
  refine CodeL.app (P1:=fun x tm st=>x=.normal∧tm=(sRk n i k R z m ck).1∧st=(sRk n i k R z m ck).2) (CodeQ.row (CodeQ.block (CodeL.code ?_))) ?_ (fun x tm st hx h=>absurd h.1 hx)
  ·obtain ⟨y0,hy0⟩:∃ y0,R[0]?=some y0:=⟨_,List.getElem?_eq_getElem (by omega)⟩
   obtain ⟨yk,hyk⟩:∃ yk,R[k]?=some yk:=⟨_,List.getElem?_eq_getElem hlt⟩
   have g:=lR_get R z
   refine (roFr hH (roZ (csV cs) (csV R) n i R.length ck R z m k y0 yk) roPlZ ?_ (by simp) (by simp) rfl rfl).mono ?_
   ·unfold tRoZ
    have c1:tRes xAt 1 (hZ (lR R z) m) [(vr 21).sv,.int .i64 (Int.ofNat 0)] (vt (vnum y0) true) (hZ (lR R z) m):=zAt g (i:=0) (by rw [List.getElem?_map,hy0];rfl)
    have c2:tRes xAt 1 (hZ (lR R z) m) [(vr 21).sv,.int .i64 (Int.ofNat k)] (vt (vnum yk) true) (hZ (lR R z) m):=zAt g (i:=k) (by rw [List.getElem?_map,hyk];rfl)
    exact And.intro (rowAt1 6 ck hlt) (And.intro (csV_at hyk) (And.intro c1 (And.intro (zLen g (by simp)) (And.intro (o_nlt (by simp only [Int.ofNat_eq_natCast];omega)) (And.intro (o_ge (by simp only [Int.ofNat_eq_natCast];omega)) (And.intro (o_lt (ofN_lt hlt)) (And.intro c2 (And.intro (o_neV _ rfl rfl) trivial))))))))
   ·rintro x tm st ⟨rfl,rfl,rfl⟩
    exact ⟨rfl,rfl,rfl⟩
  ·rintro tm st ⟨-,rfl,rfl⟩
   refine (roFr hH ((roX (csV cs) (csV R) n i R.length ck R z m).at (List.mem_range.2 (show k < 200 by omega))) roPlX (tl:=[]) trivial (by simp) (by simp) rfl rfl).mono ?_
   rintro x tm st ⟨rfl,rfl,rfl⟩
   exact .inl ⟨rfl,k + 1,by show k + 1≤R.length;omega,by show R.length - (k + 1) < R.length - k;omega,rfl,rfl⟩
 ·refine CodeL.app (roFr hH (roWN (csV cs) (csV R) n i R.length ck R z m k) roPlW (And.intro (o_nlt (fun h=>hlt (Int.ofNat_lt.1 h))) trivial) (by simp) (by simp) rfl rfl) (fun tm st h=>by cases h.1) ?_
  rintro x tm st hx ⟨rfl,rfl,rfl⟩
  exact .inr ⟨hx,rfl,k,rfl,rfl⟩
include hH in
theorem roAll (hn:n * 1≤cs.length):CodeQ w0 nRo cRo (initT [.sl 0 0 n 1 none] 0 .e) (st0N 1 []) fun x tm st=>(x=.normal∨x=.ret)∧resS Tryz.prog st.m tm rsRo=some (.bool true):=by
 refine CodeL.code ?_
 rw [kRo_eq]
 refine CodeL.app (PT.code (s:=(initT [.sl 0 0 n 1 none] 0 .e,st0N 1 [])) hH (roP (csV cs) n) roPlP trivial (hidC (by simp))) ?_ (fun x tm st hx h=>absurd h.1 hx)
 rintro tm st ⟨-,rfl,rfl⟩
 refine CodeL.app (P1:=fun x tm st=>x=.normal∧∃ i,i≤200∧RoTo n i i (100 + 10 * i) tm st) (CodeQ.row (CodeQ.block ((roLoop hH hn).mono ?_))) ?_ (fun x tm st hx h=>absurd h.1 hx)
 ·rintro x tm st ⟨rfl,h⟩
  exact ⟨rfl,h⟩
 ·rintro tm st ⟨-,i,hi,R,z,m,ck,H,rfl,rfl⟩
  refine CodeL.app (roFr hH (roV (csV cs) (csV R) n i R.length ck R z m) roPlV trivial (by simp) (by simp) rfl rfl) ?_ (fun x tm st hx h=>absurd h.1 hx)
  rintro tm st ⟨-,rfl,rfl⟩
  refine CodeL.app (P1:=fun x tm st=>x=.normal∧∃ k,tm=(sRk n i k R z m ck).1∧st=(sRk n i k R z m ck).2) (CodeQ.row (CodeQ.block ((roItems hH H hi (by simp only [uMax];omega)).mono ?_))) ?_ (fun x tm st hx h=>absurd h.1 hx)
  ·rintro x tm st ⟨rfl,k,rfl,rfl⟩
   exact ⟨rfl,k,rfl,rfl⟩
  ·rintro tm st ⟨-,k,rfl,rfl⟩
   exact QE.code hH (roF (csV cs) (csV R) n i R.length ck R z m k) roPlF trivial
end
theorem roNil0:LawT fRo [.slice none 0 0] :=
 lawQ (c:=cRo) (vs:=[.nils]) Tryz.func5 (by kernel_rfl) (Nat.le_of_ble_eq_true (by kernel_rfl)) (Nat.le_of_ble_eq_true (by kernel_rfl)) (.cons .nils .nil) fun w0 hg =>
  CodeL.code (PE.code (s:=(initT [.nils] 0 .e,st0 [])) (Hd.of _) roNil roPlN trivial)
theorem rows_any:LawI fRo 43 1 :=
 lawI (by omega) (c:=cRo) Tryz.func5 (by kernel_rfl) (Nat.le_of_ble_eq_true (by kernel_rfl)) roNil0 fun w0 n cs hH hn hw=>roAll hH hn
end
end Go.Proofs.YtobooojhmgicpaaGreatDoor.W.E
