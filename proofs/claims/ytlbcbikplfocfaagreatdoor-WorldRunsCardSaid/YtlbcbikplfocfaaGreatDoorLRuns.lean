/- LRuns -/
import Derived.Test.YtlbcbikplfocfaaGreatDoorLRuK
set_option linter.unusedVariables false
set_option linter.unusedSimpArgs false
namespace Go.Proofs.YtlbcbikplfocfaaGreatDoor.W.E
section
set_option maxRecDepth 100000
open Go.RowKit
abbrev okRu (l:List Code):Prop:=(l.all fun c=>planOkC (plan fRu) c)=true
theorem ruPlP:okRu (kRu.take 5):=by delta okRu;kernel_rfl
theorem ruPlN:okRu ((kRu.drop 5).take 4):=by delta okRu;kernel_rfl
theorem ruPlF:okRu ((kRu.drop 9).take 1):=by delta okRu;kernel_rfl
theorem ruPlI:okRu ((kRu.drop 10).take 2):=by delta okRu;kernel_rfl
theorem ruPlB:okRu ((kRu.drop 12).take 1):=by delta okRu;kernel_rfl
theorem ruPlU:okRu ((kRu.drop 12).take 2):=by delta okRu;kernel_rfl
theorem ruPlM:okRu (kbRu.take 4):=by delta okRu;kernel_rfl
theorem ruPlA:okRu (kbRu.drop 4):=by delta okRu;kernel_rfl
theorem ruPlC:okRu ((kRu.drop 14).take 1):=by delta okRu;kernel_rfl
theorem ruPlE:okRu (kRu.drop 15):=by delta okRu;kernel_rfl
theorem ruPlS:okRu ((kRu.drop 15).take 7):=by delta okRu;kernel_rfl
theorem ruPlL:okRu k1Ru:=by delta okRu;kernel_rfl
theorem ruPlZ:okRu (kRu.drop 23):=by delta okRu;kernel_rfl
def actRL (a:SV) (d c:Nat):List SV:=[.int .i64 3,.int .i64 5,.int .i64 0,.int .i64 0,.int .i64 0,.str [],.int .i64 0,.int .i64 0,.str [],a,.sl 8 (6 + d * 3) c 3 none]
abbrev RuEnd:PostE:=fun x tm st=>(x=.normal∨x=.ret)∧resS Tryz.prog st.m tm rsRu=some (.bool true)
theorem rwV_plain (g:Nat→V) (r:Nat):∀ v∈rwV g r,v.plain=true:=by rw [rwV_eq];exact plain_row _
theorem rwI_plain (p:Int) (d:Nat) (xs:List V):∀ v∈rwI p d xs,v.plain=true:=plain_row _
theorem rwK_eq (k v:Nat→Int) (r:Nat):rwK k v r=rwV (fun j=>⟨k j,v j,[]⟩) r:=rfl
theorem rwL_app (g h:Nat→V) (r q:Nat):rwL g r++rwL h q=rwL (fun j=>if j < r then g j else h (j - r)) (r + q):=by
 refine List.ext_getElem? fun i=>?_
 by_cases h1:i < r
 ·rw [List.getElem?_append_left (by rw [rwL_len];exact h1),rwL_at _ h1,rwL_at _ (by omega),if_pos h1]
 ·rw [List.getElem?_append_right (by rw [rwL_len];omega),rwL_len]
  by_cases h2:i < r + q
  ·rw [rwL_at _ (by omega),rwL_at _ h2,if_neg h1]
  ·rw [List.getElem?_eq_none (by rw [rwL_len];omega),List.getElem?_eq_none (by rw [rwL_len];omega)]
theorem rwL_congr {g h:Nat→V} {r:Nat} (e:∀ j,j < r→g j=h j):rwL g r=rwL h r:=List.map_congr_left fun j hj=>e j (List.mem_range.1 hj)
theorem rwV_congr {g h:Nat→V} {r:Nat} (e:∀ j,j < r→g j=h j):rwV g r=rwV h r:=by rw [rwV_eq,rwV_eq,rwL_congr e]
section
variable {z:Obs} {m F:Int} {u p d c:Nat} {xs:List V} {x:Nat→Int} (X:RuH z m F u p d c xs x)
def gI (p d:Nat):Nat→V
 | 0=>vnum (Int.ofNat p)
 | 1=>vnum (Int.ofNat d)
 | i + 2=>vnum (Int.ofNat (100 + i))
include X in
theorem xs_eq:xs=rwL (fun i=>vnum (Int.ofNat (100 + i))) d++rwL (fun i=>vr (x i)) c:=by
 rw [← X.rest]
 have h1:xs.take d=rwL (fun i=>vnum (Int.ofNat (100 + i))) d:=by
  refine List.ext_getElem? fun i=>?_
  by_cases h:i < d
  ·rw [List.getElem?_take_of_lt h,rwL_at _ h,X.df i h]
  ·rw [List.getElem?_eq_none (by rw [List.length_take];omega),List.getElem?_eq_none (by rw [rwL_len];omega)]
 rw [← h1,List.take_append_drop]
include X in
theorem rwI_eq:rwI (Int.ofNat p) d xs=rwE (gI p d) x d c:=by
 unfold rwI rwE
 rw [xs_eq X,rwV_eq,rwV_eq,← List.flatMap_append]
 congr 1
 have:rwL (gI p d) (2 + d)=vnum (Int.ofNat p) :: vnum (Int.ofNat d) :: rwL (fun i=>vnum (Int.ofNat (100 + i))) d:=by
  refine List.ext_getElem? fun i=>?_
  by_cases h:i < 2 + d
  ·rw [rwL_at _ h]
   match i with
   | 0=>rfl
   | 1=>rfl
   | i + 2 =>
    show some (vnum (Int.ofNat (100 + i)))=(rwL (fun i=>vnum (Int.ofNat (100 + i))) d)[i]?
    rw [rwL_at _ (by omega)]
  ·rw [List.getElem?_eq_none (by rw [rwL_len];omega),List.getElem?_eq_none (by simp only [List.length_cons,rwL_len];omega)]
 rw [this];rfl
def kR (g:Nat→V) (r j:Nat):Int:=if j < r then (g j).k else 2
def vR (g:Nat→V) (r d p j:Nat):Int:=if j < r then (g j).n else 100 + d - p + j
include X in
theorem args_eq {g:Nat→V} (hg:∀ j,(g j).s=[]) {r q w:Nat} (hq:r + q=p) (hw:w + q=d):(rwL g r++(xs.drop w).take q).flatMap V.svc=rwK (kR g r) (vR g r d p) p∧(rwL g r++(xs.drop w).take q).length=p∧rwV g r=rwK (kR g r) (vR g r d p) r:=by
 have hl:=X.len
 have h1:(xs.drop w).take q=rwL (fun i=>vnum (Int.ofNat (100 + (w + i)))) q:=by
  refine List.ext_getElem? fun i=>?_
  by_cases h:i < q
  ·rw [List.getElem?_take_of_lt h,List.getElem?_drop,rwL_at _ h,X.df _ (by omega)]
  ·rw [List.getElem?_eq_none (by rw [List.length_take];omega),List.getElem?_eq_none (by rw [rwL_len];omega)]
 have key:∀ j,j < r→g j=(⟨kR g r j,vR g r d p j,[]⟩:V):=fun j hj=>by
  unfold kR vR
  rw [if_pos hj,if_pos hj,← hg j]
 refine ⟨?_,by rw [List.length_append,rwL_len,h1,rwL_len];exact hq,?_⟩
 ·rw [h1,rwL_app,hq,rwK_eq,rwV_eq]
  congr 1
  refine rwL_congr fun j hj=>?_
  by_cases hjr:j < r
  ·rw [if_pos hjr];exact key j hjr
  ·rw [if_neg hjr]
   unfold kR vR
   rw [if_neg hjr,if_neg hjr]
   show (⟨2,Int.ofNat (100 + (w + (j - r))),[]⟩:V)=_
   congr 1
   simp only [Int.ofNat_eq_natCast];omega
 ·rw [rwK_eq]
  exact rwV_congr key
theorem vNK {k v:Int} (h:k=2∨k=4):binV Tryz.prog .neq 27 false (.agg [.int .i64 k,.int .i64 v,.str []]) (.agg [.int .i64 k,.int .i64 v,.str []])=some (.bool false):=by
 have key:∀ K:Int,(K=2∨K=4)→∃ G:Bool→Option SV,binV Tryz.prog .neq 27 false (.agg [.int .i64 K,.int .i64 v,.str []]) (.agg [.int .i64 K,.int .i64 v,.str []])=G (v == v)∧G true=some (.bool false):=by
  intro K hK
  rcases hK with rfl | rfl
  ·exact ⟨fun b=>match (match some b with | some true=>some true | some false=>some false | none=>none) with | some r=>some (.bool !r) | none=>none,by kernel_rfl,rfl⟩
  ·exact ⟨fun b=>match (match some b with | some true=>some true | some false=>some false | none=>none) with | some r=>some (.bool !r) | none=>none,by kernel_rfl,rfl⟩
 obtain ⟨G,h1,h2⟩:=key k h
 rw [h1,beq_iff_eq.2 rfl,h2]
theorem TL.ok_mapR {f:Nat→TE}:∀ {l:List Nat},(∀ j∈l,(f j).2.2)→TL.ok (l.map f)
 | [],_=>trivial
 | j :: t,h=>⟨h j (List.mem_cons_self ..),TL.ok_mapR fun i hi=>h i (List.mem_cons_of_mem _ hi)⟩
theorem wrapId {y:Int} (h1:-1000000≤y) (h2:y≤1000000):wrapF .i64 y=y:=by rw [wrapF_eq,wrapI_eq];omega
theorem tRuS_ok {r:Nat} {k v:Nat→Int} (hp:p≤9) (hd:d≤p) (hr:r≤p) (hrd:p≤r + d) (hk:∀ j,r≤j→k j=2∧v j=100 + d - p + j) (hk0:∀ j,j < r→k j=2∨k j=4):(tRuS p r d c k v ((p:Int) - (d:Nat))).ok:=by
 unfold tRuS
 refine TL.ok_app (And.intro (subZ (by omega) (by omega)) (And.intro (o_nlt (by simp only [Int.ofNat_eq_natCast];omega)) trivial)) (TL.ok_app (TL.ok_mapR fun j hj=>?_) (TL.ok_app (TL.ok_mapR fun j hj=>?_) (And.intro ?_ trivial)))
 ·show some (SV.int .i64 _)=_
  have h1:Int.add 100 (Int.ofNat d)=100 + d:=rfl
  have e1:wrapF .i64 (Int.add 100 (Int.ofNat d))=100 + d:=by rw [h1];exact wrapId (by omega) (by omega)
  have h2:Int.sub (100 + (d:Int)) (Int.ofNat p)=100 + d - p:=rfl
  have e2:wrapF .i64 (Int.sub (100 + (d:Int)) (Int.ofNat p))=100 + d - p:=by rw [h2];exact wrapId (by omega) (by omega)
  have h3:Int.add (100 + (d:Int) - p) (Int.ofNat (r + j))=100 + d - p + (r + j:Nat):=rfl
  have hj2:=List.mem_range.1 hj
  have e3:wrapF .i64 (Int.add (100 + (d:Int) - p) (Int.ofNat (r + j)))=100 + d - p + (r + j:Nat):=by rw [h3];exact wrapId (by omega) (by omega)
  rw [e1,e2,e3,(hk (r + j) (by omega)).2]
 ·show binV _ _ _ _ _ _=_
  have hj2:=List.mem_range.1 hj
  by_cases h:j < r
  ·have e:Nat.blt j r=true:=by rw [Nat.blt_eq];exact h
   rw [e,cond_true]
   exact vNK (hk0 j h)
  ·have e:Nat.blt j r=false:=by
    cases hq:Nat.blt j r with
    | false=>rfl
    | true=>rw [Nat.blt_eq] at hq;exact absurd hq h
   rw [e,cond_false,(hk j (by omega)).1]
   exact vNK (.inl rfl)
 ·exact o_nne rfl
theorem ruS' (rs:List SV) (d c:Nat) (k v:Nat→Int) (y:Int) (l:Obs) (m:Int) {p r:Nat} (h1:1≤p) (h9:p≤9) (hr:r≤p):QTX extS (foW fo0 8 rs) fRu nRu [(1,1),(2,2),(6,6),(7,7),(8,8)] [7,8,10,17,19] 9 ((kRu.drop 15).take 7)
  (((s5 (Int.ofNat p) d c (Int.ofNat c) r (ckN r) 5 (.sl 7 0 p 3 none) l m).wR 4 (rwK k v r) tyV).wR 7 (rwK k v p) tyV) ((s6 d c 0 5 (.sl 7 0 p 3 none) l m).wR 7 (rwK k v p) tyV) .normal (tRuS p r d c k v y):=by
 have mem:∀ lo n,lo≤p→p < lo + n→p * 16 + r∈pairsR lo n:=fun lo n a b=>List.mem_flatMap.2 ⟨p,List.mem_range'_1.2 ⟨a,b⟩,List.mem_map.2 ⟨r,List.mem_range.2 (by omega),rfl⟩⟩
 have q1:(p * 16 + r) / 16=p:=by omega
 have q2:(p * 16 + r) % 16=r:=by omega
 rcases (by omega:p≤5∨(6≤p∧p≤7)∨p=8∨p=9) with h | h | h | h
 ·have:=QAX.at (ruS0 rs d c k v y l m) (mem 1 5 (by omega) (by omega));simp only [q1,q2] at this;exact this
 ·have:=QAX.at (ruS1 rs d c k v y l m) (mem 6 2 (by omega) (by omega));simp only [q1,q2] at this;exact this
 ·have:=QAX.at (ruS2 rs d c k v y l m) (mem 8 1 (by omega) (by omega));simp only [q1,q2] at this;exact this
 ·have:=QAX.at (ruS3 rs d c k v y l m) (mem 9 1 (by omega) (by omega));simp only [q1,q2] at this;exact this
end
section
variable {w0:B0} (hH:Hd w0 fo0 0) {z:Obs} {m F:Int} {u p d c:Nat} {xs:List V} {x:Nat→Int} (X:RuH z m F u p d c xs x)
theorem lt8T:8 < TMax:=zB (by kernel_rfl)
include hH X in
theorem ruCells:CodeL w0 nRu ([.block 2 (.loop bRu)]++kRu.drop 23) ((s6 d c 0 5 (.sl 7 0 p 3 none) (lZ [] z) m).wR 8 (rwE (gI p d) x d c) tyV).1 ((s6 d c 0 5 (.sl 7 0 p 3 none) (lZ [] z) m).wR 8 (rwE (gI p d) x d c) tyV).2 RuEnd:=by
 obtain ⟨hp,hd,hc⟩:=And.intro X.hp (And.intro X.hd X.hc)
 refine CodeL.app (P1:=fun y tm st=>y=.normal∧tm=(s7 (lZ [] z) m).1∧st=(s7 (lZ [] z) m).2) (CodeQ.row (CodeQ.block ?_)) ?_ (fun x tm st hx h=>absurd h.1 hx)
 ·refine CodeQ.loop (α:=Nat) (S:=fun i=>(s6 d c i 5 (.sl 7 0 p 3 none) (lZ [] z) m).wR 8 (rwE (gI p d) x d c) tyV) (Inv:=fun i=>i≤c) (μ:=fun i=>c - i) (fun i hi=>?_) 0 (Nat.zero_le _)
  refine CodeL.code ?_
  show CodeL w0 nRu k1Ru ((s6 d c i 5 (.sl 7 0 p 3 none) (lZ [] z) m).wR 8 (rwE (gI p d) x d c) tyV).1 ((s6 d c i 5 (.sl 7 0 p 3 none) (lZ [] z) m).wR 8 (rwE (gI p d) x d c) tyV).2 _
  replace hi:i≤c:=hi
  have q1:∀ i,i≤4→(d * 64 + c * 8 + i) / 64=d:=fun i h=>by omega
  have q2:∀ i,i≤4→(d * 64 + c * 8 + i) % 64 / 8=c:=fun i h=>by omega
  have q3:∀ i,i≤4→(d * 64 + c * 8 + i) % 8=i:=fun i h=>by omega
  by_cases hlt:i < c
  ·have h:=QAX.at (ruLa p (gI p d) x (lZ [] z) m) (i:=d * 64 + c * 8 + i) (List.mem_flatMap.2 ⟨d,List.mem_range.2 (by omega),List.mem_flatMap.2 ⟨c,List.mem_range'_1.2 ⟨by omega,by omega⟩,List.mem_map.2 ⟨i,List.mem_range.2 hlt,rfl⟩⟩⟩)
   simp only [q1 i (by omega),q2 i (by omega),q3 i (by omega)] at h
   refine (QTX.code hH extS_ok h ruPlL (And.intro (zAt (X.cell i hlt) (i:=0) rfl) (And.intro (zKind (X.cell i hlt) rfl) trivial)) hid0).mono ?_
   rintro y tm st ⟨rfl,rfl,rfl⟩
   exact .inl ⟨rfl,i + 1,by show i + 1≤c;omega,by show c - (i + 1) < c - i;omega,rfl,rfl⟩
  ·obtain rfl:i=c:=by omega
   have h:=QAX.at (ruXa p (gI p d) x (lZ [] z) m) (i:=d * 64 + i * 8) (List.mem_flatMap.2 ⟨d,List.mem_range.2 (by omega),List.mem_map.2 ⟨i,List.mem_range.2 (by omega),rfl⟩⟩)
   have r1:(d * 64 + i * 8) / 64=d:=by omega
   have r2:(d * 64 + i * 8) % 64 / 8=i:=by omega
   simp only [r1,r2] at h
   refine (QTX.code (tl:=[]) hH extS_ok h ruPlL trivial hid0).mono ?_
   rintro y tm st ⟨rfl,rfl,rfl⟩
   exact .inr ⟨by simp,rfl,rfl,rfl⟩
 ·rintro tm st ⟨-,rfl,rfl⟩
  exact QE.code (tl:=[]) hH (ruE (lZ [] z) m) ruPlZ trivial
include hH X in
theorem ruCellsE (h0:p=0):CodeL w0 nRu ([.block 2 (.loop bRu)]++kRu.drop 23) (((s6 0 c 0 5 (.emp 7 3) (lZ [] z) m).wE).wR 8 (rwE (gI 0 0) x 0 c) tyV).1 (((s6 0 c 0 5 (.emp 7 3) (lZ [] z) m).wE).wR 8 (rwE (gI 0 0) x 0 c) tyV).2 RuEnd:=by
 have hc:=X.hc
 refine CodeL.app (P1:=fun y tm st=>y=.normal∧tm=(s7 (lZ [] z) m).1∧st=(s7 (lZ [] z) m).2) (CodeQ.row (CodeQ.block ?_)) ?_ (fun x tm st hx h=>absurd h.1 hx)
 ·refine CodeQ.loop (α:=Nat) (S:=fun i=>((s6 0 c i 5 (.emp 7 3) (lZ [] z) m).wE).wR 8 (rwE (gI 0 0) x 0 c) tyV) (Inv:=fun i=>i≤c) (μ:=fun i=>c - i) (fun i hi=>?_) 0 (Nat.zero_le _)
  refine CodeL.code ?_
  show CodeL w0 nRu k1Ru (((s6 0 c i 5 (.emp 7 3) (lZ [] z) m).wE).wR 8 (rwE (gI 0 0) x 0 c) tyV).1 (((s6 0 c i 5 (.emp 7 3) (lZ [] z) m).wE).wR 8 (rwE (gI 0 0) x 0 c) tyV).2 _
  replace hi:i≤c:=hi
  have q1:∀ i,i≤4→(0 * 64 + c * 8 + i) / 64=0:=fun i h=>by omega
  have q2:∀ i,i≤4→(0 * 64 + c * 8 + i) % 64 / 8=c:=fun i h=>by omega
  have q3:∀ i,i≤4→(0 * 64 + c * 8 + i) % 8=i:=fun i h=>by omega
  by_cases hlt:i < c
  ·have h:=QAX.at (ruLe (gI 0 0) x (lZ [] z) m) (i:=0 * 64 + c * 8 + i) (List.mem_filter.2 ⟨List.mem_flatMap.2 ⟨0,List.mem_range.2 (by omega),List.mem_flatMap.2 ⟨c,List.mem_range'_1.2 ⟨by omega,by omega⟩,List.mem_map.2 ⟨i,List.mem_range.2 hlt,rfl⟩⟩⟩,by rw [Nat.blt_eq];omega⟩)
   simp only [q1 i (by omega),q2 i (by omega),q3 i (by omega)] at h
   refine (QTX.code hH extS_ok h ruPlL (And.intro (zAt (X.cell i hlt) (i:=0) rfl) (And.intro (zKind (X.cell i hlt) rfl) trivial)) hid0).mono ?_
   rintro y tm st ⟨rfl,rfl,rfl⟩
   exact .inl ⟨rfl,i + 1,by show i + 1≤c;omega,by show c - (i + 1) < c - i;omega,rfl,rfl⟩
  ·obtain rfl:i=c:=by omega
   have h:=QAX.at (ruXe (gI 0 0) x (lZ [] z) m) (i:=0 * 64 + i * 8) (List.mem_filter.2 ⟨List.mem_flatMap.2 ⟨0,List.mem_range.2 (by omega),List.mem_map.2 ⟨i,List.mem_range.2 (by omega),rfl⟩⟩,by rw [Nat.blt_eq];omega⟩)
   have r1:(0 * 64 + i * 8) / 64=0:=by omega
   have r2:(0 * 64 + i * 8) % 64 / 8=i:=by omega
   simp only [r1,r2] at h
   refine (QTX.code (tl:=[]) hH extS_ok h ruPlL trivial hid0).mono ?_
   rintro y tm st ⟨rfl,rfl,rfl⟩
   exact .inr ⟨by simp,rfl,rfl,rfl⟩
 ·rintro tm st ⟨-,rfl,rfl⟩
  exact QE.code (tl:=[]) hH (ruE (lZ [] z) m) ruPlZ trivial
include hH X in
theorem ruTail {r:Nat} {ck:Option Nat} {k v:Nat→Int} (h1:1≤p) (hr:r≤p) (hrd:p≤r + d) (hck:ck=ckN r∨(r=1∧ck=some 1)) (hk:∀ j,r≤j→k j=2∧v j=100 + d - p + j) (hk0:∀ j,j < r→k j=2∨k j=4) :
  CodeL w0 nRu (kRu.drop 15) ((((s5 (Int.ofNat p) d c (Int.ofNat c) r ck 5 (.sl 7 0 p 3 none) (lZ [] z) m).wR 4 (rwK k v r) tyV).wR 7 (rwK k v p) tyV).wR 8 (rwI (Int.ofNat p) d xs) tyV).1 ((((s5 (Int.ofNat p) d c (Int.ofNat c) r ck 5 (.sl 7 0 p 3 none) (lZ [] z) m).wR 4 (rwK k v r) tyV).wR 7 (rwK k v p) tyV).wR 8 (rwI (Int.ofNat p) d xs) tyV).2 RuEnd:=by
 rw [kRu_end]
 have h:QTX extS (foW fo0 8 (rwI (Int.ofNat p) d xs)) fRu nRu [(1,1),(2,2),(6,6),(7,7),(8,8)] [7,8,10,17,19] 9 ((kRu.drop 15).take 7)
   (((s5 (Int.ofNat p) d c (Int.ofNat c) r ck 5 (.sl 7 0 p 3 none) (lZ [] z) m).wR 4 (rwK k v r) tyV).wR 7 (rwK k v p) tyV) ((s6 d c 0 5 (.sl 7 0 p 3 none) (lZ [] z) m).wR 7 (rwK k v p) tyV) .normal (tRuS p r d c k v ((p:Int) - (d:Nat))):=by
  rcases hck with rfl | ⟨rfl,rfl⟩
  ·exact ruS' _ d c k v _ _ m h1 X.hp hr
  ·exact QAX.at (ruT (rwI (Int.ofNat p) d xs) d c k v ((p:Int) - (d:Nat)) (lZ [] z) m) (List.mem_range'_1.2 ⟨h1,by have:=X.hp;omega⟩)
 refine CodeL.app (h.frameG hH extS_ok tyV ruPlS (tRuS_ok X.hp X.hd hr hrd hk hk0) hid0 (by simp) (rwI_plain _ _ _) (by kernel_rfl) (Nat.zero_le _) (fun e w F a hR ha=>exOf hR ha (t:=17) (b:=6) (o:=0) (j:=10) (cs:=actRL (.sl 7 0 p 3 none) d c) (ro:=false) (sib:=[]) (ty:=some 32) (by kernel_rfl) (by kernel_rfl) rfl)) ?_ (fun x tm st hx h=>absurd h.1 hx)
 rintro tm st ⟨-,rfl,rfl⟩
 rw [rwI_eq X]
 exact CodeL.sub (b:=7) (m:=((s6 d c 0 5 (.sl 7 0 p 3 none) (lZ [] z) m).wR 8 (rwE (gI p d) x d c) tyV).2.m) (cs:=rwK k v p) (ty:=tyV) (Nat.lt_of_lt_of_le (by decide:7 < 8) (Nat.le_of_lt lt8T)) (by kernel_rfl) (ruCells hH X)
include hH X in
theorem ruFail {r:Nat} {ck:Option Nat} (rs:List SV) (h:p < r∨r + d < p):CodeL w0 nRu (kRu.drop 15) ((s5f (Int.ofNat p) (Int.ofNat d) (Int.ofNat c) r ck (lZ [] z) m).wR 4 rs tyV).1 ((s5f (Int.ofNat p) (Int.ofNat d) (Int.ofNat c) r ck (lZ [] z) m).wR 4 rs tyV).2 RuEnd:=by
 obtain ⟨hp,hd⟩:=And.intro X.hp X.hd
 have g2:get (e3 (lZ [] z) m [] [84,121,112,101,69,114,114,111,114] 9) (m + 1 + 1)=some (o2 [84,121,112,101,69,114,114,111,114] 9 [(vstr sArgs,vr (m + 1))]):=gE2 X.H (by decide)
 have g1:get (e3 (lZ [] z) m [] [84,121,112,101,69,114,114,111,114] 9) (m + 1)=some (o1 []):=gE1 X.H (by decide)
 by_cases h1:p < r
 ·refine QE.frame hH _ (ruG rs (Int.ofNat p) (Int.ofNat d) (Int.ofNat c) r ck z m) ruPlE ?_ (Nat.lt_of_lt_of_le (by decide:4 < 8) (Nat.le_of_lt lt8T)) rfl (Nat.zero_le _) (t0:=13) rfl
  exact And.intro (o_lt (by simp only [Int.ofNat_eq_natCast];omega)) (And.intro (zAt g2 (i:=0) rfl) (And.intro (zKind g2 rfl) (And.intro (zAt g2 (i:=0) rfl) (And.intro (zKind g2 rfl) (And.intro (zGet g2 rfl) (And.intro (zAtN g1 (.inr (by decide))) trivial))))))
 ·refine QE.frame hH _ (ruH rs (Int.ofNat p) (Int.ofNat d) (Int.ofNat c) r ck z m ((p:Int) - (d:Nat))) ruPlE ?_ (Nat.lt_of_lt_of_le (by decide:4 < 8) (Nat.le_of_lt lt8T)) rfl (Nat.zero_le _) (t0:=13) rfl
  exact And.intro (o_nlt (by simp only [Int.ofNat_eq_natCast];omega)) (And.intro (subZ (by omega) (by omega)) (And.intro (o_lt (by simp only [Int.ofNat_eq_natCast];omega)) (And.intro (zAt g2 (i:=0) rfl) (And.intro (zKind g2 rfl) (And.intro (zAt g2 (i:=0) rfl) (And.intro (zKind g2 rfl) (And.intro (zGet g2 rfl) (And.intro (zAtN g1 (.inr (by decide))) trivial))))))))
theorem gN_s (j:Nat):(gN j).s=[]:=rfl
theorem gB_s (O:Int) (j:Nat):(gB O j).s=[]:=by cases j<;>rfl
theorem gN_k (j:Nat):(gN j).k=2∨(gN j).k=4:=.inl rfl
theorem gB_k (O:Int) (j:Nat):(gB O j).k=2∨(gB O j).k=4:=by
 cases j with
 | zero=>exact .inr rfl
 | succ j=>exact .inl rfl
theorem kR_k {g:Nat→V} (hg:∀ j,(g j).k=2∨(g j).k=4) {r:Nat}:∀ j,j < r→kR g r j=2∨kR g r j=4:=fun j hj=>by unfold kR;rw [if_pos hj];exact hg j
theorem kR_r {g:Nat→V} {r d p:Nat}:∀ j,r≤j→kR g r j=2∧vR g r d p j=100 + d - p + j:=fun j hj=>by
 unfold kR vR;rw [if_neg (by omega),if_neg (by omega)];exact ⟨rfl,rfl⟩
include hH X in
theorem ruGoU {n:Nat} (hn:n≤12):CodeL w0 nRu ((kRu.drop 14).take 1++kRu.drop 15) ((s4 (Int.ofNat p) (Int.ofNat d) (Int.ofNat c) (Int.ofNat n) n (ckN n) F (lZ [] z) m).wR 4 (rwV gN n) tyV).1 ((s4 (Int.ofNat p) (Int.ofNat d) (Int.ofNat c) (Int.ofNat n) n (ckN n) F (lZ [] z) m).wR 4 (rwV gN n) tyV).2 RuEnd:=by
 obtain ⟨hp,hd,hc,hl⟩:=And.intro X.hp (And.intro X.hd (And.intro X.hc X.len))
 by_cases h1:p < n
 ·refine CodeL.app (((QOB.at (ruCv (rwV gN n) (Int.ofNat p) d c xs ((p:Int) - (n:Nat)) z m F (Int.ofNat c)) (List.mem_range'_1.2 ⟨by omega,by omega⟩)).qtx trivial).frame hH extQ_ok tyV ruPlC (tRuv_ok X hn h1) hid0 (by simp) (rwV_plain _ _) rfl (Nat.zero_le _) (t0:=13) rfl) ?_ (fun x tm st hx h=>absurd h.1 hx)
  rintro tm st ⟨-,rfl,rfl⟩
  exact ruFail hH X _ (.inl h1)
 by_cases h2:n + d < p
 ·refine CodeL.app (((QOB.at (ruCx (rwV gN n) (Int.ofNat p) d c xs ((p:Int) - (n:Nat)) z m F (Int.ofNat c)) (List.mem_range.2 (by omega))).qtx trivial).frame hH extQ_ok tyV ruPlC (tRux_ok X hn h2) hid0 (by simp) (rwV_plain _ _) rfl (Nat.zero_le _) (t0:=13) rfl) ?_ (fun x tm st hx h=>absurd h.1 hx)
  rintro tm st ⟨-,rfl,rfl⟩
  exact ruFail hH X _ (.inr h2)
 obtain ⟨q,hq⟩:∃ q,n + q=p:=⟨p - n,by omega⟩
 obtain ⟨w,hw⟩:∃ w,w + q=d:=⟨d - q,by omega⟩
 obtain ⟨a1,a2,a3⟩:=args_eq X gN_s hq hw
 by_cases h3:n=0
 ·subst h3
  obtain rfl:q=p:=by omega
  by_cases h4:q=0
  ·subst h4
   obtain rfl:d=0:=by omega
   refine CodeL.app (((ruCz (rwV gN 0) (Int.ofNat 0) 0 c xs 0 w (lZ [] z) m F (Int.ofNat c)).qtx ⟨oqP_row _ _ _,trivial⟩).frame hH extQ_ok tyV ruPlC (tRu0_ok X hn rfl hw) hid0 (by simp) (rwV_plain _ _) rfl (Nat.zero_le _) (t0:=13) rfl) ?_ (fun x tm st hx h=>absurd h.1 hx)
   rintro tm st ⟨-,rfl,rfl⟩
   rw [kRu_end]
   refine CodeL.app ((ruZ (rwI (Int.ofNat 0) 0 xs) c (lZ [] z) m).frameG hH extS_ok tyV ruPlS (And.intro (o_nne rfl) trivial) hid0 (by simp) (rwI_plain _ _ _) (by kernel_rfl) (Nat.zero_le _) (fun e w F a hR ha=>exOf hR ha (t:=17) (b:=6) (o:=0) (j:=10) (cs:=actRL (.emp 7 3) 0 c) (ro:=false) (sib:=[]) (ty:=some 32) (by kernel_rfl) (by kernel_rfl) rfl)) ?_ (fun x tm st hx h=>absurd h.1 hx)
   rintro tm st ⟨-,rfl,rfl⟩
   rw [rwI_eq X]
   exact ruCellsE hH X rfl
  ·obtain ⟨t0,tl,ht⟩:∃ t0 tl,(xs.drop w).take q=t0 :: tl:=by
    cases hx:(xs.drop w).take q with
    | nil=>have:=congrArg List.length hx;rw [List.length_take,List.length_drop] at this;simp only [List.length_nil] at this;omega
    | cons a b=>exact ⟨a,b,rfl⟩
   have hok:=tRu0_ok X hn rfl hw
   have e0:rwL gN 0++(xs.drop w).take q=t0 :: tl:=by rw [ht];rfl
   rw [e0] at a1 a2
   rw [ht] at hok
   refine CodeL.app (((ruC0 (rwV gN 0) (Int.ofNat q) d c xs tl q w (lZ [] z) m F t0 (Int.ofNat c)).qtx ⟨oqP_row _ _ _,oqP_row _ _ _,trivial⟩).frame hH extQ_ok tyV ruPlC hok hid0 (by simp) (rwV_plain _ _) rfl (Nat.zero_le _) (t0:=13) rfl) ?_ (fun x tm st hx h=>absurd h.1 hx)
   rintro tm st ⟨-,rfl,rfl⟩
   rw [a1,a2,a3]
   exact ruTail hH X (ck:=some 0) (by omega) (Nat.zero_le _) (by omega) (.inl rfl) kR_r (kR_k gN_k)
 ·refine CodeL.app (((QOB.at (ruCu (rwV gN n) (Int.ofNat p) d c xs ((xs.drop w).take q) q w (lZ [] z) m F (Int.ofNat c)) (List.mem_range'_1.2 ⟨by omega,by omega⟩)).qtx ⟨oqP_row _ _ _,oqP_row _ _ _,trivial⟩).frame hH extQ_ok tyV ruPlC (tRuu_ok X hn hq hw) hid0 (by simp) (rwV_plain _ _) rfl (Nat.zero_le _) (t0:=13) rfl) ?_ (fun x tm st hx h=>absurd h.1 hx)
  rintro tm st ⟨-,rfl,rfl⟩
  rw [a1,a2,a3]
  exact ruTail hH X (by omega) (by omega) (by omega) (.inl rfl) kR_r (kR_k gN_k)
include hH X in
theorem ruGoB {n:Nat} {O Bo:Int} (eB:get (lZ [] z) Bo=some (oBo O F)) (hn:n≤12):CodeL w0 nRu ((kRu.drop 14).take 1++kRu.drop 15) ((s4 (Int.ofNat p) (Int.ofNat d) (Int.ofNat c) (Int.ofNat n) (n + 1) (ckB n) Bo (lZ [] z) m).wR 4 (rwV (gB O) (n + 1)) tyV).1 ((s4 (Int.ofNat p) (Int.ofNat d) (Int.ofNat c) (Int.ofNat n) (n + 1) (ckB n) Bo (lZ [] z) m).wR 4 (rwV (gB O) (n + 1)) tyV).2 RuEnd:=by
 obtain ⟨hp,hd,hc,hl⟩:=And.intro X.hp (And.intro X.hd (And.intro X.hc X.len))
 by_cases h1:p < n + 1
 ·refine CodeL.app (((QOB.at (ruCw (rwV (gB O) (n + 1)) (Int.ofNat p) d c xs ((p:Int) - (n + 1:Nat)) z m F O Bo (Int.ofNat c)) (List.mem_range.2 (by omega))).qtx trivial).frame hH extQ_ok tyV ruPlC (tRuw_ok X eB hn h1) hid0 (by simp) (rwV_plain _ _) rfl (Nat.zero_le _) (t0:=13) rfl) ?_ (fun x tm st hx h=>absurd h.1 hx)
  rintro tm st ⟨-,rfl,rfl⟩
  exact ruFail hH X _ (.inl h1)
 by_cases h2:n + 1 + d < p
 ·refine CodeL.app (((QOB.at (ruCy (rwV (gB O) (n + 1)) (Int.ofNat p) d c xs ((p:Int) - (n + 1:Nat)) z m F O Bo (Int.ofNat c)) (List.mem_range.2 (by omega))).qtx trivial).frame hH extQ_ok tyV ruPlC (tRuy_ok X eB hn h2) hid0 (by simp) (rwV_plain _ _) rfl (Nat.zero_le _) (t0:=13) rfl) ?_ (fun x tm st hx h=>absurd h.1 hx)
  rintro tm st ⟨-,rfl,rfl⟩
  exact ruFail hH X _ (.inr h2)
 obtain ⟨q,hq⟩:∃ q,n + 1 + q=p:=⟨p - (n + 1),by omega⟩
 obtain ⟨w,hw⟩:∃ w,w + q=d:=⟨d - q,by omega⟩
 obtain ⟨a1,a2,a3⟩:=args_eq X (gB_s O) hq hw
 refine CodeL.app (((QOB.at (ruCb (rwV (gB O) (n + 1)) (Int.ofNat p) d c xs ((xs.drop w).take q) q w (lZ [] z) m F O Bo (Int.ofNat c)) (List.mem_range.2 (by omega))).qtx ⟨oqP_row _ _ _,oqP_row _ _ _,trivial⟩).frame hH extQ_ok tyV ruPlC (tRub_ok X eB hn hq hw) hid0 (by simp) (rwV_plain _ _) rfl (Nat.zero_le _) (t0:=13) rfl) ?_ (fun x tm st hx h=>absurd h.1 hx)
 rintro tm st ⟨-,rfl,rfl⟩
 rw [a1,a2,a3]
 refine ruTail hH X (by omega) (by omega) (by omega) ?_ kR_r (kR_k (gB_k O))
 cases n with
 | zero=>exact .inr ⟨rfl,rfl⟩
 | succ n=>exact .inl rfl
end
theorem kRu_hd:flatC cRu=kRu.take 5++((kRu.drop 5).take 4++((kRu.drop 9).take 1++((kRu.drop 10).take 2++kRu.drop 12))):=by kernel_rfl
theorem kRu_U:kRu.drop 12=(kRu.drop 12).take 2++((kRu.drop 14).take 1++kRu.drop 15):=by kernel_rfl
theorem kRu_B:kRu.drop 12=(kRu.drop 12).take 1++([.cond (.tmp 49) (unThen (atC kRu 13)) .skip]++((kRu.drop 14).take 1++kRu.drop 15)):=by kernel_rfl
theorem ffffN (x:Int):andI x 65535=Int.ofNat (x % 65536).toNat:=by rw [andI_ffff];simp only [Int.ofNat_eq_natCast];omega
theorem ruX0 {p d c:Nat} (hp:p≤9) (hd:d≤p) (hc:c≤4) {z:Obs} (hz:lFu (lZ [] []) 20 (Int.ofNat p) d c=lZ [] z):RuH z (mN 20 c + 1) (mN 20 c + 1) 200 p d c (xsF (Int.ofNat p) d 20 c) (fun i=>mN 20 i + 1):=by
 have H1:=HJ.ce HJ.zero c
 have hlen:(xsF (Int.ofNat p) d 20 c).length=d + c:=rwL_len _ _
 refine ⟨?_,by decide,?_,hlen,fun i hi=>?_,?_,fun i hi=>?_,hp,hd,hc⟩
 ·rw [← hz]
  exact H1.add _ (by simp only [List.length_cons,List.length_nil,hlen];omega)
 ·rw [← hz]
  exact get_last H1 _
 ·rw [← hz]
  exact get_app_l (lCe_of HJ.zero hi)
 ·refine List.ext_getElem? fun i=>?_
  rw [List.getElem?_drop]
  by_cases h:i < c
  ·rw [rwL_at _ h]
   unfold xsF
   rw [rwL_at _ (by omega),show 3 + (d + i)=3 + d + i by omega,gF_cell]
  ·rw [List.getElem?_eq_none (by rw [hlen];omega),List.getElem?_eq_none (by rw [rwL_len];omega)]
 ·unfold xsF
  rw [rwL_at _ (by omega),gF_def hi,show 97 + (3 + i)=100 + i by omega]
theorem r6_get {z:Obs} {m F k:Int} {o:Ob} (h:get (lZ [] z) k=some o):get (r6 z m F) k=some o :=
 get_app_l (get_app_l (get_app_l (get_app_l (get_app_l h))))
theorem r6_lZ (z:Obs) (m F:Int):∃ z',r6 z m F=lZ [] z':=⟨_,by unfold r6 r5 r4 r2 r1;rw [lZ_app,lZ_app,lZ_app,lZ_app,lZ_app]⟩
theorem ruX1 {z z':Obs} {m F:Int} {u p d c:Nat} {xs:List V} {x:Nat→Int} (X:RuH z m F u p d c xs x) (hu:u + 420≤uMax) (hz:r6 z m F=lZ [] z'):RuH z' (m + 1 + 1 + 1 + 1 + 1) F (u + 20) p d c xs x∧get (lZ [] z') (m + 1 + 1 + 1 + 1 + 1)=some (oBo (m + 1 + 1 + 1 + 1) F):=by
 have H1:HJ (r1 z m) (m + 1) (u + 1):=X.H.add _ (by simp)
 have H2:HJ (r2 z m) (m + 1 + 1) (u + 2):=H1.add _ (by simp)
 have H4:HJ (r4 z m F) (m + 1 + 1 + 1) (u + 4):=H2.add _ (by simp)
 have H5:HJ (r5 z m F) (m + 1 + 1 + 1 + 1) (u + 6):=H4.add _ (by simp)
 have H6:HJ (r6 z m F) (m + 1 + 1 + 1 + 1 + 1) (u + 20):=H5.add _ (by simp)
 refine ⟨⟨by rw [← hz];exact H6,by omega,by rw [← hz];exact r6_get X.eF,X.len,fun i hi=>by rw [← hz];exact r6_get (X.cell i hi),X.rest,X.df,X.hp,X.hd,X.hc⟩,by rw [← hz];exact get_last H5 _⟩
theorem ruAll {w0:B0} (hH:Hd w0 fo0 0) (x y0 y1 y2:Int) (b:Bool):CodeQ w0 nRu cRu (initT [.int .i64 x,.agg [.int .i64 y0,.int .i64 y1,.int .i64 y2],.bool b] 0 .e) (st0 []) RuEnd:=by
 refine CodeL.code ?_
 rw [kRu_hd]
 obtain ⟨a0,ha0⟩:∃ a0:Nat,andI x 65535=Int.ofNat a0:=⟨_,ffffN x⟩
 obtain ⟨a1,ha1⟩:∃ a1:Nat,andI y0 65535=Int.ofNat a1:=⟨_,ffffN y0⟩
 obtain ⟨a2,ha2⟩:∃ a2:Nat,andI y1 65535=Int.ofNat a2:=⟨_,ffffN y1⟩
 obtain ⟨a3,ha3⟩:∃ a3:Nat,andI y2 65535=Int.ofNat a3:=⟨_,ffffN y2⟩
 obtain ⟨p,hp⟩:∃ p,a0 % 10=p:=⟨_,rfl⟩
 obtain ⟨d,hd⟩:∃ d,a1 % (p + 1)=d:=⟨_,rfl⟩
 obtain ⟨c,hc⟩:∃ c,a2 % 5=c:=⟨_,rfl⟩
 obtain ⟨n,hn⟩:∃ n,a3 % 13=n:=⟨_,rfl⟩
 have hp9:p≤9:=by omega
 have hdp:d≤p:=by have:=Nat.mod_lt a1 (show 0 < p + 1 by omega);omega
 have hc4:c≤4:=by omega
 have hn12:n≤12:=by omega
 have i64:∀ {u v:Int},u=v→some (SV.int .i64 u)=some (.int .i64 v):=fun h=>by rw [h]
 refine CodeL.app (PT.code (sc:=[]) hH (ruP x y0 y1 y2 b) ruPlP trivial hid0) ?_ (fun x tm st hx h=>absurd h.1 hx)
 rintro tm st ⟨-,rfl,rfl⟩
 refine CodeL.app (QT.code hH (ruN x y0 y1 y2 b a0 a1 a2 a3 p d c n) ruPlN (And.intro (i64 ha0) (And.intro (i64 (congrArg Int.ofNat hp)) (And.intro (i64 ha1) (And.intro (incOk (by omega)) (And.intro (i64 (congrArg Int.ofNat hd)) (And.intro (i64 ha2) (And.intro (i64 (congrArg Int.ofNat hc)) (And.intro (i64 ha3) (And.intro (i64 (congrArg Int.ofNat hn)) trivial))))))))) hid0) ?_ (fun x tm st hx h=>absurd h.1 hx)
 rintro tm st ⟨-,rfl,rfl⟩
 obtain ⟨z,hz⟩:∃ z,lFu (lZ [] []) 20 (Int.ofNat p) d c=lZ [] z:=by
  obtain ⟨z',h⟩:=lCe_lZ [] 20 c
  exact ⟨_,by unfold lFu;rw [h,lZ_app]⟩
 have X:=ruX0 hp9 hdp hc4 hz
 have hcall:=fuCall (p:=Int.ofNat p) (d:=d) (c:=c) (by omega) hc4 HJ.zero (by decide)
 rw [hz] at hcall
 refine CodeL.app (QTX.code hH (extC_ok (callable_of (by kernel_rfl)) extS_ok) (ruF (Int.ofNat p) (Int.ofNat d) (Int.ofNat c) (Int.ofNat n) b (mN 20 c + 1) [] (lZ [] z) 0 (mN 20 c + 1)) ruPlF (And.intro hcall trivial) hid0) ?_ (fun x tm st hx h=>absurd h.1 hx)
 rintro tm st ⟨-,rfl,rfl⟩
 obtain ⟨M,hM⟩:∃ M,mN 20 c + 1=M:=⟨_,rfl⟩
 rw [hM] at X ⊢
 refine CodeL.app (QO.code hH extS_ok (QOB.at (ruI (Int.ofNat p) (Int.ofNat d) (Int.ofNat c) b M (lZ [] z) M) (List.mem_range.2 (by omega:n < 13))) ruPlI trivial trivial hid0) ?_ (fun x tm st hx h=>absurd h.1 hx)
 rintro tm st ⟨-,rfl,rfl⟩
 cases b with
 | false =>
  rw [kRu_U]
  refine CodeL.app (QTX.frame hH extS_ok tyV (ruU (rwV gN n) (Int.ofNat p) (Int.ofNat d) (Int.ofNat c) (Int.ofNat n) n (ckN n) M (lZ [] z) M) ruPlU trivial hid0 (by simp) (rwV_plain _ _) rfl (Nat.zero_le _) (t0:=13) rfl) ?_ (fun x tm st hx h=>absurd h.1 hx)
  rintro tm st ⟨-,rfl,rfl⟩
  exact ruGoU hH X hn12
 | true =>
  rw [kRu_B]
  refine CodeL.app (QTX.frame hH extS_ok tyV (ruB (rwV gN n) (Int.ofNat p) (Int.ofNat d) (Int.ofNat c) (Int.ofNat n) n (ckN n) M (lZ [] z) M) ruPlB trivial hid0 (by simp) (rwV_plain _ _) rfl (Nat.zero_le _) (t0:=13) rfl) ?_ (fun x tm st hx h=>absurd h.1 hx)
  rintro tm st ⟨-,rfl,rfl⟩
  obtain ⟨z',hz'⟩:=r6_lZ z M M
  obtain ⟨X',eB⟩:=ruX1 X (by decide) hz'
  refine CodeL.app (P1:=fun y tm st=>y=.normal∧tm=((s4 (Int.ofNat p) (Int.ofNat d) (Int.ofNat c) (Int.ofNat n) (n + 1) (ckB n) (M + 1 + 1 + 1 + 1 + 1) (lZ [] z') (M + 1 + 1 + 1 + 1 + 1)).wR 4 (rwV (gB (M + 1 + 1 + 1 + 1)) (n + 1)) tyV).1∧st=((s4 (Int.ofNat p) (Int.ofNat d) (Int.ofNat c) (Int.ofNat n) (n + 1) (ckB n) (M + 1 + 1 + 1 + 1 + 1) (lZ [] z') (M + 1 + 1 + 1 + 1 + 1)).wR 4 (rwV (gB (M + 1 + 1 + 1 + 1)) (n + 1)) tyV).2) (CodeQ.row (CodeQ.cond (b:=true) rfl (CodeL.code ?_))) ?_ (fun x tm st hx h=>absurd h.1 hx)
  ·show CodeL w0 nRu (flatC (unThen (atC kRu 13))) _ _ _
   rw [kbRu_eq]
   refine CodeL.app (QTX.frame hH extCl_ok tyV (ruM (rwV gN n) (Int.ofNat p) (Int.ofNat d) (Int.ofNat c) (Int.ofNat n) n (ckN n) M z M) ruPlM (tRuM_ok X.H (by decide) X.eF) hid0 (by simp) (rwV_plain _ _) rfl (Nat.zero_le _) (t0:=13) rfl) ?_ (fun x tm st hx h=>absurd h.1 hx)
   rintro tm st ⟨-,rfl,rfl⟩
   rw [hz']
   refine (QO.code hH extS_ok (QOB.at (ruA (Int.ofNat p) (Int.ofNat d) (Int.ofNat c) (M + 1 + 1 + 1 + 1) (M + 1 + 1 + 1 + 1 + 1) (lZ [] z') (M + 1 + 1 + 1 + 1 + 1)) (List.mem_range.2 (by omega:n < 13))) ruPlA trivial trivial hid0).mono ?_
   rintro y tm st ⟨rfl,rfl,rfl⟩
   exact ⟨rfl,rfl,rfl⟩
  ·rintro tm st ⟨-,rfl,rfl⟩
   exact ruGoB hH X' eB hn12
theorem runs_any (x y0 y1 y2:Int) (b:Bool):LawT fRu [.int .i64 x,.agg #[.int .i64 y0,.int .i64 y1,.int .i64 y2],.bool b] :=
 lawQ (c:=cRu) (vs:=[.int .i64 x,.agg [.int .i64 y0,.int .i64 y1,.int .i64 y2],.bool b]) Tryz.func3 (by kernel_rfl) (zB (by kernel_rfl)) (zB (by kernel_rfl)) (.cons (.int _ _) (.cons (.agg (.cons (.int _ _) (.cons (.int _ _) (.cons (.int _ _) .nil)))) (.cons (.bool _) .nil))) fun w0 hg =>
  ruAll (Hd.of _) x y0 y1 y2 b
end
end Go.Proofs.YtlbcbikplfocfaaGreatDoor.W.E
