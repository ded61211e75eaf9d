/- LPrints -/
import Derived.Test.YtlbcbikplfocfaaGreatDoorLPrP
import Derived.Test.YtlbcbikplfocfaaGreatDoorLPrC
set_option linter.unusedVariables false
set_option linter.unusedSimpArgs false
namespace Go.Proofs.YtlbcbikplfocfaaGreatDoor.W.E
section
set_option maxRecDepth 100000
open Go.RowKit
abbrev okPr (l:List Code):Prop:=(l.all fun c=>planOkC (plan fPr) c)=true
theorem prPl0:okPr kPr:=by delta okPr;kernel_rfl
theorem prPlP:okPr (kPr.take 7):=by delta okPr;kernel_rfl
theorem prPlT:okPr (k1Pr.take 2):=by delta okPr;kernel_rfl
theorem prPlI:okPr (k1Pr.drop 3):=by delta okPr;kernel_rfl
theorem prPlZ:okPr (kPr.drop 8):=by delta okPr;kernel_rfl
theorem prPlA:okPr (kxPr.take 3):=by delta okPr;kernel_rfl
theorem prPlB:okPr (k2Pr.take 2):=by delta okPr;kernel_rfl
theorem prPlS:okPr (kyPr.take 3):=by delta okPr;kernel_rfl
theorem prPlN:okPr ((kyPr.drop 3).take 2):=by delta okPr;kernel_rfl
theorem prPlU:okPr ((kyPr.drop 5).take 1):=by delta okPr;kernel_rfl
theorem prPlV:okPr k3Pr:=by delta okPr;kernel_rfl
theorem prPlG:okPr (kyPr.drop 7):=by delta okPr;kernel_rfl
theorem prPlH:okPr (k2Pr.drop 3):=by delta okPr;kernel_rfl
theorem prPlJ:okPr ((kxPr.drop 4).take 1):=by delta okPr;kernel_rfl
theorem prPlL:okPr (kxPr.drop 5):=by delta okPr;kernel_rfl
theorem prPlE:okPr []:=by delta okPr;kernel_rfl
abbrev PrEnd:PostE:=fun x tm st=>(x=.normal∨x=.ret)∧resS Tryz.prog st.m tm rsPr=some (.bool true)
theorem hid8 {live:Live}:∀ b,b < 8→(b,b)∈vP++live:=fun b h=>by
 refine List.mem_append_left _ ?_
 rcases (by omega:b=0∨b=1∨b=2∨b=3∨b=4∨b=5∨b=6∨b=7) with rfl | rfl | rfl | rfl | rfl | rfl | rfl | rfl<;>simp [vP]
theorem hid8':∀ b,b < 8→(b,b)∈vP:=fun b h=>by have:=hid8 (live:=[]) b h;rwa [List.append_nil] at this
theorem addOk {s t:List UInt8} (h:s.length + t.length≤1000000):binS .add s t=some (.str (s++t)):=by
 have:Nat.ble (s.length + t.length) 4294967296=true:=Nat.ble_eq_true_of_le (by omega)
 show (bif Nat.ble (s.length + t.length) 4294967296 then some (SV.str (s++t)) else none)=_
 rw [this];rfl
theorem neS (s:List UInt8):binS .neq s s=some (.bool false):=by
 show some (SV.bool (!eqB s s))=_
 have:eqB s s=true:=by rw [eqB_ok];simp
 rw [this];rfl
theorem incPr {j:Nat} (h:j < 1000000):some (SV.int .i64 (wrapF .i64 (Int.add (Int.ofNat j) 1)))=some (.int .i64 (Int.ofNat (j + 1))):=o_add (by simp only [Int.ofNat_eq_natCast];omega)
theorem sumPr {a b c:Nat} (h:a + b=c) (h1:c < 1000000):some (SV.int .i64 (wrapF .i64 (Int.add (Int.ofNat a) (Int.ofNat b))))=some (.int .i64 (Int.ofNat c)):=o_add (by simp only [Int.ofNat_eq_natCast];omega)
theorem ltN {a b:Nat} (h:a < b):some (SV.bool (ltI (Int.ofNat a) (Int.ofNat b)))=some (.bool true):=o_lt (by simp only [Int.ofNat_eq_natCast];omega)
theorem nltN {a b:Nat} (h:¬ a < b):some (SV.bool (ltI (Int.ofNat a) (Int.ofNat b)))=some (.bool false):=o_nlt (by simp only [Int.ofNat_eq_natCast];omega)
theorem natIxP {n i:Nat} (hi:i < n):natIx (Int.ofNat i) n=some i:=by
 show (bif Nat.blt i n then some i else none)=some i
 have:Nat.blt i n=true:=by simpa [Nat.blt_eq] using hi
 rw [this];rfl
theorem ixEA (b n i:Nat):indexAddrV Tryz.prog 46 (.sl b 0 n 1 none) (.int .i64 (Int.ofNat i))=(match natIx (Int.ofNat i) n with
  | some k=>(match szT Tryz.prog 38 with
   | some s=>bif Nat.beq s 1 then some (SV.ptr b (0 + k * 1)) else none
   | none=>none)
  | none=>none):=by kernel_rfl
theorem ixA (b:Nat) {n i:Nat} (hi:i < n):indexAddrV Tryz.prog 46 (.sl b 0 n 1 none) (.int .i64 (Int.ofNat i))=some (.ptr b i):=by
 have hs:szT Tryz.prog 38=some 1:=by kernel_rfl
 rw [ixEA,natIxP hi]
 simp only [hs]
 simp
theorem ixEB (b n i:Nat):indexAddrV Tryz.prog 38 (.sl b 0 n 1 none) (.int .i64 (Int.ofNat i))=(match natIx (Int.ofNat i) n with
  | some k=>(match szT Tryz.prog 9 with
   | some s=>bif Nat.beq s 1 then some (SV.ptr b (0 + k * 1)) else none
   | none=>none)
  | none=>none):=by kernel_rfl
theorem ixB (b:Nat) {n i:Nat} (hi:i < n):indexAddrV Tryz.prog 38 (.sl b 0 n 1 none) (.int .i64 (Int.ofNat i))=some (.ptr b i):=by
 have hs:szT Tryz.prog 9=some 1:=by kernel_rfl
 rw [ixEB,natIxP hi]
 simp only [hs]
 simp
theorem ixEC (b n i:Nat):indexAddrV Tryz.prog 47 (.sl b 0 n 1 none) (.int .i64 (Int.ofNat i))=(match natIx (Int.ofNat i) n with
  | some k=>(match szT Tryz.prog 3 with
   | some s=>bif Nat.beq s 1 then some (SV.ptr b (0 + k * 1)) else none
   | none=>none)
  | none=>none):=by kernel_rfl
theorem ixC (b:Nat) {n i:Nat} (hi:i < n):indexAddrV Tryz.prog 47 (.sl b 0 n 1 none) (.int .i64 (Int.ofNat i))=some (.ptr b i):=by
 have hs:szT Tryz.prog 3=some 1:=by kernel_rfl
 rw [ixEC,natIxP hi]
 simp only [hs]
 simp
theorem minP_eq (s:List UInt8):some (minP s)=some (.int .i64 (Int.ofNat (min s.length 200))):=by
 unfold minP
 by_cases h:200 < s.length
 ·rw [if_pos (by simp only [Int.ofNat_eq_natCast];omega),Nat.min_eq_right (by omega)];rfl
 ·rw [if_neg (by simp only [Int.ofNat_eq_natCast];omega),Nat.min_eq_left (by omega)]
theorem sliceP_eq (s:List UInt8) (q:Nat) (hq:q≤s.length):sliceP s q=some (.str (s.take q)):=by
 have h1:Nat.ble q s.length=true:=Nat.ble_eq_true_of_le hq
 have h3:bdV ((T.e:T SV).upd 0 (some (.int .i64 (Int.ofNat q)))) (some (.tmp 0)) s.length (knowC (some s.length) s.length)=some q:=by
  show (bif Nat.ble q s.length then some q else none)=some q
  rw [h1];rfl
 unfold sliceP bounds3
 simp only [h3]
 show some (SV.str ((s.drop 0).take (q - 0)))=_
 simp
theorem fffP (x:Int):andI x 65535=Int.ofNat (x % 65536).toNat:=by rw [andI_ffff];simp only [Int.ofNat_eq_natCast];omega
theorem mem3 {lo n j k:Nat} (h1:lo≤j) (h2:j < lo + n) (hk:k < 3):j * 4 + k∈k3n lo n:=List.mem_flatMap.2 ⟨j,List.mem_range'_1.2 ⟨h1,h2⟩,by
 rcases (by omega:k=0∨k=1∨k=2) with rfl | rfl | rfl<;>simp⟩
theorem mem3s {k:Nat} (hk:k < 3):k∈k3s:=by
 rcases (by omega:k=0∨k=1∨k=2) with rfl | rfl | rfl<;>simp [k3s]
theorem icSnoc (sep y:List UInt8):∀ (xs:List (List UInt8)) (x:List UInt8),Lib.join ((x :: xs)++[y]) sep=Lib.join (x :: xs) sep++sep++y
 | [],x=>by simp [Lib.join,List.intercalate]
 | z :: t,x=>by
  have h:=icSnoc sep y t z
  simp only [Lib.join,List.intercalate,List.cons_append,List.intersperse_cons_cons,List.flatten_cons] at h ⊢
  rw [h];simp [List.append_assoc]
theorem txP_snoc (t:Nat→List UInt8) (j:Nat):txP t (j + 1)=txP t j++[t j]:=by unfold txP;rw [List.range_succ,List.map_append];rfl
theorem join_1 (t:Nat→List UInt8):Lib.join (txP t 1) [32]=t 0:=by simp [txP,Lib.join,List.intercalate]
theorem join_S (t:Nat→List UInt8) {j:Nat} (h:1≤j):Lib.join (txP t (j + 1)) [32]=Lib.join (txP t j) [32]++[32]++t j:=by
 rw [txP_snoc]
 cases hx:txP t j with
 | nil=>have:=congrArg List.length hx;simp [txP] at this;omega
 | cons a b=>exact icSnoc _ _ _ _
theorem fmC {α β:Type} {f g:α→List β}:∀ {l:List α},(∀ x∈l,f x=g x)→l.flatMap f=l.flatMap g
 | [],_=>rfl
 | a :: t,h=>by rw [List.flatMap_cons,List.flatMap_cons,h a (List.mem_cons_self ..),fmC fun x hx=>h x (List.mem_cons_of_mem _ hx)]
def upP (t:Nat→List UInt8) (j:Nat) (s:List UInt8):Nat→List UInt8:=fun i=>if i=j then s else t i
theorem rwP_up (t:Nat→List UInt8) (j:Nat) (s:List UInt8):rwP t (j + 1)++(⟨3,0,s⟩:V).svc=rwP (upP t j s) (j + 2):=by
 have h1:rwP (upP t j s) (j + 2)=rwP (upP t j s) (j + 1)++(gP (upP t j s) (j + 1)).svc:=by
  unfold rwP;rw [List.range_succ (n:=j + 1),List.flatMap_append];simp
 rw [h1]
 have h2:gP (upP t j s) (j + 1)=⟨3,0,s⟩:=by show (⟨3,0,upP t j s j⟩:V)=_;unfold upP;rw [if_pos rfl]
 rw [h2]
 congr 1
 unfold rwP
 refine fmC fun i hi=>?_
 have:=List.mem_range.1 hi
 cases i with
 | zero=>rfl
 | succ i=>show (⟨3,0,t i⟩:V).svc=(⟨3,0,upP t j s i⟩:V).svc;unfold upP;rw [if_neg (by omega)]
theorem rowLen {b:Nat} {v:SV} {l:List SV} (h:RowF b 4 v l isStr):∃ ln,lenV Tryz.prog 38 v=some (.int .i64 (Int.ofNat ln))∧∀ j,j < ln→j < 4→(∃ s,l[j]?=some (.str s))∧indexAddrV Tryz.prog 38 v (.int .i64 (Int.ofNat j))=some (.ptr b j):=by
 rcases h with rfl | rfl | ⟨n,rfl,h⟩
 ·exact ⟨0,by kernel_rfl,fun j hj=>absurd hj (Nat.not_lt_zero _)⟩
 ·exact ⟨0,by kernel_rfl,fun j hj=>absurd hj (Nat.not_lt_zero _)⟩
 ·refine ⟨n,by kernel_rfl,fun j hj h4=>?_⟩
  obtain ⟨x,h1,s,rfl⟩:=h j hj h4
  exact ⟨⟨s,h1⟩,ixB b hj⟩
structure PrH (n:Nat) (cs:List SV) (ss:Nat→List SV) (k q:Nat) (ts:List SV):Prop where
 rows:∀ i,i < n→i < 6→∃ x,cs[i]?=some x∧RowF (i + 1) 4 x (ss i) isStr
 times:k=0∨k=1∨(k=2∧∀ i,i < q→i < 6→∃ y,ts[i]?=some (.int .i64 y))
theorem PrH.k3 {n:Nat} {cs:List SV} {ss:Nat→List SV} {k q:Nat} {ts:List SV} (X:PrH n cs ss k q ts):k < 3:=by rcases X.times with h | h | ⟨h,-⟩<;>omega
section
variable {w0:B0} {n:Nat} {cs:List SV} {ss:Nat→List SV} {k q:Nat} {ts:List SV} (hH:Hd w0 (foP cs ss ts) 8) (X:PrH n cs ss k q ts) {out line:List UInt8} {l:Obs} {m:Int}
include hH X in
theorem prS' {i j:Nat} (hi:i < 6) (hj:j < 4) (v:SV) (s one:List UInt8) (a:Nat) (t:Nat→List UInt8) (hv:cs[i]?=some v) (h0:indexAddrV Tryz.prog 46 (.sl 0 0 n 1 none) (.int .i64 (Int.ofNat i))=some (.ptr 0 i))
  (h1:indexAddrV Tryz.prog 38 v (.int .i64 (Int.ofNat j))=some (.ptr (i + 1) j)) (hs:(ss i)[j]?=some (.str s)) (ha:some (minP s)=some (.int .i64 (Int.ofNat a))) (ho:sliceP s a=some (.str one)) :
  CodeL w0 nPr (kyPr.take 3) (p2 k q n i out j line t l m).1 (p2 k q n i out j line t l m).2 fun x tm st=>x=.normal∧tm=(p3 [] k q n i out j line t [] one 1 l m).1∧st=(p3 [] k q n i out j line t [] one 1 l m).2:=by
 have hk:=X.k3
 have q1:(j * 4 + k) / 4=j:=by omega
 have q2:(j * 4 + k) % 4=k:=by omega
 have ht:∀ {o1 o2 o3 o4 o5 o6 o7 o8 o9 o10:Nat},TL.ok [qRow0 o1 n i,qLd o2 cs i v,qRow1 o3 v i j,qLd o4 (ss i) j (.str s),qRow0 o5 n i,qLd o6 cs i v,qRow1 o7 v i j,qLd o8 (ss i) j (.str s),qI o9 (some (minP s)) (.int .i64 (Int.ofNat a)),qI o10 (sliceP s a) (.str one)]:=fun {_ _ _ _ _ _ _ _ _ _} =>
  And.intro h0 (And.intro hv (And.intro h1 (And.intro hs (And.intro h0 (And.intro hv (And.intro h1 (And.intro hs (And.intro ha (And.intro ho trivial)))))))))
 rcases (by omega:i=0∨i=1∨i=2∨i=3∨i=4∨i=5) with rfl | rfl | rfl | rfl | rfl | rfl
 ·have h:=QA.at (prS0 cs ss ts n q out l m v s one a line t) (mem3 (lo:=0) (n:=4) (Nat.zero_le j) (by omega) hk);simp only [q1,q2] at h;exact QT.code hH h prPlS ht hid8
 ·have h:=QA.at (prS1 cs ss ts n q out l m v s one a line t) (mem3 (lo:=0) (n:=4) (Nat.zero_le j) (by omega) hk);simp only [q1,q2] at h;exact QT.code hH h prPlS ht hid8
 ·have h:=QA.at (prS2 cs ss ts n q out l m v s one a line t) (mem3 (lo:=0) (n:=4) (Nat.zero_le j) (by omega) hk);simp only [q1,q2] at h;exact QT.code hH h prPlS ht hid8
 ·have h:=QA.at (prS3 cs ss ts n q out l m v s one a line t) (mem3 (lo:=0) (n:=4) (Nat.zero_le j) (by omega) hk);simp only [q1,q2] at h;exact QT.code hH h prPlS ht hid8
 ·have h:=QA.at (prS4 cs ss ts n q out l m v s one a line t) (mem3 (lo:=0) (n:=4) (Nat.zero_le j) (by omega) hk);simp only [q1,q2] at h;exact QT.code hH h prPlS ht hid8
 ·have h:=QA.at (prS5 cs ss ts n q out l m v s one a line t) (mem3 (lo:=0) (n:=4) (Nat.zero_le j) (by omega) hk);simp only [q1,q2] at h;exact QT.code hH h prPlS ht hid8
include hH X in
theorem prTimes {i j:Nat} (hi:i < 6) (hj:j < 4) (t:Nat→List UInt8) (s one:List UInt8):CodeL w0 nPr ((kyPr.drop 3).take 2) (p3 [] k q n i out j line t s one 1 l m).1 (p3 [] k q n i out j line t s one 1 l m).2
  fun x tm st=>∃ h,h≤199∧x=.normal∧tm=(p3 [] k q n i out j line t s one h l m).1∧st=(p3 [] k q n i out j line t s one h l m).2:=by
 have hk:=X.k3
 by_cases h2:k=2
 ·subst h2
  have ht:=(X.times.resolve_left (by decide)).resolve_left (by decide)
  by_cases hq:i < q
  ·obtain ⟨y,hy⟩:=ht.2 i hq hi
   refine (QT.code hH (QA.at (prN cs ss ts n q out l m i s one line t y (y % 65536).toNat ((y % 65536).toNat % 200)) (List.mem_range.2 hj)) prPlN (And.intro (ltN hq) (And.intro (ixC 7 hq) (And.intro hy (And.intro (congrArg (fun z=>some (SV.int .i64 z)) (fffP y)) (And.intro rfl trivial))))) hid8).mono ?_
   rintro x tm st ⟨rfl,rfl,rfl⟩
   exact ⟨_,by omega,rfl,rfl,rfl⟩
  ·refine (QT.code hH (QA.at (prO cs ss ts n q out l m i s one line t) (List.mem_range.2 hj)) prPlN (And.intro (nltN hq) trivial) hid8).mono ?_
   rintro x tm st ⟨rfl,rfl,rfl⟩
   exact ⟨1,by omega,rfl,rfl,rfl⟩
 ·have q1:(j * 4 + k) / 4=j:=by omega
  have q2:(j * 4 + k) % 4=k:=by omega
  have h:=QA.at (prQ cs ss ts n q out l m i s one line t) (i:=j * 4 + k) (List.mem_flatMap.2 ⟨j,List.mem_range.2 hj,by rcases (by omega:k=0∨k=1) with rfl | rfl<;>simp⟩)
  simp only [q1,q2] at h
  refine (QT.code hH h prPlN (And.intro (o_nlt (by simp only [Int.ofNat_eq_natCast];omega)) trivial) hid8).mono ?_
  rintro x tm st ⟨rfl,rfl,rfl⟩
  exact ⟨1,by omega,rfl,rfl,rfl⟩
include hH X in
theorem prRep {i j h:Nat} (hj:j < 4) (hh:h≤199) (t:Nat→List UInt8) (one:List UInt8) (ho:one.length≤200):CodeQ w0 nPr (.loop b3Pr) (p3 [(15,.int .i64 (Int.ofNat 0))] k q n i out j line t [] one h l m).1 (p3 [(15,.int .i64 (Int.ofNat 0))] k q n i out j line t [] one h l m).2
  fun x tm st=>x=.exit 4∧∃ s:List UInt8,s.length≤39800∧tm=(p3 [] k q n i out j line t s one h l m).1∧st=(p3 [] k q n i out j line t s one h l m).2:=by
 have hk:=X.k3
 have q1:(j * 4 + k) / 4=j:=by omega
 have q2:(j * 4 + k) % 4=k:=by omega
 refine CodeQ.loop (α:=Nat × List UInt8) (S:=fun p=>p3 [(15,.int .i64 (Int.ofNat p.1))] k q n i out j line t p.2 one h l m) (Inv:=fun p=>p.1≤h∧p.2.length≤200 * p.1) (μ:=fun p=>h - p.1) (fun p hp=>?_) (0,[]) ⟨Nat.zero_le _,Nat.zero_le _⟩
 obtain ⟨w,s⟩:=p
 obtain ⟨h1,h2⟩:=hp
 replace h1:w≤h:=h1
 replace h2:s.length≤200 * w:=h2
 refine CodeL.code ?_
 show CodeL w0 nPr k3Pr (p3 [(15,.int .i64 (Int.ofNat w))] k q n i out j line t s one h l m).1 (p3 [(15,.int .i64 (Int.ofNat w))] k q n i out j line t s one h l m).2 _
 by_cases hw:w < h
 ·have hv:=QA.at (prV cs ss ts n q out l m i s one line t h w) (mem3 (lo:=0) (n:=4) (Nat.zero_le j) (by omega) hk)
  simp only [q1,q2] at hv
  refine (QT.code hH hv prPlV (And.intro (ltN hw) (And.intro (addOk (by omega)) (And.intro (incPr (by omega)) trivial))) hid8).mono ?_
  rintro x tm st ⟨rfl,rfl,rfl⟩
  exact .inl ⟨rfl,(w + 1,s++one),⟨by show w + 1≤h;omega,by show (s++one).length≤200 * (w + 1);rw [List.length_append];omega⟩,by show h - (w + 1) < h - w;omega,rfl,rfl⟩
 ·have hv:=QA.at (prW cs ss ts n q out l m i s one line t h w) (mem3 (lo:=0) (n:=4) (Nat.zero_le j) (by omega) hk)
  simp only [q1,q2] at hv
  refine (QT.code hH hv prPlV (And.intro (nltN hw) trivial) hid8).mono ?_
  rintro x tm st ⟨rfl,rfl,rfl⟩
  exact .inr ⟨by simp,rfl,s,by omega,rfl,rfl⟩
include hH X in
theorem prOne {i j ln:Nat} (hn:i < n) (hi:i < 6) (hj:j < 4) (hl:j < ln) (t:Nat→List UInt8) (hline:line=Lib.join (txP t j) [32]) (hll:line.length≤40000 * j) {v:SV} (hv:cs[i]?=some v) (hrow:(∃ s,(ss i)[j]?=some (.str s))∧indexAddrV Tryz.prog 38 v (.int .i64 (Int.ofNat j))=some (.ptr (i + 1) j)) :
  CodeL w0 nPr (flatC (unBlock (atC k2Pr 2))) (p2 k q n i out j line t l m).1 (p2 k q n i out j line t l m).2 fun x tm st=>x=.normal∧∃ (s line2:List UInt8),line2=Lib.join (txP (upP t j s) (j + 1)) [32]∧line2.length≤40000 * (j + 1)∧tm=(p2b k q n i out j line2 t s l m).1∧st=(p2b k q n i out j line2 t s l m).2:=by
 have hk:=X.k3
 have q1:(j * 4 + k) / 4=j:=by omega
 have q2:(j * 4 + k) % 4=k:=by omega
 obtain ⟨⟨s0,hs0⟩,hix⟩:=hrow
 rw [kyPr_eq]
 refine CodeL.app (prS' hH X hi hj v s0 (s0.take (min s0.length 200)) (min s0.length 200) t hv (ixA 0 hn) hix hs0 (minP_eq s0) (sliceP_eq s0 _ (Nat.min_le_left _ _))) ?_ (fun x tm st hx h=>absurd h.1 hx)
 rintro tm st ⟨-,rfl,rfl⟩
 have ho:(s0.take (min s0.length 200)).length≤200:=by rw [List.length_take];omega
 refine CodeL.app (prTimes hH X hi hj t [] _) ?_ (fun x tm st hx ⟨_,_,h,_⟩=>absurd h hx)
 rintro tm st ⟨h,hh,-,rfl,rfl⟩
 have hu:=QA.at (prU cs ss ts n q out l m i [] (s0.take (min s0.length 200)) line t h) (mem3 (lo:=0) (n:=4) (Nat.zero_le j) (by omega) hk)
 simp only [q1,q2] at hu
 refine CodeL.app (QT.code (tl:=[]) hH hu prPlU trivial hid8) ?_ (fun x tm st hx h=>absurd h.1 hx)
 rintro tm st ⟨-,rfl,rfl⟩
 refine CodeL.app (P1:=fun x tm st=>x=.normal∧∃ s:List UInt8,s.length≤39800∧tm=(p3 [] k q n i out j line t s (s0.take (min s0.length 200)) h l m).1∧st=(p3 [] k q n i out j line t s (s0.take (min s0.length 200)) h l m).2) (CodeQ.row (CodeQ.block ((prRep hH X hj hh t _ ho).mono ?_))) ?_ (fun x tm st hx h=>absurd h.1 hx)
 ·rintro x tm st ⟨rfl,s,hs,rfl,rfl⟩
  exact ⟨rfl,s,hs,rfl,rfl⟩
 rintro tm st ⟨-,s,hs,rfl,rfl⟩
 by_cases hj0:j=0
 ·subst hj0
  obtain rfl:line=[]:=hline
  refine (QT.code hH (QA.at (prG0 cs ss ts n q out l m i s (s0.take (min s0.length 200)) t h) (mem3s hk)) prPlG (And.intro (addOk (by simp only [List.length_nil];omega)) trivial) hid8).mono ?_
  rintro x tm st ⟨rfl,rfl,rfl⟩
  exact ⟨rfl,s,s,by rw [join_1];unfold upP;rw [if_pos rfl],by omega,rfl,rfl⟩
 ·have hv:=QA.at (prG cs ss ts n q out l m i s (s0.take (min s0.length 200)) line t h) (mem3 (lo:=1) (n:=3) (j:=j) (by omega) (by omega) hk)
  simp only [q1,q2] at hv
  refine (QT.code hH hv prPlG (And.intro (addOk (by simp only [List.length_cons,List.length_nil];omega)) (And.intro (addOk (by simp only [List.length_append,List.length_cons,List.length_nil];omega)) trivial)) hid8).mono ?_
  rintro x tm st ⟨rfl,rfl,rfl⟩
  refine ⟨rfl,s,line++[32]++s,?_,by simp only [List.length_append,List.length_cons,List.length_nil];omega,rfl,rfl⟩
  rw [hline,join_S _ (by omega)]
  have e1:txP (upP t j s) j=txP t j:=List.map_congr_left fun i hi=>by unfold upP;rw [if_neg (by have:=List.mem_range.1 hi;omega)]
  have e2:upP t j s j=s:=by unfold upP;rw [if_pos rfl]
  rw [e1,e2]
include hH X in
theorem prLine {i:Nat} (hn:i < n) (hi:i < 6) (t0:Nat→List UInt8):CodeQ w0 nPr (.loop b2Pr) (p2 k q n i out 0 [] t0 l m).1 (p2 k q n i out 0 [] t0 l m).2
  fun x tm st=>x=.exit 2∧∃ (j:Nat) (t:Nat→List UInt8) (line:List UInt8),j≤4∧line=Lib.join (txP t j) [32]∧line.length≤40000 * j∧tm=(p2x k q n i out j line t l m).1∧st=(p2x k q n i out j line t l m).2:=by
 have hk:=X.k3
 obtain ⟨v,hv,hrow⟩:=X.rows i hn hi
 obtain ⟨ln,hlen,hel⟩:=rowLen hrow
 refine CodeQ.loop (α:=Nat × (Nat→List UInt8) × List UInt8) (S:=fun p=>p2 k q n i out p.1 p.2.2 p.2.1 l m) (Inv:=fun p=>p.1≤4∧p.2.2=Lib.join (txP p.2.1 p.1) [32]∧p.2.2.length≤40000 * p.1) (μ:=fun p=>4 - p.1) (fun p hp=>?_) (0,t0,[]) ⟨Nat.zero_le _,rfl,Nat.zero_le _⟩
 obtain ⟨j,t,line⟩:=p
 obtain ⟨h1,h2,h3⟩:=hp
 replace h1:j≤4:=h1
 replace h2:line=Lib.join (txP t j) [32]:=h2
 replace h3:line.length≤40000 * j:=h3
 have q1:(j * 4 + k) / 4=j:=by omega
 have q2:(j * 4 + k) % 4=k:=by omega
 refine CodeL.code ?_
 show CodeL w0 nPr k2Pr (p2 k q n i out j line t l m).1 (p2 k q n i out j line t l m).2 _
 by_cases hjl:j < ln
 ·by_cases hj4:j < 4
  ·have hb:=QA.at (prB cs ss ts n q out l m i v ln line t) (mem3 (lo:=0) (n:=4) (Nat.zero_le j) (by omega) hk)
   simp only [q1,q2] at hb
   have e:k2Pr=flatC b2Pr:=rfl
   rw [e,k2Pr_eq]
   refine CodeL.app (QT.code hH hb prPlB (And.intro (ixA 0 hn) (And.intro hv (And.intro hlen (And.intro (ltN hjl) trivial)))) hid8) ?_ (fun x tm st hx h=>absurd h.1 hx)
   rintro tm st ⟨-,rfl,rfl⟩
   have h4:=prOne hH X (out:=out) (l:=l) (m:=m) hn hi hj4 hjl t h2 h3 hv (hel j hjl hj4)
   refine CodeL.app (P1:=fun x tm st=>x=.normal∧∃ (s line2:List UInt8),line2=Lib.join (txP (upP t j s) (j + 1)) [32]∧line2.length≤40000 * (j + 1)∧tm=(p2b k q n i out j line2 t s l m).1∧st=(p2b k q n i out j line2 t s l m).2) (CodeQ.row (CodeQ.block ((CodeL.code h4).mono ?_))) ?_ (fun x tm st hx h=>absurd h.1 hx)
   ·rintro x tm st ⟨rfl,h⟩
    exact ⟨rfl,h⟩
   rintro tm st ⟨-,s,line2,e1,e2,rfl,rfl⟩
   have hv2:=QA.at (prH cs ss ts n q out l m i line2 t s) (mem3 (lo:=0) (n:=4) (Nat.zero_le j) (by omega) hk)
   simp only [q1,q2] at hv2
   refine (QT.code (tl:=[]) hH hv2 prPlH trivial hid8).mono ?_
   rintro x tm st ⟨rfl,rfl,rfl⟩
   exact .inl ⟨rfl,(j + 1,upP t j s,line2),⟨by show j + 1≤4;omega,e1,e2⟩,by show 4 - (j + 1) < 4 - j;omega,rfl,congrArg (fun r=>(⟨mkT [(9,wldAt 8 out),(10,.row r tyV)],11,hP l m⟩:St HX)) (rwP_up t j s)⟩
  ·obtain rfl:j=4:=by omega
   have hb:=QA.at (prD cs ss ts n q out l m i v ln line t) (mem3 (lo:=4) (n:=1) (j:=4) (by omega) (by omega) hk)
   simp only [q1,q2] at hb
   have e:k2Pr=flatC b2Pr:=rfl
   rw [e,k2Pr_eq]
   refine CodeL.app (QT.code hH hb prPlB (And.intro (ixA 0 hn) (And.intro hv (And.intro hlen (And.intro (ltN hjl) trivial)))) hid8) (fun tm st h=>absurd h.1 (by simp)) ?_
   rintro x tm st hx ⟨rfl,rfl,rfl⟩
   exact .inr ⟨by simp,rfl,4,t,line,by omega,h2,h3,rfl,rfl⟩
 ·have hb:=QA.at (prC cs ss ts n q out l m i v ln line t) (mem3 (lo:=0) (n:=5) (Nat.zero_le j) (by omega) hk)
  simp only [q1,q2] at hb
  have e:k2Pr=flatC b2Pr:=rfl
  rw [e,k2Pr_eq]
  refine CodeL.app (QT.code hH hb prPlB (And.intro (ixA 0 hn) (And.intro hv (And.intro hlen (And.intro (nltN hjl) trivial)))) hid8) (fun tm st h=>absurd h.1 (by simp)) ?_
  rintro x tm st hx ⟨rfl,rfl,rfl⟩
  exact .inr ⟨by simp,rfl,j,t,line,h1,h2,h3,rfl,rfl⟩
end
section
variable {w0:B0} {n:Nat} {cs:List SV} {ss:Nat→List SV} {k q:Nat} {ts:List SV} (hH:Hd w0 (foP cs ss ts) 8) (X:PrH n cs ss k q ts) {out:List UInt8} {z:Obs} {m:Int} {u:Nat}
include hH X in
theorem prOut {i j:Nat} (hj:j≤4) (t:Nat→List UInt8) {line:List UInt8} (hline:line=Lib.join (txP t j) [32]) (hll:line.length≤40000 * j) (ho:out.length≤65536) (H:HJ (lZ [] z) m u) (hu:u + 100≤uMax) :
  CodeL w0 nPr ((kxPr.drop 4).take 1++kxPr.drop 5) (p2x k q n i out j line t (lZ [] z) m).1 (p2x k q n i out j line t (lZ [] z) m).2
   fun x tm st=>x=.normal∧∃ (out2:List UInt8) (z2:Obs) (m2:Int),out2.length≤65536∧HJ (lZ [] z2) m2 (u + 5)∧tm=(p1 k q n i out2 (lZ [] z2) m2).1∧st=(p1 k q n i out2 (lZ [] z2) m2).2:=by
 have hk:=X.k3
 have q1:(j * 4 + k) / 4=j:=by omega
 have q2:(j * 4 + k) % 4=k:=by omega
 have h1:(line++[10]).length=line.length + 1:=by rw [List.length_append];rfl
 have sum:some (SV.int .i64 (wrapF .i64 (Int.add (Int.ofNat out.length) (Int.ofNat (line++[10]).length))))=some (.int .i64 (Int.ofNat (out.length + line.length + 1))):=sumPr (by rw [h1];omega) (by omega)
 by_cases hf:out.length + line.length + 1≤65536
 ·have tail:CodeL w0 nPr (kxPr.drop 5) (p5 k q n i out line (out++line++[10]) actN (lZ [] z) m).1 (p5 k q n i out line (out++line++[10]) actN (lZ [] z) m).2
    fun x tm st=>x=.normal∧∃ (out2:List UInt8) (z2:Obs) (m2:Int),out2.length≤65536∧HJ (lZ [] z2) m2 (u + 5)∧tm=(p1 k q n i out2 (lZ [] z2) m2).1∧st=(p1 k q n i out2 (lZ [] z2) m2).2:=by
   refine (QT.code hH (QA.at (prL cs ss ts n q out (lZ [] z) m i line (out.length + line.length)) (mem3s hk)) prPlL (And.intro (sumPr rfl (by omega)) (And.intro (incPr (by omega)) (And.intro (o_ge (by simp only [Int.ofNat_eq_natCast];omega)) (And.intro (addOk (by omega)) (And.intro (addOk (by simp only [List.length_append,List.length_cons,List.length_nil];omega)) (And.intro (neS _) trivial)))))) hid8').mono ?_
   rintro x tm st ⟨rfl,rfl,rfl⟩
   exact ⟨rfl,out++line++[10],z,m,by simp only [List.length_append,List.length_cons,List.length_nil];omega,H.up (by omega),rfl,rfl⟩
  by_cases hj0:j=0
  ·subst hj0
   obtain rfl:line=[]:=hline
   refine CodeL.app (P1:=fun x tm st=>x=.normal∧tm=(p5 k q n i out [] (out++[10]) actN (lZ [] z) m).1∧st=(p5 k q n i out [] (out++[10]) actN (lZ [] z) m).2) (QTX.code hH extJ_ok (List.map_inj_left.1 (prJ0 cs ss ts n q out (lZ [] z) m i [] t (out.length + 1)) k (mem3s hk)) prPlJ (And.intro (addOk (by simp)) (And.intro sum (And.intro (o_nlt (by simp only [Int.ofNat_eq_natCast];omega)) (And.intro (addOk (by simp only [List.length_cons,List.length_nil];omega)) trivial)))) hid8) ?_ (fun x tm st hx h=>absurd h.1 hx)
   rintro tm st ⟨-,rfl,rfl⟩
   have:=tail
   rw [List.append_nil] at this
   exact this
  ·have hv:=List.map_inj_left.1 (prJ cs ss ts n q out (lZ [] z) m i line line t (out.length + line.length + 1)) (j * 4 + k) (mem3 (lo:=1) (n:=4) (by omega) (by omega) hk)
   simp only [q1,q2] at hv
   refine CodeL.app (P1:=fun x tm st=>x=.normal∧tm=(p5 k q n i out line (out++(line++[10])) actN (lZ [] z) m).1∧st=(p5 k q n i out line (out++(line++[10])) actN (lZ [] z) m).2) (QTX.code hH extJ_ok hv prPlJ (And.intro ⟨⟨hline.symm,by omega⟩,rfl⟩ (And.intro (addOk (by simp only [List.length_cons,List.length_nil];omega)) (And.intro sum (And.intro (o_nlt (by simp only [Int.ofNat_eq_natCast];omega)) (And.intro (addOk (by rw [h1];omega)) trivial))))) hid8) ?_ (fun x tm st hx h=>absurd h.1 hx)
   rintro tm st ⟨-,rfl,rfl⟩
   rw [← List.append_assoc]
   exact tail
 ·have g2:get (e3 (lZ [] z) m [] eMem 18) (m + 1 + 1)=some (o2 eMem 18 [(vstr sArgs,vr (m + 1))]):=gE2 H (by decide)
  have g1:get (e3 (lZ [] z) m [] eMem 18) (m + 1)=some (o1 []):=gE1 H (by decide)
  have tail:CodeL w0 nPr (kxPr.drop 5) (p5 k q n i out line out (actB (m + 1 + 1)) (e3 (lZ [] z) m [] eMem 18) (m + 1 + 1)).1 (p5 k q n i out line out (actB (m + 1 + 1)) (e3 (lZ [] z) m [] eMem 18) (m + 1 + 1)).2
    fun x tm st=>x=.normal∧∃ (out2:List UInt8) (z2:Obs) (m2:Int),out2.length≤65536∧HJ (lZ [] z2) m2 (u + 5)∧tm=(p1 k q n i out2 (lZ [] z2) m2).1∧st=(p1 k q n i out2 (lZ [] z2) m2).2:=by
   refine (QT.code hH (QA.at (prM cs ss ts n q out m z i line (out.length + line.length)) (mem3s hk)) prPlL (And.intro (sumPr rfl (by omega)) (And.intro (incPr (by omega)) (And.intro (o_nge (by simp only [Int.ofNat_eq_natCast];omega)) (And.intro (zAt g2 (i:=0) rfl) (And.intro (zKind g2 rfl) (And.intro (zAt g2 (i:=0) rfl) (And.intro (zKind g2 rfl) (And.intro (zGet g2 rfl) (And.intro (zAtN g1 (.inr (by decide))) (And.intro (neS _) trivial)))))))))) hid8').mono ?_
   rintro x tm st ⟨rfl,rfl,rfl⟩
   have hz:e3 (lZ [] z) m [] eMem 18=lZ [] (z++[(m + 1,o1 [])]++[(m + 1 + 1,o2 eMem 18 [(vstr sArgs,vr (m + 1))])]):=by
    unfold e3 e2 e1;rw [lZ_app,lZ_app]
   rw [hz]
   exact ⟨rfl,out,_,m + 1 + 1,ho,by rw [← hz];exact HJ.e2 H (by decide) (by simp),rfl,rfl⟩
  have rz:∀ {o p r:Nat},(qRaise o p r 8 (lZ [] z) m [] eMem 18).ok:=fun {_ _ _}=>qRaise_ok H (by simp only [uMax] at hu ⊢;omega) (by decide)
  by_cases hj0:j=0
  ·subst hj0
   obtain rfl:line=[]:=hline
   refine CodeL.app (QTX.code hH extJ_ok (List.map_inj_left.1 (prK0 cs ss ts n q out m z i [] t (out.length + 1)) k (mem3s hk)) prPlJ (TL.ok_app (And.intro (addOk (by simp)) (And.intro sum (And.intro (o_lt (by simp only [Int.ofNat_eq_natCast];simp only [List.length_nil] at hf;omega)) trivial))) rz) hid8) ?_ (fun x tm st hx h=>absurd h.1 hx)
   rintro tm st ⟨-,rfl,rfl⟩
   exact tail
  ·have hv:=List.map_inj_left.1 (prK cs ss ts n q out m z i line line t (out.length + line.length + 1)) (j * 4 + k) (mem3 (lo:=1) (n:=4) (by omega) (by omega) hk)
   simp only [q1,q2] at hv
   refine CodeL.app (QTX.code hH extJ_ok hv prPlJ (TL.ok_app (And.intro ⟨⟨hline.symm,by omega⟩,rfl⟩ (And.intro (addOk (by simp only [List.length_cons,List.length_nil];omega)) (And.intro sum (And.intro (o_lt (by simp only [Int.ofNat_eq_natCast];omega)) trivial)))) rz) hid8) ?_ (fun x tm st hx h=>absurd h.1 hx)
   rintro tm st ⟨-,rfl,rfl⟩
   exact tail
include hH X in
theorem prAll (H:HJ (lZ [] []) 20 100):CodeL w0 nPr ([.block 0 (.loop b1Pr)]++kPr.drop 8) (p1 k q n 0 [] (lZ [] []) 20).1 (p1 k q n 0 [] (lZ [] []) 20).2 PrEnd:=by
 have hk:=X.k3
 refine CodeL.app (P1:=fun x tm st=>x=.normal∧∃ (i:Nat) (out:List UInt8) (l:Obs) (m:Int),tm=(p1 k q n i out l m).1∧st=(p1 k q n i out l m).2) (CodeQ.row (CodeQ.block ?_)) ?_ (fun x tm st hx h=>absurd h.1 hx)
 ·refine CodeQ.loop (α:=Nat × List UInt8 × Obs × Int) (S:=fun p=>p1 k q n p.1 p.2.1 (lZ [] p.2.2.1) p.2.2.2) (Inv:=fun p=>p.1≤6∧p.2.1.length≤65536∧HJ (lZ [] p.2.2.1) p.2.2.2 (100 + 5 * p.1)) (μ:=fun p=>6 - p.1) (fun p hp=>?_) (0,[],[],20) ⟨Nat.zero_le _,Nat.zero_le _,H⟩
  obtain ⟨i,out,z,m⟩:=p
  obtain ⟨h1,h2,h3⟩:=hp
  replace h1:i≤6:=h1
  replace h2:out.length≤65536:=h2
  replace h3:HJ (lZ [] z) m (100 + 5 * i):=h3
  refine CodeL.code ?_
  show CodeL w0 nPr k1Pr (p1 k q n i out (lZ [] z) m).1 (p1 k q n i out (lZ [] z) m).2 _
  by_cases hn:i < n
  ·by_cases hi:i < 6
   ·have e:k1Pr=flatC b1Pr:=rfl
    rw [e,k1Pr_eq]
    refine CodeL.app (QT.code hH (QA.at (prT cs ss ts n q out (lZ [] z) m i) (mem3s hk)) prPlT (And.intro (ltN hn) (And.intro (o_lt (by simp only [Int.ofNat_eq_natCast];omega)) trivial)) hid8') ?_ (fun x tm st hx h=>absurd h.1 hx)
    rintro tm st ⟨-,rfl,rfl⟩
    refine CodeL.app (P1:=fun x tm st=>x=.normal∧∃ (out2:List UInt8) (z2:Obs) (m2:Int),out2.length≤65536∧HJ (lZ [] z2) m2 (100 + 5 * i + 5)∧tm=(p1 k q n i out2 (lZ [] z2) m2).1∧st=(p1 k q n i out2 (lZ [] z2) m2).2) (CodeQ.row (CodeQ.block (CodeL.code ?_))) ?_ (fun x tm st hx h=>absurd h.1 hx)
    ·rw [kxPr_eq]
     refine CodeL.app (QT.code (tl:=[]) hH (QA.at (prA cs ss ts n q out (lZ [] z) m i (fun _=>[])) (mem3s hk)) prPlA trivial hid8) ?_ (fun x tm st hx h=>by rw [h.1] at hx;exact absurd rfl hx)
     rintro tm st ⟨-,rfl,rfl⟩
     refine CodeL.app (P1:=fun x tm st=>x=.normal∧∃ (j:Nat) (t:Nat→List UInt8) (line:List UInt8),j≤4∧line=Lib.join (txP t j) [32]∧line.length≤40000 * j∧tm=(p2x k q n i out j line t (lZ [] z) m).1∧st=(p2x k q n i out j line t (lZ [] z) m).2) (CodeQ.row (CodeQ.block ((prLine hH X hn hi (fun _=>[])).mono ?_))) ?_ (fun x tm st hx h=>absurd h.1 hx)
     ·rintro x tm st ⟨rfl,h⟩
      exact ⟨rfl,h⟩
     ·rintro tm st ⟨-,j,t,line,hj,e1,e2,rfl,rfl⟩
      refine (prOut hH X hj t e1 e2 h2 h3 (by simp only [uMax];omega)).mono ?_
      rintro x tm st ⟨rfl,h⟩
      exact ⟨rfl,h⟩
    ·rintro tm st ⟨-,out2,z2,m2,k1,k2,rfl,rfl⟩
     refine (QT.code hH (QA.at (prI cs ss ts n q out2 (lZ [] z2) m2 i) (mem3s hk)) prPlI (And.intro (incPr (by omega)) trivial) hid8').mono ?_
     rintro x tm st ⟨rfl,rfl,rfl⟩
     exact .inl ⟨rfl,(i + 1,out2,z2,m2),⟨by show i + 1≤6;omega,k1,k2.up (by omega)⟩,by show 6 - (i + 1) < 6 - i;omega,rfl,rfl⟩
   ·have e:k1Pr=flatC b1Pr:=rfl
    rw [e,k1Pr_eq]
    refine CodeL.app (QT.code hH (QA.at (prY cs ss ts n q out (lZ [] z) m i) (mem3s hk)) prPlT (And.intro (ltN hn) (And.intro (o_nlt (by simp only [Int.ofNat_eq_natCast];omega)) trivial)) hid8') (fun tm st h=>absurd h.1 (by simp)) ?_
    rintro x tm st hx ⟨rfl,rfl,rfl⟩
    exact .inr ⟨by simp,rfl,i,out,_,m,rfl,rfl⟩
  ·have e:k1Pr=flatC b1Pr:=rfl
   rw [e,k1Pr_eq]
   refine CodeL.app (QT.code hH (QA.at (prX cs ss ts n q out (lZ [] z) m i) (mem3s hk)) prPlT (And.intro (nltN hn) trivial) hid8') (fun tm st h=>absurd h.1 (by simp)) ?_
   rintro x tm st hx ⟨rfl,rfl,rfl⟩
   exact .inr ⟨by simp,rfl,i,out,_,m,rfl,rfl⟩
 ·rintro tm st ⟨-,i,out,l,m,rfl,rfl⟩
  have he:=QA.at (prE cs ss ts n q out l m i) (mem3s hk)
  refine CodeL.app (l1:=[]) (QT.code (tl:=[]) hH he prPlE trivial hid8') ?_ (fun x tm st hx h=>absurd h.1 hx)
  rintro tm st ⟨-,rfl,rfl⟩
  exact QE.code (tl:=[]) hH (prZ cs ss ts out l m) prPlZ trivial
end
theorem prints_any:LawSs fPr:=by
 refine lawSs (c:=cPr) Tryz.func5 (by kernel_rfl) (zB (by kernel_rfl)) (fun w0 vo vt hH hvo=>?_) (fun w0 n cs ss vt ts hH hrows ht=>?_)
 ·refine CodeL.code ?_
  rcases hvo with rfl | rfl
  ·exact PE.code (sc:=[]) hH (prP_nils vt) prPl0 trivial
  ·exact PE.code (sc:=[]) hH (prP_we vt) prPl0 trivial
 ·obtain ⟨k,q,rfl,hk⟩:∃ k q,vt=vT k q∧(k=0∨k=1∨(k=2∧∀ i,i < q→i < 6→∃ y,ts[i]?=some (.int .i64 y))):=by
   rcases ht with rfl | rfl | ⟨q,rfl,h⟩
   ·exact ⟨0,0,rfl,.inl rfl⟩
   ·exact ⟨1,0,rfl,.inr (.inl rfl)⟩
   ·refine ⟨2,q,rfl,.inr (.inr ⟨rfl,fun i h1 h2=>?_⟩)⟩
    obtain ⟨x,e,y,rfl,-⟩:=h i h1 h2
    exact ⟨y,e⟩
  have X:PrH n cs ss k q ts:=⟨hrows,hk⟩
  refine CodeL.code ?_
  rw [kPr_eq]
  refine CodeL.app (PT.code (sc:=[]) hH (PA.at (prP cs ss ts n q) (mem3s X.k3)) prPlP trivial hid8') ?_ (fun x tm st hx h=>absurd h.1 hx)
  rintro tm st ⟨-,rfl,rfl⟩
  exact prAll hH X HJ.zero
end
end Go.Proofs.YtlbcbikplfocfaaGreatDoor.W.E
