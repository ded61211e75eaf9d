/- LSpecial -/
import Derived.Test.YtlbcbikplfocfaaGreatDoorLSpF
import Derived.Test.YtlbcbikplfocfaaGreatDoorLSpP
set_option linter.unusedVariables false
set_option linter.unusedSimpArgs false
namespace Go.Proofs.YtlbcbikplfocfaaGreatDoor.W.E
section
set_option maxRecDepth 100000
open Go.RowKit
theorem spPlP:okSp (kSp.take 9):=by delta okSp;kernel_rfl
theorem spPl1:okSp k1Sp:=by delta okSp;kernel_rfl
theorem spPlI:okSp ((kSp.drop 10).take 1):=by delta okSp;kernel_rfl
theorem spPlE:okSp (kSp.drop 12):=by delta okSp;kernel_rfl
theorem spPlT:okSp (k2Sp.take 2):=by delta okSp;kernel_rfl
theorem spPlN:okSp (k2Sp.drop 3):=by delta okSp;kernel_rfl
theorem spPlC:okSp (kbSp.take 1):=by delta okSp;kernel_rfl
theorem spPlO:okSp ((kbSp.drop 1).take 2):=by delta okSp;kernel_rfl
theorem spPlK:okSp ((kbSp.drop 12).take 3):=by delta okSp;kernel_rfl
theorem spPlF:okSp ((kbSp.drop 16).take 1):=by delta okSp;kernel_rfl
theorem spPlG:okSp ((kbSp.drop 17).take 1):=by delta okSp;kernel_rfl
theorem spPlH:okSp (kbSp.drop 18):=by delta okSp;kernel_rfl
def bS (x:Int) (i:Nat):Bool:=decide (andI (Int.fdiv x (2 ^ i)) 1=1)
theorem bS_t {x:Int} {i:Nat} (h:bS x i=true):some (SV.int .i64 (andI (Int.fdiv x (2 ^ i)) 1))=some (SV.int .i64 1):=by rw [of_decide_eq_true h]
theorem bS_f {x:Int} {i:Nat} (h:bS x i=false):some (SV.int .i64 (andI (Int.fdiv x (2 ^ i)) 1))=some (SV.int .i64 0):=by
 have h1:=of_decide_eq_false h
 rw [andI_1] at h1 ⊢
 have:(Int.fdiv x (2 ^ i)) % 2=0:=by omega
 rw [this]
theorem lD_Z (z:Obs) (n p:Int) (g:Nat→List UInt8) (r:Nat):∃ z1,lD (lZ [] z) n p g r=lZ [] z1:=by
 refine ⟨z++[(n + 1,oSp (Dr n g r))]++fnsL n p r++[(mC n r + 1,⟨2,[],0,[],[]⟩)]++[(mC n r + 1 + 1,oCl sC1 (Dr n g r))],?_⟩
 unfold lD lT lC
 rw [lZ_app,lZ_app,lZ_app,lZ_app]
section
variable {w0:B0} (hH:Hd w0 fo0 0)
include hH in
theorem spNames (x:Int):CodeQ w0 nSp (.loop b1Sp) ((s1 x 0 0 (fun _=>0)).w3 []).1 ((s1 x 0 0 (fun _=>0)).w3 []).2 fun y tm st=>y=.exit 0∧∃ r g cd,Nm (bS x) 8 r g cd∧tm=((s1 x 8 r cd).w3 (rwS g r)).1∧st=((s1 x 8 r cd).w3 (rwS g r)).2:=by
 refine CodeQ.loop (α:=Nat × Nat × (Nat→List UInt8) × (Nat→Int)) (S:=fun q=>(s1 x q.1 q.2.1 q.2.2.2).w3 (rwS q.2.2.1 q.2.1)) (Inv:=fun q=>q.1≤8∧Nm (bS x) q.1 q.2.1 q.2.2.1 q.2.2.2) (μ:=fun q=>8 - q.1) (fun q hq=>?_) (0,0,(fun _=>[]),fun _=>0) ⟨by show 0≤8;omega,Nm.zero _ _⟩
 obtain ⟨i,r,g,cd⟩:=q
 obtain ⟨hi,hN⟩:=hq
 replace hi:i≤8:=hi
 replace hN:Nm (bS x) i r g cd:=hN
 have hle:=hN.le
 refine CodeL.code ?_
 show CodeL w0 nSp k1Sp ((s1 x i r cd).w3 (rwS g r)).1 ((s1 x i r cd).w3 (rwS g r)).2 _
 by_cases hlt:i < 8
 ·have q1:(i * 16 + r) / 16=i:=by omega
  have q2:(i * 16 + r) % 16=r:=by omega
  have hq:i * 16 + r∈prA:=List.mem_flatMap.2 ⟨i,List.mem_range.2 hlt,List.mem_map.2 ⟨r,List.mem_range.2 (by omega),rfl⟩⟩
  cases hb:bS x i with
  | true =>
   have h:=(spA x cd g).at hq
   simp only [q1,q2] at h
   refine (QT.code hH h spPl1 (And.intro (bS_t hb) trivial) spHid).mono ?_
   rintro y tm st ⟨rfl,rfl,rfl⟩
   rw [← rwS_set]
   exact .inl ⟨rfl,(i + 1,r + 1,updS g r (nmS i),updS cd i (Int.ofNat (r + 1))),⟨by show i + 1≤8;omega,hN.set hb⟩,by show 8 - (i + 1) < 8 - i;omega,rfl,rfl⟩
  | false =>
   have h:=(spU x cd g).at hq
   simp only [q1,q2] at h
   refine (QT.code hH h spPl1 (And.intro (bS_f hb) trivial) spHid).mono ?_
   rintro y tm st ⟨rfl,rfl,rfl⟩
   exact .inl ⟨rfl,(i + 1,r,g,cd),⟨by show i + 1≤8;omega,hN.skip hb⟩,by show 8 - (i + 1) < 8 - i;omega,rfl,rfl⟩
 ·obtain rfl:i=8:=by omega
  refine (QT.code (tl:=[]) hH ((spX x cd g).at (List.mem_range.2 (show r < 9 by omega))) spPl1 trivial spHid).mono ?_
  rintro y tm st ⟨rfl,rfl,rfl⟩
  exact .inr ⟨by simp,rfl,r,g,cd,hN,rfl,rfl⟩
include hH in
theorem spTail {p:Nat} (T:Tn p) {b:Nat→Bool} {r:Nat} {g:Nat→List UInt8} {fn:Nat→Int} {c o:Int} {D:Row} {U:Nat} (hU:U + 20≤uMax) {w:Lt} {k:Nat} {z:Obs} {n:Int} (H:HJ (lZ [] z) n U) (I:InC b (Int.ofNat p) w.cd fn c D (lZ [] z)) (ho:get (lZ [] z) o=some (oIn c)) (hk:k∈mks p 8)
  (hb:∀ j,j < 8→Nat.testBit k j=(b j && runP p j)) (hz:∀ j,j < 8→Nat.testBit k j=false→w.kk j≠3) (hc:∀ j,j < 8→(b j=true→0 < w.cd j)∧(b j=false→¬ 0 < w.cd j)) :
  CodeL w0 nSp ((kbSp.drop 12).take 3++([.block 4 (.loop b4Sp)]++((kbSp.drop 16).take 1++((kbSp.drop 17).take 1++kbSp.drop 18)))) ((sA w p 8 k (lZ [] z) n o).w3 (rwS g r)).1 ((sA w p 8 k (lZ [] z) n o).w3 (rwS g r)).2 fun x tm st=>x=.normal∧∃ z' n',n≤n'∧HJ (lZ [] z') n' (U + 10)∧tm=((sT (Int.ofNat p) w.r w.ck w.cd (lZ [] z') n').w3 (rwS g r)).1∧st=((sT (Int.ofNat p) w.r w.ck w.cd (lZ [] z') n').w3 (rwS g r)).2:=by
 have X:Fx z n c o U D:=⟨⟨H,by omega,I.cls⟩,ho⟩
 have X1:Fx (zE z n) (n + 1 + 1) c o (U + 5) D:=⟨⟨H.zE,by omega,(I.zE n).cls⟩,get_zE ho n⟩
 obtain ⟨t0,hK⟩:=T.K (rwS g r) w (lZ [] z) n o
 refine CodeL.app (spFr hH (QA.at hK hk) spPlK (plT_ok _) (vS_3 ..) sA_3 rfl) ?_ (fun x tm st hx h=>absurd h.1 hx)
 rintro tm st ⟨-,rfl,rfl⟩
 refine CodeL.app (P1:=fun x tm st=>x=.normal∧tm=((sZ (Int.ofNat p) w.r w.ck w.cd [] [] (lZ [] z) n o).w3 (rwS g r)).1∧st=((sZ (Int.ofNat p) w.r w.ck w.cd [] [] (lZ [] z) n o).w3 (rwS g r)).2) (CodeQ.row (CodeQ.block (CodeQ.mono (P1:=fun x tm st=>x=.exit 4∧tm=((sZ (Int.ofNat p) w.r w.ck w.cd [] [] (lZ [] z) n o).w3 (rwS g r)).1∧st=((sZ (Int.ofNat p) w.r w.ck w.cd [] [] (lZ [] z) n o).w3 (rwS g r)).2) ?_ ?_))) ?_ (fun x tm st hx h=>absurd h.1 hx)
 ·refine CodeQ.loop (α:=Nat) (S:=fun i=>(sK w p i k (lZ [] z) n o).w3 (rwS g r)) (Inv:=fun i=>i≤8) (μ:=fun i=>8 - i) (fun i hi=>?_) 0 (Nat.zero_le _)
  replace hi:i≤8:=hi
  refine CodeL.code ?_
  show CodeL w0 nSp k4Sp _ _ _
  by_cases hlt:i < 8
  ·refine (T.L hH i hlt hk (hb i hlt) (hz i hlt) (hc i hlt)).mono ?_
   rintro x tm st ⟨rfl,rfl,rfl⟩
   exact .inl ⟨rfl,i + 1,by show i + 1≤8;omega,by show 8 - (i + 1) < 8 - i;omega,rfl,rfl⟩
  ·obtain rfl:i=8:=by omega
   refine (spFr (tl:=[]) hH (QA.at (T.X (rwS g r) w (lZ [] z) n o) hk) spPl4 trivial (by simp) sK_3 rfl).mono ?_
   rintro x tm st ⟨rfl,rfl,rfl⟩
   exact .inr ⟨by simp,rfl,rfl,rfl⟩
 ·rintro x tm st ⟨rfl,rfl,rfl⟩
  exact ⟨rfl,rfl,rfl⟩
 rintro tm st ⟨-,rfl,rfl⟩
 have hF:CodeL w0 nSp ((kbSp.drop 16).take 1) ((sZ (Int.ofNat p) w.r w.ck w.cd [] [] (lZ [] z) n o).w3 (rwS g r)).1 ((sZ (Int.ofNat p) w.r w.ck w.cd [] [] (lZ [] z) n o).w3 (rwS g r)).2 fun x tm st=>x=.normal∧tm=((sZ (Int.ofNat p) w.r w.ck w.cd [(16,.ptr 10 0)] [(10,actV 1 1 1)] (lZ [] z) n o).w3 (rwS g r)).1∧st=((sZ (Int.ofNat p) w.r w.ck w.cd [(16,.ptr 10 0)] [(10,actV 1 1 1)] (lZ [] z) n o).w3 (rwS g r)).2:=by
  cases hbi:b 1 with
  | true =>
   obtain ⟨hw,hf⟩:=I.on 1 (by omega) hbi
   exact spFr hH (spFs X hw hf) spPlF (plT_ok _) (by simp) rfl rfl
  | false=>exact spFr hH (spFu X (I.off 1 (by omega) hbi)) spPlF (plT_ok _) (by simp) rfl rfl
 refine CodeL.app hF ?_ (fun x tm st hx h=>absurd h.1 hx)
 rintro tm st ⟨-,rfl,rfl⟩
 have hG:CodeL w0 nSp ((kbSp.drop 17).take 1) ((sZ (Int.ofNat p) w.r w.ck w.cd [(16,.ptr 10 0)] [(10,actV 1 1 1)] (lZ [] z) n o).w3 (rwS g r)).1 ((sZ (Int.ofNat p) w.r w.ck w.cd [(16,.ptr 10 0)] [(10,actV 1 1 1)] (lZ [] z) n o).w3 (rwS g r)).2 fun x tm st=>x=.normal∧tm=((sZ (Int.ofNat p) w.r w.ck w.cd [(16,.ptr 10 0),(17,.ptr 11 0)] [(10,actV 1 1 1),(11,actV 2 4 (n + 1 + 1))] (lZ [] (zE z n)) (n + 1 + 1) o).w3 (rwS g r)).1∧st=((sZ (Int.ofNat p) w.r w.ck w.cd [(16,.ptr 10 0),(17,.ptr 11 0)] [(10,actV 1 1 1),(11,actV 2 4 (n + 1 + 1))] (lZ [] (zE z n)) (n + 1 + 1) o).w3 (rwS g r)).2:=by
  cases hbi:b 2 with
  | true =>
   obtain ⟨hw,hf⟩:=I.on 2 (by omega) hbi
   exact spFr hH (spGs X hw hf) spPlG (plT_ok _) (by simp) rfl rfl
  | false=>exact spFr hH (spGu X (I.off 2 (by omega) hbi)) spPlG (plT_ok _) (by simp) rfl rfl
 refine CodeL.app hG ?_ (fun x tm st hx h=>absurd h.1 hx)
 rintro tm st ⟨-,rfl,rfl⟩
 refine (spFr hH (spH X1 I.ne2 (n + 1 + 1)) spPlH (plT_ok _) (by simp) rfl rfl).mono ?_
 rintro x tm st ⟨rfl,rfl,rfl⟩
 exact ⟨rfl,zE z n,n + 1 + 1,by omega,H.zE.up (by omega),rfl,rfl⟩
include hH in
theorem spTurn {p:Nat} (T:Tn p) {b:Nat→Bool} {r:Nat} {g:Nat→List UInt8} {cd:Nat→Int} (hN:Nm b 8 r g cd) {z:Obs} {n:Int} {U:Nat} (H:HJ (lZ [] z) n U) (hn:2≤n) (hU:U + 1000≤uMax) :
  CodeL w0 nSp (flatC (unBlock (atC k2Sp 2))) ((sT (Int.ofNat p) r (ckT r) cd (lZ [] z) n).w3 (rwS g r)).1 ((sT (Int.ofNat p) r (ckT r) cd (lZ [] z) n).w3 (rwS g r)).2 fun x tm st=>x=.normal∧∃ z' n',2≤n'∧HJ (lZ [] z') n' (U + 200)∧tm=((sT (Int.ofNat p) r (ckT r) cd (lZ [] z') n').w3 (rwS g r)).1∧st=((sT (Int.ofNat p) r (ckT r) cd (lZ [] z') n').w3 (rwS g r)).2:=by
 have h8:=hN.le
 have hc:∀ j,j < 8→(b j=true→0 < cd j)∧(b j=false→¬ 0 < cd j):=fun j hj=>⟨fun hb=>by
  obtain ⟨q,-,h2,-⟩:=hN.on j hj hb
  rw [h2];simp only [Int.ofNat_eq_natCast];omega,fun hb=>by rw [hN.off j (.inl hb)];omega⟩
 rw [kbSp_eq]
 refine CodeL.app (QTX.code hH (extC_ok (callable_of (by kernel_rfl)) extS_ok) ((spC (Int.ofNat p) g cd (lZ [] z) (lD (lZ [] z) n (Int.ofNat p) g r) n (cD n r) (cD n r)).at (List.mem_range.2 (show r < 9 by omega))) spPlC (And.intro (clCall h8 hN.inj H (by omega) T.R) trivial) spHid) ?_ (fun x tm st hx h=>absurd h.1 hx)
 rintro tm st ⟨-,rfl,rfl⟩
 have I:=InC.of hN H hn (Int.ofNat p)
 have H1:=HJ.lD h8 hN.inj H (Int.ofNat p)
 obtain ⟨z1,e1⟩:=lD_Z z n (Int.ofNat p) g r
 rw [e1] at I H1 ⊢
 have hcd:2≤cD n r:=by unfold cD;rw [mC_eq];omega
 generalize (fun i=>mC n ((cd i).toNat - 1) + 1)=fn at I
 generalize Dr n g r=D at I
 generalize cD n r=c at I H1 hcd ⊢
 let w:Lt:=⟨r,ckT r,cd,fun _=>0,fun _=>0,fun _=>0,fun _=>[]⟩
 refine CodeL.app (spFr hH (spO p (rwS g r) w ⟨H1,by omega,I.cls⟩ I.ne2 I.ini) spPlO (plT_ok _) (by simp) rfl rfl) ?_ (fun x tm st hx h=>absurd h.1 hx)
 rintro tm st ⟨-,rfl,rfl⟩
 have H2:HJ (lZ [] z1++[(c + 1,oIn c)]) (c + 1) (U + 70):=H1.add _ (by simp only [List.length_cons,List.length_nil];omega)
 have ho:get (lZ [] z1++[(c + 1,oIn c)]) (c + 1)=some (oIn c):=get_last H1 _
 have I2:=I.app [(c + 1,oIn c)]
 rw [lZ_app] at H2 ho I2 ⊢
 generalize z1++[(c + 1,oIn c)]=z2 at H2 ho I2 ⊢
 have hA:AInv b p 0 r g cd fn c (c + 1) D (U + 70) .normal ((sA w p 0 0 (lZ [] z2) (c + 1) (c + 1)).w3 (rwS g r)).1 ((sA w p 0 0 (lZ [] z2) (c + 1) (c + 1)).w3 (rwS g r)).2 :=
  ⟨rfl,w,0,z2,c + 1,⟨rfl,rfl,rfl⟩,H2,I2,ho,by simp [mks],nofun,nofun,rfl,rfl⟩
 have hS:=fun i hi=>T.S (b:=b) (r:=r) (g:=g) (fn:=fn) (c:=c) (o:=c + 1) (D:=D) hH (show U + 70 + 200≤uMax by omega) (cd:=cd) i hi
 refine CodeL.app (hS 0 (by omega) _ _ hA) (fun tm st h=>?_) (fun x tm st hx h=>absurd h.1 hx)
 refine CodeL.app (hS 1 (by omega) _ _ h) (fun tm st h=>?_) (fun x tm st hx h=>absurd h.1 hx)
 refine CodeL.app (hS 2 (by omega) _ _ h) (fun tm st h=>?_) (fun x tm st hx h=>absurd h.1 hx)
 refine CodeL.app (hS 3 (by omega) _ _ h) (fun tm st h=>?_) (fun x tm st hx h=>absurd h.1 hx)
 refine CodeL.app (hS 4 (by omega) _ _ h) (fun tm st h=>?_) (fun x tm st hx h=>absurd h.1 hx)
 refine CodeL.app (hS 5 (by omega) _ _ h) (fun tm st h=>?_) (fun x tm st hx h=>absurd h.1 hx)
 refine CodeL.app (hS 6 (by omega) _ _ h) (fun tm st h=>?_) (fun x tm st hx h=>absurd h.1 hx)
 refine CodeL.app (hS 7 (by omega) _ _ h) (fun tm st h=>?_) (fun x tm st hx h=>absurd h.1 hx)
 clear_value w
 obtain ⟨-,w',k,z3,n3,⟨v1,v2,v3⟩,H3,I3,ho3,hk,hb,hz,rfl,rfl⟩:=h
 rw [← v3] at I3 hc
 have hge:c + 1≤n3:=get_id H3.ids ho3
 refine (spTail hH T (by omega) H3 I3 ho3 hk hb hz hc).mono ?_
 rintro x tm st ⟨rfl,z',n',q1,q2,rfl,rfl⟩
 rw [v1,v2,v3]
 exact ⟨rfl,z',n',by omega,q2.up (by omega),rfl,rfl⟩
include hH in
theorem spAll (x:Int):CodeQ w0 nSp cSp (initT [.int .i64 x] 0 .e) (st0 []) fun x tm st=>(x=.normal∨x=.ret)∧resS Tryz.prog st.m tm rsSp=some (.bool true):=by
 refine CodeL.code ?_
 rw [kSp_eq]
 refine CodeL.app (PT.code (s:=(initT [.int .i64 x] 0 .e,st0 [])) hH (spP x) spPlP trivial spHid) ?_ (fun x tm st hx h=>absurd h.1 hx)
 rintro tm st ⟨-,rfl,rfl⟩
 refine CodeL.app (P1:=fun y tm st=>y=.normal∧∃ r g cd,Nm (bS x) 8 r g cd∧tm=((s1 x 8 r cd).w3 (rwS g r)).1∧st=((s1 x 8 r cd).w3 (rwS g r)).2) (CodeQ.row (CodeQ.block ((spNames hH x).mono ?_))) ?_ (fun x tm st hx h=>absurd h.1 hx)
 ·rintro y tm st ⟨rfl,r,g,cd,hN,rfl,rfl⟩
  exact ⟨rfl,r,g,cd,hN,rfl,rfl⟩
 rintro tm st ⟨-,r,g,cd,hN,rfl,rfl⟩
 have h8:=hN.le
 refine CodeL.app (QT.code (tl:=[]) hH ((spI x cd g).at (List.mem_range.2 (show r < 9 by omega))) spPlI trivial spHid) ?_ (fun x tm st hx h=>absurd h.1 hx)
 rintro tm st ⟨-,rfl,rfl⟩
 refine CodeL.app (P1:=fun y tm st=>y=.normal∧∃ z n,tm=((sT 3 r (ckT r) cd (lZ [] z) n).w3 (rwS g r)).1∧st=((sT 3 r (ckT r) cd (lZ [] z) n).w3 (rwS g r)).2) (CodeQ.row (CodeQ.block (CodeQ.mono (P1:=fun y tm st=>y=.exit 2∧∃ z n,tm=((sT 3 r (ckT r) cd (lZ [] z) n).w3 (rwS g r)).1∧st=((sT 3 r (ckT r) cd (lZ [] z) n).w3 (rwS g r)).2) ?_ ?_))) ?_ (fun x tm st hx h=>absurd h.1 hx)
 ·refine CodeQ.loop (α:=Nat × Obs × Int) (S:=fun q=>(sT (Int.ofNat q.1) r (ckT r) cd (lZ [] q.2.1) q.2.2).w3 (rwS g r)) (Inv:=fun q=>(q.1=1∨q.1=2∨q.1=3)∧2≤q.2.2∧HJ (lZ [] q.2.1) q.2.2 (200 * q.1)) (μ:=fun q=>3 - q.1) (fun q hq=>?_) (1,[],20) ⟨.inl rfl,by show (2:Int)≤20;omega,HJ.zero.up (by show 100≤200 * 1;omega)⟩
  obtain ⟨p,z,n⟩:=q
  obtain ⟨hp,hn,H⟩:=hq
  replace hn:2≤n:=hn
  replace H:HJ (lZ [] z) n (200 * p):=H
  replace hp:p=1∨p=2∨p=3:=hp
  refine CodeL.code ?_
  rw [k2Sp_eq]
  have key:∀ {p:Nat} (T:Tn p) (q:p + 1=2∨p + 1=3) (hT:QT (foW fo0 3 (rwS g r)) fSp nSp v4 k6 40 (k2Sp.take 2) (sT (Int.ofNat p) r (ckT r) cd (lZ [] z) n) (sT (Int.ofNat p) r (ckT r) cd (lZ [] z) n) .normal []) (hN':∀ l m,QT (foW fo0 3 (rwS g r)) fSp nSp v4 k6 40 (k2Sp.drop 3) (sT (Int.ofNat p) r (ckT r) cd l m) (sT (Int.ofNat (p + 1)) r (ckT r) cd l m) .normal [])
    (H:HJ (lZ [] z) n (200 * p)),CodeL w0 nSp (k2Sp.take 2++([.block 3 (unBlock (atC k2Sp 2))]++k2Sp.drop 3)) ((sT (Int.ofNat p) r (ckT r) cd (lZ [] z) n).w3 (rwS g r)).1 ((sT (Int.ofNat p) r (ckT r) cd (lZ [] z) n).w3 (rwS g r)).2 fun x tm st=>x=.normal∧∃ z' n',2≤n'∧HJ (lZ [] z') n' (200 * (p + 1))∧tm=((sT (Int.ofNat (p + 1)) r (ckT r) cd (lZ [] z') n').w3 (rwS g r)).1∧st=((sT (Int.ofNat (p + 1)) r (ckT r) cd (lZ [] z') n').w3 (rwS g r)).2:=by
   intro p T q hT hN' H
   refine CodeL.app (spFr hH hT spPlT trivial (by simp) rfl rfl) ?_ (fun x tm st hx h=>absurd h.1 hx)
   rintro tm st ⟨-,rfl,rfl⟩
   refine CodeL.app (P1:=fun y tm st=>y=.normal∧∃ z' n',2≤n'∧HJ (lZ [] z') n' (200 * (p + 1))∧tm=((sT (Int.ofNat p) r (ckT r) cd (lZ [] z') n').w3 (rwS g r)).1∧st=((sT (Int.ofNat p) r (ckT r) cd (lZ [] z') n').w3 (rwS g r)).2) (CodeQ.row (CodeQ.block (CodeL.code ((spTurn hH T hN H hn (by simp only [uMax];omega)).mono ?_)))) ?_ (fun x tm st hx h=>absurd h.1 hx)
   ·rintro y tm st ⟨rfl,z',n',q1,q2,rfl,rfl⟩
    exact ⟨rfl,z',n',q1,q2.up (by omega),rfl,rfl⟩
   rintro tm st ⟨-,z',n',q1,q2,rfl,rfl⟩
   refine (spFr hH (hN' (lZ [] z') n') spPlN trivial (by simp) rfl rfl).mono ?_
   rintro y tm st ⟨rfl,rfl,rfl⟩
   exact ⟨rfl,z',n',q1,q2,rfl,rfl⟩
  rcases hp with rfl | rfl | rfl
  ·refine (key tn1 (.inl rfl) (spT1 ..) (fun l m=>spN1 ..) H).mono ?_
   rintro y tm st ⟨rfl,z',n',q1,q2,rfl,rfl⟩
   exact .inl ⟨rfl,(2,z',n'),⟨.inr (.inl rfl),q1,q2⟩,by show 3 - 2 < 3 - 1;omega,rfl,rfl⟩
  ·refine (key tn2 (.inr rfl) (spT2 ..) (fun l m=>spN2 ..) H).mono ?_
   rintro y tm st ⟨rfl,z',n',q1,q2,rfl,rfl⟩
   exact .inl ⟨rfl,(3,z',n'),⟨.inr (.inr rfl),q1,q2⟩,by show 3 - 3 < 3 - 2;omega,rfl,rfl⟩
  ·refine CodeL.app (spFr (tl:=[]) hH (spT3 (rwS g r) r (ckT r) cd (lZ [] z) n) spPlT trivial (by simp) rfl rfl) (fun tm st h=>by cases h.1) ?_
   rintro y tm st hx ⟨rfl,rfl,rfl⟩
   exact .inr ⟨hx,rfl,z,n,rfl,rfl⟩
 ·rintro y tm st ⟨rfl,h⟩
  exact ⟨rfl,h⟩
 rintro tm st ⟨-,z,n,rfl,rfl⟩
 exact QE.frame (tl:=[]) hH _ (spE (rwS g r) r (ckT r) cd (lZ [] z) n) spPlE trivial (Nat.lt_of_lt_of_le (by decide:3 < 4) (zB (by kernel_rfl))) rfl (Nat.zero_le _) (t0:=6) rfl
end
theorem special_any (x:Int):LawT fSp [.int .i64 x] :=
 lawQ (c:=cSp) (vs:=[.int .i64 x]) Tryz.func4 (by kernel_rfl) (zB (by kernel_rfl)) (zB (by kernel_rfl)) (.cons (.int _ _) .nil) fun w0 hg =>
  spAll (Hd.of _) x
end
end Go.Proofs.YtlbcbikplfocfaaGreatDoor.W.E
