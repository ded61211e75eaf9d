/- LMatches -/
import Derived.Test.YtildnolfgdcndaaGreatDoorLMaP
import Derived.Test.YtildnolfgdcndaaGreatDoorLMaF
set_option linter.unusedVariables false
set_option linter.unusedSimpArgs false
namespace Go.Proofs.YtildnolfgdcndaaGreatDoor.W.E
section
set_option maxRecDepth 100000
open Go.RowKit
theorem maPlP:((kMa.take 6).all fun c=>planOkC (plan fMa) c)=true:=by kernel_rfl
theorem maPlS:(([atC kMa 6]).all fun c=>planOkC (plan fMa) c)=true:=by kernel_rfl
theorem maPlT:(([atC kMa 7]).all fun c=>planOkC (plan fMa) c)=true:=by kernel_rfl
theorem maPlC:(((kMa.drop 8).take 2).all fun c=>planOkC (plan fMa) c)=true:=by kernel_rfl
theorem maPlW:(((kMa.drop 10).take 2).all fun c=>planOkC (plan fMa) c)=true:=by kernel_rfl
theorem maPlA:(((kMa.drop 12).take 4).all fun c=>planOkC (plan fMa) c)=true:=by kernel_rfl
theorem maPlL:(k1Ma.all fun c=>planOkC (plan fMa) c)=true:=by kernel_rfl
theorem maPlF:((kMa.drop 17).all fun c=>planOkC (plan fMa) c)=true:=by kernel_rfl
theorem ma_i64 {x y:Int} (h:x=y):some (SV.int .i64 x)=some (SV.int .i64 y):=by rw [h]
theorem nmC_eq:∀ e,e < 17→∀ j,j < 17→eqB (nmC e) (nmC j)=decide (e=j):=by decide +kernel
theorem nmC_len:∀ e,e < 17→(nmC e).length≤20:=by decide +kernel
theorem bsC_le:∀ e,e < 17→bsC e≤17:=by decide +kernel
def dpC (e:Nat):Nat:=[1,2,3,3,2,3,3,2,2,2,3,2,2,2,3,2,2].getD e 0
theorem dpC_lt:∀ e,e < 17→dpC (bsC e) < dpC e:=by decide +kernel
theorem comesC_step:∀ e,e < 17→∀ j,j < 17→comesC 9 e j=(decide (e=j) || comesC 9 (bsC e) j):=by decide +kernel
theorem comesC_17:∀ j,j < 17→comesC 9 17 j=false:=by decide +kernel
theorem comesC_0:∀ e,e < 17→comesC 9 e 0=true:=by decide +kernel
theorem comesC_15:∀ e,e < 17→comesC 9 e 15=decide (e=15):=by decide +kernel
def bootO:Ob:=match get bA 19 with
 | some o=>o
 | none=>⟨0,[],0,[],[]⟩
theorem boot_get (z:Obs):get (lZ [] z) 19=some bootO:=by kernel_rfl
theorem boot_of:((List.range 17).all fun j=>match W.get bootO.d (vstr (nmC j)) with | some x=>decide (x=vr (clC j)) | none=>false)=true:=by kernel_rfl
theorem bootOf {j:Nat} (hj:j < 17):W.get bootO.d (vstr (nmC j))=some (vr (clC j)):=by
 have h:=List.all_eq_true.1 boot_of j (List.mem_range.2 hj)
 cases hg:W.get bootO.d (vstr (nmC j)) with
 | none=>rw [hg] at h;cases h
 | some x=>rw [hg] at h;rw [of_decide_eq_true h]
theorem cls_of (z:Obs):((List.range 17).all fun i=>match get (lZ [] z) (clC i) with | some o=>decide (o.kind=5) && decide (o.name=nmC i) | none=>false)=true:=by kernel_rfl
theorem clsOf (z:Obs) {i:Nat} (hi:i < 17):∃ o,get (lZ [] z) (clC i)=some o∧o.kind=5∧o.name=nmC i:=by
 have h:=List.all_eq_true.1 (cls_of z) i (List.mem_range.2 hi)
 cases hg:get (lZ [] z) (clC i) with
 | none=>rw [hg] at h;cases h
 | some o =>
  rw [hg] at h
  simp only [Bool.and_eq_true,decide_eq_true_eq] at h
  exact ⟨o,rfl,h⟩
theorem zSub {b:Nat} {h:Hp} {x y:V} (e:h.subO x y=true):tRes xSub b h [x.sv,y.sv] (.bool true) h:=fun m nx=>by
 simp only [xSub,heapAt_b,toV_sv,e];rfl
theorem maAdd {s t:List UInt8} (h:s.length + t.length≤100):binS .add s t=some (.str (s++t)):=by
 have:Nat.ble (s.length + t.length) 4294967296=true:=Nat.ble_eq_true_of_le (by omega)
 show (bif Nat.ble (s.length + t.length) 4294967296 then some (SV.str (s++t)) else none)=_
 rw [this];rfl
theorem maEq (s:List UInt8):binS .eql s s=some (.bool true):=by
 show some (SV.bool (eqB s s))=_
 have:eqB s s=true:=by rw [eqB_ok];simp
 rw [this]
structure MaH (l:Obs) (q m:Int) (i:Nat):Prop where
 pre:∃ z,l=lZ [] z
 inst:∃ o,get l m=some o∧o.kind=6∧o.items=[vr (clC i)]
 hj:HJ l q 200
section
variable {l:Obs} {q m:Int} {i j:Nat}
theorem maFacts (H:MaH l q m i) (hi:i < 17) (hj:j < 17) :
  tRes xGet 1 (hZ l q) [(vr 19).sv,(vstr (nmC j)).sv] (vt (vr (clC j)) true) (hZ l q) ∧
  tRes xMatches 1 (hZ l q) [(vr 19).sv,(vr m).sv,(vr (clC j)).sv] (.tup [.bool (comesC 9 i j),excSV Exc.nil]) (hZ l q) ∧
  mkP (hZ l q) 2 [] 0 [vr (clC j),vr 17] (vr (q + 1)).sv (hZ (ltM2 l q (clC j)) (q + 1)) ∧
  tRes xMatches 1 (hZ (ltM2 l q (clC j)) (q + 1)) [(vr 19).sv,(vr m).sv,(vr (q + 1)).sv] (.tup [.bool (comesC 9 i j || decide (i=15)),excSV Exc.nil]) (hZ (ltM2 l q (clC j)) (q + 1)) ∧
  tRes xKind 1 (hZ (ltM2 l q (clC j)) (q + 1)) [(vr (clC i)).sv] (.int .i64 5) (hZ (ltM2 l q (clC j)) (q + 1)) ∧
  tRes xName 1 (hZ (ltM2 l q (clC j)) (q + 1)) [(vr (clC i)).sv] (.str (nmC i)) (hZ (ltM2 l q (clC j)) (q + 1)) ∧
  tRes xSub 1 (hZ (ltM2 l q (clC j)) (q + 1)) [(vr (clC i)).sv,(vr 2).sv] (.bool true) (hZ (ltM2 l q (clC j)) (q + 1)):=by
 obtain ⟨⟨z,rfl⟩,⟨o,ho,hk,hit⟩,H⟩:=H
 have ht:=get_last H ⟨2,[],0,[vr (clC j),vr 17],[]⟩
 have hm:get (lZ [] z++[(q + 1,(⟨2,[],0,[vr (clC j),vr 17],[]⟩:Ob))]) m=some o:=get_app_l ho
 have el:ltM2 (lZ [] z) q (clC j)=lZ [] (z++[(q + 1,⟨2,[],0,[vr (clC j),vr 17],[]⟩)]):=lZ_app _ _ _
 have mk:=tMk H (by simp [uMax]) (k:=2) (nm:=[]) (m:=0) (xs:=[vr (clC j),vr 17]) ⟨by decide,by decide⟩ (by simp [uMax])
 rw [lZ_app] at ht hm
 have c:=clsOf (z++[(q + 1,⟨2,[],0,[vr (clC j),vr 17],[]⟩)]) hi
 obtain ⟨oc,hc,c5,cn⟩:=c
 have m2:=match2 (n:=q + 1) hi hm hk hit hj ht rfl (show [vr (clC j),vr 17]=[vr (clC j),vr (clC 15)] from rfl)
 rw [comesC_15 i hi] at m2
 refine ⟨zGet (boot_get z) (bootOf hj),zMat (match1 hi ho hk hit hj),mk,?_⟩
 rw [el]
 refine ⟨zMat m2,zKind hc c5,zName hc cn,zSub ?_⟩
 have:=subC (z:=z++[(q + 1,⟨2,[],0,[vr (clC j),vr 17],[]⟩)]) (n:=q + 1) hi (show 0 < 17 by decide)
 rw [comesC_0 i hi] at this
 exact this
theorem maH0 (i:Nat):MaH (l1M (nmC i) (clC i)) 22 22 i :=
 ⟨⟨_,(show l1M (nmC i) (clC i)=lZ [] _ from by show (lZ [] []++_)++_=_;rw [lZ_app,lZ_app])⟩,⟨_,gE2 HJ.zero (by simp),rfl,rfl⟩,(HJ.zero.e2 (by simp) (by simp)).up (by omega)⟩
theorem maH1 (i:Nat) (arg:List V) (ha:arg.length≤1):MaH (l2M arg (nmC i) (clC i)) 24 23 i:=by
 have H:=(HJ.zero.e2 (arg:=[vnum 7]) (nm:=nmC i) (c:=clC i) (d:=[(vstr sArgs,vr (20 + 1))]) (by simp) (by simp))
 have H1:HJ (g1 (l1M (nmC i) (clC i)) 22 (nmC i) (clC i) [(vstr sArgs,vr (22 + 1 + 1))]) 23 (100 + 5 + 3):=H.add _ (by simp only [o2,List.length_cons,List.length_nil];omega)
 have e:∃ z,l2M arg (nmC i) (clC i)=lZ [] z:=by
  show ∃ z,((((lZ [] []++_)++_)++_)++_)=lZ [] z
  rw [lZ_app,lZ_app,lZ_app,lZ_app]
  exact ⟨_,rfl⟩
 exact ⟨e,⟨_,get_app_l (get_last H _),rfl,rfl⟩,H1.add (v:=200) (o1 arg) (by simp only [o1,List.length_nil];omega)⟩
end
section
variable {w0:B0}
theorem maLoop (hH:Hd w0 fo0 0) {how m q:Int} {S:List UInt8} {l:Obs} {i j:Nat} (hi:i < 17) (hj:j < 17) :
  CodeQ w0 nMa (.loop bMa) (sMe how S (nmC j) m l q (nmC i) false).1 (sMe how S (nmC j) m l q (nmC i) false).2 fun x tm st=>x=.exit 1∧∃ X,tm=(sMe how S (nmC j) m l q X (comesC 9 i j)).1∧st=(sMe how S (nmC j) m l q X (comesC 9 i j)).2:=by
 refine CodeQ.loop (α:=Nat × Bool) (S:=fun p=>sMe how S (nmC j) m l q (nmC p.1) p.2) (Inv:=fun p=>p.1≤17∧(p.2 || comesC 9 p.1 j)=comesC 9 i j) (μ:=fun p=>bif p.2 then 0 else dpC p.1 + 1) (fun p hp=>?_) (i,false) ⟨Nat.le_of_lt hi,rfl⟩
 obtain ⟨e,b⟩:=p
 obtain ⟨he,hb⟩:=hp
 replace he:e≤17:=he
 replace hb:(b || comesC 9 e j)=comesC 9 i j:=hb
 refine CodeL.code ?_
 cases b with
 | true =>
  refine (QTX.code (tl:=[]) hH extMt_ok ((maX how S (nmC j) m l q).at (List.mem_range.2 (Nat.lt_succ_of_le he))) maPlL trivial hid0).mono ?_
  rintro x tm st ⟨rfl,rfl,rfl⟩
  rw [← hb]
  exact .inr ⟨by simp,rfl,_,rfl,rfl⟩
 | false =>
  by_cases h17:e=17
  ·subst h17
   refine (QTX.code (tl:=[]) hH extMt_ok (maY how S (nmC j) m l q) maPlL trivial hid0).mono ?_
   rintro x tm st ⟨rfl,rfl,rfl⟩
   rw [← hb,comesC_17 j hj]
   exact .inr ⟨by simp,rfl,_,rfl,rfl⟩
  ·have h:e < 17:=by omega
   refine (QTX.code hH extMt_ok ((maL how S (nmC j) m l q (decide (e=j))).at (List.mem_range.2 h)) maPlL (And.intro ?_ trivial) hid0).mono ?_
   ·show some (SV.bool (eqB (nmC e) (nmC j)))=_
    rw [nmC_eq e h j hj]
   ·rintro x tm st ⟨rfl,rfl,rfl⟩
    have hs:=comesC_step e h j hj
    refine .inl ⟨rfl,(bsC e,decide (e=j)),⟨bsC_le e h,?_⟩,?_,rfl,rfl⟩
    ·show (decide (e=j) || comesC 9 (bsC e) j)=_
     rw [← hb,Bool.false_or,hs]
    ·show (bif decide (e=j) then 0 else dpC (bsC e) + 1) < dpC e + 1
     have:=dpC_lt e h
     cases decide (e=j)<;>simp<;>omega
theorem maEnd0 (hH:Hd w0 fo0 0) {how:Int} {i j c:Nat} (hi:i < 17) (hj:j < 17) (hc:c∈[0,3]) (ha:andI how 3=Int.ofNat c) (X:List UInt8) :
  CodeL w0 nMa (kMa.drop 17) (sMe how (nmC i) (nmC j) 22 (l1M (nmC i) (clC i)) 22 X (comesC 9 i j)).1 (sMe how (nmC i) (nmC j) 22 (l1M (nmC i) (clC i)) 22 X (comesC 9 i j)).2 fun x tm st=>(x=.normal∨x=.ret)∧resS Tryz.prog st.m tm rsMa=some (.bool true):=by
 obtain ⟨f1,f2,f3,f4,f5,f6,f7⟩:=maFacts (maH0 i) hi hj
 have ln:=nmC_len i hi
 have s1:binS .add (nmC i) c7=some (.str (nmC i++c7)):=maAdd (by simp only [c7,List.length_cons,List.length_nil];omega)
 have s2:binS .add (nmC i) [58,32]=some (.str (nmC i++[58,32])):=maAdd (by simp only [List.length_cons,List.length_nil];omega)
 have s3:binS .add (nmC i++[58,32]) [55]=some (.str (nmC i++c7)):=by
  rw [maAdd (by simp only [List.length_append,List.length_cons,List.length_nil];omega),List.append_assoc];rfl
 have s4:=maEq (nmC i++c7)
 have s5:binS .eql (nmC i) sAssert=some (.bool (decide (i=15))):=by
  show some (SV.bool (eqB (nmC i) (nmC 15)))=_
  rw [nmC_eq i hi 15 (by decide)]
 have ha:=ma_i64 ha
 cases h1:comesC 9 i j with
 | true =>
  rw [h1] at f2 f4
  rw [Bool.true_or] at f4
  refine QEX.code (tl:=tMaF0tt how (nmC i) (nmC j) (clC i) (clC j) c) hH extMt_ok (List.map_inj_left.1 (maF0tt how (nmC i) (nmC j) X (clC i) (clC j)) c hc) maPlF ?_
  unfold tMaF0tt
  exact And.intro f1 (And.intro f2 (And.intro f1 (And.intro f2 (And.intro f3 (And.intro f4 (And.intro ha (And.intro s1 (And.intro f5 (And.intro f7 (And.intro f5 (And.intro f6 (And.intro s2 (And.intro s3 (And.intro s4 trivial))))))))))))))
 | false =>
  rw [h1] at f2 f4
  rw [Bool.false_or] at f4
  cases h2:decide (i=15) with
  | true =>
   rw [h2] at f4 s5
   refine QEX.code (tl:=tMaF0ft how (nmC i) (nmC j) (clC i) (clC j) c) hH extMt_ok (List.map_inj_left.1 (maF0ft how (nmC i) (nmC j) X (clC i) (clC j)) c hc) maPlF ?_
   unfold tMaF0ft
   exact And.intro f1 (And.intro f2 (And.intro f1 (And.intro f2 (And.intro f3 (And.intro f4 (And.intro ha (And.intro s1 (And.intro s5 (And.intro f5 (And.intro f7 (And.intro f5 (And.intro f6 (And.intro s2 (And.intro s3 (And.intro s4 trivial)))))))))))))))
  | false =>
   rw [h2] at f4 s5
   refine QEX.code (tl:=tMaF0ff how (nmC i) (nmC j) (clC i) (clC j) c) hH extMt_ok (List.map_inj_left.1 (maF0ff how (nmC i) (nmC j) X (clC i) (clC j)) c hc) maPlF ?_
   unfold tMaF0ff
   exact And.intro f1 (And.intro f2 (And.intro f1 (And.intro f2 (And.intro f3 (And.intro f4 (And.intro ha (And.intro s1 (And.intro s5 (And.intro f5 (And.intro f7 (And.intro f5 (And.intro f6 (And.intro s2 (And.intro s3 (And.intro s4 trivial)))))))))))))))
theorem maEnd1 (hH:Hd w0 fo0 0) {how:Int} {i j:Nat} (hi:i < 17) (hj:j < 17) (ha:andI how 3=1) (X:List UInt8) :
  CodeL w0 nMa (kMa.drop 17) (sMe how (nmC i) (nmC j) 23 (l2M [] (nmC i) (clC i)) 24 X (comesC 9 i j)).1 (sMe how (nmC i) (nmC j) 23 (l2M [] (nmC i) (clC i)) 24 X (comesC 9 i j)).2 fun x tm st=>(x=.normal∨x=.ret)∧resS Tryz.prog st.m tm rsMa=some (.bool true):=by
 obtain ⟨f1,f2,f3,f4,f5,f6,f7⟩:=maFacts (maH1 i [] (by simp)) hi hj
 have s4:=maEq (nmC i)
 have s5:binS .eql (nmC i) sAssert=some (.bool (decide (i=15))):=by
  show some (SV.bool (eqB (nmC i) (nmC 15)))=_
  rw [nmC_eq i hi 15 (by decide)]
 have ha:=ma_i64 ha
 cases h1:comesC 9 i j with
 | true =>
  rw [h1] at f2 f4
  rw [Bool.true_or] at f4
  refine QEX.code hH extMt_ok (maF1tt how (nmC i) (nmC j) X (clC i) (clC j)) maPlF ?_
  unfold tMaF1tt
  exact And.intro f1 (And.intro f2 (And.intro f1 (And.intro f2 (And.intro f3 (And.intro f4 (And.intro ha (And.intro f5 (And.intro f7 (And.intro f5 (And.intro f6 (And.intro s4 trivial)))))))))))
 | false =>
  rw [h1] at f2 f4
  rw [Bool.false_or] at f4
  cases h2:decide (i=15) with
  | true =>
   rw [h2] at f4 s5
   refine QEX.code hH extMt_ok (maF1ft how (nmC i) (nmC j) X (clC i) (clC j)) maPlF ?_
   unfold tMaF1ft
   exact And.intro f1 (And.intro f2 (And.intro f1 (And.intro f2 (And.intro f3 (And.intro f4 (And.intro ha (And.intro s5 (And.intro f5 (And.intro f7 (And.intro f5 (And.intro f6 (And.intro s4 trivial))))))))))))
  | false =>
   rw [h2] at f4 s5
   refine QEX.code hH extMt_ok (maF1ff how (nmC i) (nmC j) X (clC i) (clC j)) maPlF ?_
   unfold tMaF1ff
   exact And.intro f1 (And.intro f2 (And.intro f1 (And.intro f2 (And.intro f3 (And.intro f4 (And.intro ha (And.intro s5 (And.intro f5 (And.intro f7 (And.intro f5 (And.intro f6 (And.intro s4 trivial))))))))))))
theorem maEnd2 (hH:Hd w0 fo0 0) {how:Int} {i j:Nat} (hi:i < 17) (hj:j < 17) (ha:andI how 3=2) (X:List UInt8) :
  CodeL w0 nMa (kMa.drop 17) (sMe how (nmC i) (nmC j) 23 (l2M [vnum 7] (nmC i) (clC i)) 24 X (comesC 9 i j)).1 (sMe how (nmC i) (nmC j) 23 (l2M [vnum 7] (nmC i) (clC i)) 24 X (comesC 9 i j)).2 fun x tm st=>(x=.normal∨x=.ret)∧resS Tryz.prog st.m tm rsMa=some (.bool true):=by
 obtain ⟨f1,f2,f3,f4,f5,f6,f7⟩:=maFacts (maH1 i [vnum 7] (by simp)) hi hj
 have ln:=nmC_len i hi
 have s1:binS .add (nmC i) c7=some (.str (nmC i++c7)):=maAdd (by simp only [c7,List.length_cons,List.length_nil];omega)
 have s2:binS .add (nmC i) [58,32]=some (.str (nmC i++[58,32])):=maAdd (by simp only [List.length_cons,List.length_nil];omega)
 have s3:binS .add (nmC i++[58,32]) [55]=some (.str (nmC i++c7)):=by
  rw [maAdd (by simp only [List.length_append,List.length_cons,List.length_nil];omega),List.append_assoc];rfl
 have s4:=maEq (nmC i++c7)
 have s5:binS .eql (nmC i) sAssert=some (.bool (decide (i=15))):=by
  show some (SV.bool (eqB (nmC i) (nmC 15)))=_
  rw [nmC_eq i hi 15 (by decide)]
 have ha:=ma_i64 ha
 cases h1:comesC 9 i j with
 | true =>
  rw [h1] at f2 f4
  rw [Bool.true_or] at f4
  refine QEX.code hH extMt_ok (maF2tt how (nmC i) (nmC j) X (clC i) (clC j)) maPlF ?_
  unfold tMaF2tt
  exact And.intro f1 (And.intro f2 (And.intro f1 (And.intro f2 (And.intro f3 (And.intro f4 (And.intro ha (And.intro s1 (And.intro f5 (And.intro f7 (And.intro f5 (And.intro f6 (And.intro s2 (And.intro s3 (And.intro s4 trivial))))))))))))))
 | false =>
  rw [h1] at f2 f4
  rw [Bool.false_or] at f4
  cases h2:decide (i=15) with
  | true =>
   rw [h2] at f4 s5
   refine QEX.code hH extMt_ok (maF2ft how (nmC i) (nmC j) X (clC i) (clC j)) maPlF ?_
   unfold tMaF2ft
   exact And.intro f1 (And.intro f2 (And.intro f1 (And.intro f2 (And.intro f3 (And.intro f4 (And.intro ha (And.intro s1 (And.intro s5 (And.intro f5 (And.intro f7 (And.intro f5 (And.intro f6 (And.intro s2 (And.intro s3 (And.intro s4 trivial)))))))))))))))
  | false =>
   rw [h2] at f4 s5
   refine QEX.code hH extMt_ok (maF2ff how (nmC i) (nmC j) X (clC i) (clC j)) maPlF ?_
   unfold tMaF2ff
   exact And.intro f1 (And.intro f2 (And.intro f1 (And.intro f2 (And.intro f3 (And.intro f4 (And.intro ha (And.intro s1 (And.intro s5 (And.intro f5 (And.intro f7 (And.intro f5 (And.intro f6 (And.intro s2 (And.intro s3 (And.intro s4 trivial)))))))))))))))
theorem maTail (hH:Hd w0 fo0 0) {how m q:Int} {l:Obs} {i j:Nat} (hi:i < 17) (hj:j < 17)
  (h:∀ X,CodeL w0 nMa (kMa.drop 17) (sMe how (nmC i) (nmC j) m l q X (comesC 9 i j)).1 (sMe how (nmC i) (nmC j) m l q X (comesC 9 i j)).2 fun x tm st=>(x=.normal∨x=.ret)∧resS Tryz.prog st.m tm rsMa=some (.bool true)) :
  CodeL w0 nMa ((kMa.drop 12).take 4++([.block 1 (.loop bMa)]++kMa.drop 17)) (sMd how (nmC i) (nmC j) m l q).1 (sMd how (nmC i) (nmC j) m l q).2 fun x tm st=>(x=.normal∨x=.ret)∧resS Tryz.prog st.m tm rsMa=some (.bool true):=by
 refine CodeL.app (QTX.code (tl:=[]) hH extMt_ok (maA how (nmC i) (nmC j) m l q) maPlA trivial hid0) ?_ (fun x tm st hx h=>absurd h.1 hx)
 rintro tm st ⟨-,rfl,rfl⟩
 refine CodeL.app (P1:=fun x tm st=>x=.normal∧∃ X,tm=(sMe how (nmC i) (nmC j) m l q X (comesC 9 i j)).1∧st=(sMe how (nmC i) (nmC j) m l q X (comesC 9 i j)).2) (CodeQ.row (CodeQ.block ((maLoop hH hi hj).mono ?_))) ?_ (fun x tm st hx h=>absurd h.1 hx)
 ·rintro x tm st ⟨rfl,X,rfl,rfl⟩
  exact ⟨rfl,X,rfl,rfl⟩
 ·rintro tm st ⟨-,X,rfl,rfl⟩
  exact h X
theorem maIdx (x:Int):∃ y i:Nat,i < 17∧(tMi x y i).ok:=by
 have h:andI x 65535=Int.ofNat (x % 65536).toNat:=by rw [andI_ffff];simp only [Int.ofNat_eq_natCast];omega
 refine ⟨(x % 65536).toNat,(x % 65536).toNat % 17,by omega,?_⟩
 unfold tMi
 exact And.intro (ma_i64 h) (And.intro (ma_i64 rfl) trivial)
theorem maAll (hH:Hd w0 fo0 0) {wh how by_:Int} :
  CodeQ w0 nMa cMa (initT [.int .i64 wh,.int .i64 how,.int .i64 by_] 0 .e) (st0 []) fun x tm st=>(x=.normal∨x=.ret)∧resS Tryz.prog st.m tm rsMa=some (.bool true):=by
 obtain ⟨y1,i,hi,t1⟩:=maIdx wh
 obtain ⟨y2,j,hj,t2⟩:=maIdx by_
 refine CodeL.code ?_
 rw [kMa_eq]
 refine CodeL.app (PT.code (s:=(initT [.int .i64 wh,.int .i64 how,.int .i64 by_] 0 .e,st0 [])) hH (maP wh how by_) maPlP trivial hid0) ?_ (fun x tm st hx h=>absurd h.1 hx)
 rintro tm st ⟨-,rfl,rfl⟩
 refine CodeL.app (QTX.code hH extMt_ok ((maS wh how by_ y1).at (List.mem_range.2 hi)) maPlS t1 hid0) ?_ (fun x tm st hx h=>absurd h.1 hx)
 rintro tm st ⟨-,rfl,rfl⟩
 refine CodeL.app (QTX.code hH extMt_ok ((maT wh how by_ (nmC i) y2).at (List.mem_range.2 hj)) maPlT t2 hid0) ?_ (fun x tm st hx h=>absurd h.1 hx)
 rintro tm st ⟨-,rfl,rfl⟩
 refine CodeL.app (QTX.code hH extMt_ok ((maC how (nmC j)).at (List.mem_range.2 hi)) maPlC (qRaise_ok HJ.zero (by simp [uMax]) (by simp)) hid0) ?_ (fun x tm st hx h=>absurd h.1 hx)
 rintro tm st ⟨-,rfl,rfl⟩
 have H:HJ (l1M (nmC i) (clC i)) 22 105:=HJ.zero.e2 (by simp) (by simp)
 have h4:how % 4=0∨how % 4=1∨how % 4=2∨how % 4=3:=by omega
 rw [← andI_3] at h4
 rcases h4 with h | h | h | h
 ·refine CodeL.app (QTX.code hH extMt_ok ((maW0 how (nmC i) (nmC j) (clC i)).at (show 0∈[0,3] by simp)) maPlW (And.intro (ma_i64 h) trivial) hid0) ?_ (fun x tm st hx h=>absurd h.1 hx)
  rintro tm st ⟨-,rfl,rfl⟩
  exact maTail hH hi hj fun X=>maEnd0 hH hi hj (show 0∈[0,3] by simp) h X
 ·refine CodeL.app (QTX.code hH extMt_ok ((maW1 how (nmC j)).at (List.mem_range.2 hi)) maPlW (And.intro (ma_i64 h) (qInst_ok H (by simp [uMax]) (by simp))) hid0) ?_ (fun x tm st hx h=>absurd h.1 hx)
  rintro tm st ⟨-,rfl,rfl⟩
  exact maTail hH hi hj fun X=>maEnd1 hH hi hj h X
 ·refine CodeL.app (QTX.code hH extMt_ok ((maW2 how (nmC j)).at (List.mem_range.2 hi)) maPlW (And.intro (ma_i64 h) (qInst_ok H (by simp [uMax]) (by simp))) hid0) ?_ (fun x tm st hx h=>absurd h.1 hx)
  rintro tm st ⟨-,rfl,rfl⟩
  exact maTail hH hi hj fun X=>maEnd2 hH hi hj h X
 ·refine CodeL.app (QTX.code hH extMt_ok ((maW0 how (nmC i) (nmC j) (clC i)).at (show 3∈[0,3] by simp)) maPlW (And.intro (ma_i64 h) trivial) hid0) ?_ (fun x tm st hx h=>absurd h.1 hx)
  rintro tm st ⟨-,rfl,rfl⟩
  exact maTail hH hi hj fun X=>maEnd0 hH hi hj (show 3∈[0,3] by simp) h X
end
theorem matches_any (wh how by_:Int):LawT fMa [.int .i64 wh,.int .i64 how,.int .i64 by_] :=
 lawQ (c:=cMa) (vs:=[.int .i64 wh,.int .i64 how,.int .i64 by_]) Tryz.func8 (by kernel_rfl) (zB (by kernel_rfl)) (zB (by kernel_rfl)) (.cons (.int _ _) (.cons (.int _ _) (.cons (.int _ _) .nil))) fun w0 hg =>
  maAll (Hd.of _)
end
end Go.Proofs.YtildnolfgdcndaaGreatDoor.W.E
