/- RangeR Shelf Fault -/
import Derived.Test.YtbbokgpklihkoaaGreatDoorPart13
import Derived.Shelf.Strings.Builder1
import Derived.Shelf.Strings.Builder2
import Derived.Shelf.Strings.OnBuilder
import Derived.Shelf.Small.Bits
import Derived.Shelf.Small.Wraps
import Derived.Shelf.Strings.BuilderF
import Derived.Shelf.Strings.BuilderK
import Derived.Shelf.Strings.Builder2Cap
import Derived.Shelf.Strconv.Itoa0
import Derived.Shelf.Strings.Search1
import Derived.Shelf.Strings.Search2
import Derived.Shelf.Strings.Search3
import Derived.Shelf.Strings.Cut
import Derived.Shelf.LaysM
import Derived.Shelf.Strings.Shaped
import Derived.Shelf.Strings.Prefix
import Derived.Shelf.Strings.Fields
import Derived.Shelf.Strings.SplitShaped
import Derived.Shelf.Unicode.Latin
import Derived.Shelf.Bits.Mul64
import Derived.Shelf.Strings.Repeat
import Derived.Shelf.Unicode.Is16White
import Derived.Shelf.Unicode.IsSpaceAny
import Derived.Shelf.Unicode.Is16WhiteD
import Derived.Shelf.Unicode.IsSpaceAnyD
import Derived.Shelf.Strings.FieldsAny
import Derived.Shelf.Strings.FieldsFuncAny
import Derived.Shelf.Unicode.Is16Any
import Derived.Shelf.Unicode.Is32Any
import Derived.Shelf.Unicode.ExclAny
import Derived.Shelf.Strings.FieldsFuncGrows
import Derived.Shelf.Strings.BuilderCap
import Derived.Shelf.Slices.Turned
import Derived.Ground.Names2Prog
import Derived.Shelf.Slices.SearchI
import Derived.Ground.SlgnProg
import Derived.Shelf.SlicesG.Turned
import Derived.Shelf.SlicesG.SearchI
import Derived.Shelf.SlicesE.Clone
import Derived.Test.YtbbokgpklihkoaaGreatDoorProg
import Derived.Test.YtbbokgpklihkoaaGreatDoorPart9
set_option linter.unusedVariables false
set_option linter.unusedSimpArgs false
namespace Go.Proofs.YtbbokgpklihkoaaGreatDoor.W
section
open Go.RowKit
def SeqOfR (P:Program) (gf:Nat) (lb:Array Value) (xs:List (Array Value)) (R:World→Prop):Prop :=
 ∀ (l:Nat) (J:Nat→Foot→World→Prop) (Y:Foot→World→Prop),(∀ k,Stable (J k))→Stable Y→(∀ k F W,J k F W→∀ b,F b→b < W.heap.size)→(∀ k F W,J k F W→R W)→Rounds P l J Y xs →
  ∀ F W,J 0 F W→CallsIn Fence.wide 2 P gf (#[.func (.yield l) #[] #[]]++lb) W fun e W'=>(∃ v,e=.returned v)∧∃ F',Step W.heap.size F W W' F'∧(J xs.length F' W'∨Y F' W')
theorem range_fnR {P:Program} {g:Operand} {ps:Array Tmp} {assign body:Code} {Q:Exit→Go.Act→World→Prop} {a:Go.Act} {w:World} {gf:Nat} {lb:Array Value}
  (hg:a.eval g=.func (.func gf) #[] lb) (eg:∀ args w,(callFunc gf args).run P w=.ok (.enter gf args) w) {xs:List (Array Value)} {R:World→Prop} (hseq:SeqOfR P gf lb xs R)
  (hps:∀ x∈xs,x.size=ps.size) (I:Nat→Foot→World→Prop) (X:Code→Foot→World→Prop) (stI:∀ k,Stable (I k)) (stX:∀ c,Stable (X c)) (ltI:∀ k F W,I k F W→∀ b,F b→b < W.heap.size)
  (hR:∀ k F W,I k F W→R W) (F0:Foot) (h0:I 0 F0 w)
  (hround:∀ (l k:Nat) (x:Array Value) (F:Foot) (W:World) (K:Go.Act→World→Prop),xs[k]?=some x→I k F W→¬ F l→l < W.heap.size →
   (∀ a' Wa,Bl W Wa→(∀ Wb,(∀ b,b≠l→Wb.heap[b]?=Wa.heap[b]?)→Wb.heap.size=Wa.heap.size→Wb.os=Wa.os→Wb.tape=Wa.tape→Wb.output=Wa.output →
     body.wpIn (Fence.wide.inRound l) 1 P (roundQ I X k F Wb) a' Wb)→K a' Wa) →
   assign.wpIn (Fence.wide.inRound l) 1 P (Exit.then K fun _ _ _=>False) { tmps:=(ps.zip x).foldl (fun t (p,v)=>t.setIfInBounds p v) a.tmps,defers:=[] } W)
  (hdone:∀ F' W',Step w.heap.size F0 w W' F'→I xs.length F' W'→W'.heap[w.heap.size]?=some (.deferred (some []))→¬ F' w.heap.size→Q .normal { a with defers:={ target:=.collected w.heap.size,args:=#[] } :: a.defers } W')
  (hstop:∀ c F' W',Step w.heap.size F0 w W' F'→X c F' W'→W'.heap[w.heap.size]?=some (.deferred (some []))→¬ F' w.heap.size→c.wpIn Fence.wide 3 P Q { a with defers:={ target:=.collected w.heap.size,args:=#[] } :: a.defers } W') :
  (Code.rangeFunc g ps assign body).wpIn Fence.wide 3 P Q a w:=by
 refine wpIn_rangeFunc ?_
 intro fn hfn
 obtain ⟨rec,hrec⟩:∃ rec:LoopState→Option Code→Loop,rec=fun st pe=>{ state:=st,pending:=pe,fn,tmps:=a.tmps,params:=ps,assign,body,defers:=w.heap.size }:=⟨_,rfl⟩
 obtain ⟨W1,hW1⟩:∃ W1,(w.alloc (.deferred (some []))).alloc (.loop (rec .ready none))=W1:=⟨_,rfl⟩
 have hL1:W1.heap[w.heap.size + 1]?=some (.loop (rec .ready none)):=by
  rw [← hW1];have:=World.alloc_heap_new (w.alloc (.deferred (some []))) (.loop (rec .ready none));rwa [zL] at this
 have hK1:W1.heap[w.heap.size]?=some (.deferred (some [])):=by
  rw [← hW1];exact (Below.heap_alloc _ _ _ (by simp)).trans (World.alloc_heap_new w _)
 have hb1:Bl w W1:=by rw [← hW1];exact ((Bl.refl w).al' _).al' _
 have hs1:W1.heap.size=w.heap.size + 2:=by rw [← hW1,zL,zL]
 have hF0:=ltI 0 F0 w h0
 have nl0:¬ F0 (w.heap.size + 1):=fun h=>by have:=hF0 _ h;omega
 have nd0:¬ F0 w.heap.size:=fun h=>by have:=hF0 _ h;omega
 refine ⟨w.heap.size + 1,[{ target:=.collected w.heap.size,args:=#[] }],W1,{ target:=.fn (.func gf) lb,args:=#[.func (.yield (w.heap.size + 1)) #[] #[]] },W1,gf,
  #[.func (.yield (w.heap.size + 1)) #[] #[]]++lb,W1,?_,?_,?_,?_,fun _=>by omega,?_⟩
 ·rw [← hW1,hrec];exact run_enterLoop_outer _ _ _ _ _
 ·simp only [resolve,hg]
  simp [go_sem]
 ·intro f' hf';exact trivial
 ·simp [invoke,go_sem,eg]
 ·let Fp:Foot→Foot:=fun F b=>F b∨b=w.heap.size∨b=w.heap.size + 1
  let J:Nat→Foot→World→Prop:=fun k G W=>∃ F,(∀ b,G b↔Fp F b)∧I k F W∧¬ F (w.heap.size + 1)∧¬ F w.heap.size∧W.heap[w.heap.size + 1]?=some (.loop (rec .ready none))∧W.heap[w.heap.size]?=some (.deferred (some []))∧(∀ b,F b→F0 b∨w.heap.size + 2≤b)
  let Y:Foot→World→Prop:=fun G W=>∃ F c,(∀ b,G b↔Fp F b)∧X c F W∧¬ F (w.heap.size + 1)∧¬ F w.heap.size∧W.heap[w.heap.size + 1]?=some (.loop (rec .done (some c)))∧W.heap[w.heap.size]?=some (.deferred (some []))∧(∀ b,F b→F0 b∨w.heap.size + 2≤b)∧(∀ b,F b→b < W.heap.size)
  have hJ0:J 0 (Fp F0) W1:=⟨F0,fun _=>Iff.rfl,stI 0 F0 w W1 h0 (Keep.of_bl hb1 hF0),nl0,nd0,hL1,hK1,fun b hb=>.inl hb⟩
  refine (hseq (w.heap.size + 1) J Y ?_ ?_ ?_ (fun k G W ⟨F,_,hi,_⟩=>hR k F W hi) ?_ (Fp F0) W1 hJ0).mono ?_
  ·rintro k G W W' ⟨F,hG,hi,h1,h2,h3,h4,h5⟩ hk
   exact ⟨F,hG,stI k F W W' hi ⟨hk.os,hk.tape,hk.output,hk.size,fun b hb=>hk.block b ((hG b).2 (.inl hb))⟩,h1,h2,(hk.block _ ((hG _).2 (.inr (.inr rfl)))).trans h3,(hk.block _ ((hG _).2 (.inr (.inl rfl)))).trans h4,h5⟩
  ·rintro G W W' ⟨F,c,hG,hi,h1,h2,h3,h4,h5,h6⟩ hk
   exact ⟨F,c,hG,stX c F W W' hi ⟨hk.os,hk.tape,hk.output,hk.size,fun b hb=>hk.block b ((hG b).2 (.inl hb))⟩,h1,h2,(hk.block _ ((hG _).2 (.inr (.inr rfl)))).trans h3,(hk.block _ ((hG _).2 (.inr (.inl rfl)))).trans h4,h5,fun b hb=>Nat.lt_of_lt_of_le (h6 b hb) hk.size⟩
  ·rintro k G W ⟨F,hG,hi,h1,h2,h3,h4,h5⟩ b hb
   rcases (hG b).1 hb with h | rfl | rfl
   ·exact ltI k F W hi b h
   ·exact (zN h4).1
   ·exact (zN h3).1
  ·rintro k x G W hx ⟨F,hG,hi,h1,h2,h3,h4,h5⟩
   have hl3:=(zN h3).1
   have hF:=ltI k F W hi
   have hy:=run_yield (P:=P) (args:=x) h3 (by rw [hrec];exact hps x (List.mem_of_getElem? hx))
   rw [hrec] at hy
   refine ⟨fn,_,assign,body,hy,roundIn_of_wpIn hfn (hround _ k x F W _ hx hi h1 hl3 ?_)⟩
   clear hy
   intro a' Wa hba hbody
   have h3a:=(hba.at hl3).trans h3
   have hl3a:=(zN h3a).1
   have h4a:=(hba.at (by omega)).trans h4
   refine ⟨_,run_beginRound h3a (by rw [hrec]),?_⟩
   refine wpIn_mono (hbody (Wa.putObj (w.heap.size + 1) (.loop { rec .ready none with state:=.busy })) (fun b hb=>World.putObj_heap_other hb) (putObj_size _ _ _) rfl rfl rfl) ?_
   have hl2:(Wa.putObj (w.heap.size + 1) (.loop { rec .ready none with state:=.busy })).heap[w.heap.size + 1]?=some (.loop { rec .ready none with state:=.busy }):=World.putObj_heap_same hl3a
   have hk2:(Wa.putObj (w.heap.size + 1) (.loop { rec .ready none with state:=.busy })).heap[w.heap.size]?=some (.deferred (some [])):=(World.putObj_heap_other (by omega)).trans h4a
   have hs2:=putObj_size Wa (w.heap.size + 1) (.loop { rec .ready none with state:=.busy })
   have hsz:=hba.sz
   have fin:∀ (jump:Option Code) (F':Foot) (W3:World),Step (Wa.putObj (w.heap.size + 1) (.loop { rec .ready none with state:=.busy })).heap.size F (Wa.putObj (w.heap.size + 1) (.loop { rec .ready none with state:=.busy })) W3 F' →
     (Instr.endRound (w.heap.size + 1) jump).run P W3=.ok (.bool jump.isNone) (W3.putObj (w.heap.size + 1) (.loop (rec (if jump.isNone then .ready else .done) jump))) ∧
     (W3.putObj (w.heap.size + 1) (.loop (rec (if jump.isNone then .ready else .done) jump))).heap[w.heap.size + 1]?=some (.loop (rec (if jump.isNone then .ready else .done) jump)) ∧
     (W3.putObj (w.heap.size + 1) (.loop (rec (if jump.isNone then .ready else .done) jump))).heap[w.heap.size]?=some (.deferred (some [])) ∧
     Step W.heap.size G W (W3.putObj (w.heap.size + 1) (.loop (rec (if jump.isNone then .ready else .done) jump))) (Fp F')∧¬ F' (w.heap.size + 1)∧¬ F' w.heap.size∧(∀ b,F' b→F0 b∨w.heap.size + 2≤b):=fun jump F' W3 hst=>by
    have hl3':=(hst.block (w.heap.size + 1) (by rw [hs2];exact hl3a) h1).trans hl2
    have hk3':=(hst.block w.heap.size (by rw [hs2];omega) h2).trans hk2
    have hr:=run_endRound (P:=P) jump hl3'
    have n1:¬ F' (w.heap.size + 1):=fun h=>(hst.foot _ h).elim h1 (fun h=>by rw [hs2] at h;omega)
    have n2:¬ F' w.heap.size:=fun h=>(hst.foot _ h).elim h2 (fun h=>by rw [hs2] at h;omega)
    have hW3s:=hst.size
    rw [hs2] at hW3s
    rw [hrec] at hr ⊢
    refine ⟨hr,World.putObj_heap_same (by omega),(World.putObj_heap_other (by omega)).trans hk3',⟨?_,?_,?_,?_,?_,?_,?_⟩,n1,n2,?_⟩
    ·exact hst.os.trans hba.os
    ·exact hst.tape.trans hba.tape
    ·exact hst.output.trans hba.output
    ·rw [putObj_size];omega
    ·intro b hb hnb
     have hne:b≠w.heap.size + 1:=fun e=>hnb ((hG b).2 (.inr (.inr e)))
     rw [World.putObj_heap_other hne,hst.block b (by rw [hs2];omega) (fun h=>hnb ((hG b).2 (.inl h))),World.putObj_heap_other hne]
     exact hba.at hb
    ·intro b hb
     rcases hb with h | h | h
     ·rcases hst.foot b h with h | h
      ·exact .inl ((hG b).2 (.inl h))
      ·rw [hs2] at h;exact .inr (by omega)
     ·exact .inl ((hG b).2 (.inr (.inl h)))
     ·exact .inl ((hG b).2 (.inr (.inr h)))
    ·intro b hb
     rw [putObj_size]
     rcases hb with h | h | h
     ·exact hst.lt b h
     ·omega
     ·omega
    ·intro b hb
     rcases hst.foot b hb with h | h
     ·exact h5 b h
     ·rw [hs2] at h;exact .inr (by omega)
   rintro e a3 W3 hp
   cases e with
   | normal =>
    obtain ⟨F',hst,hi3⟩:=hp
    obtain ⟨hr,q1,q2,q3,q4,q5,q6⟩:=fin none F' W3 hst
    exact ⟨_,_,hr,_,q3,.inl ⟨rfl,F',fun _=>Iff.rfl,stI _ F' W3 _ hi3 (Keep.put q4),q4,q5,q1,q2,q6⟩⟩
   | ret =>
    obtain ⟨F',hst,hi3⟩:=hp
    obtain ⟨hr,q1,q2,q3,q4,q5,q6⟩:=fin (some .ret) F' W3 hst
    exact ⟨_,_,hr,_,q3,.inr ⟨rfl,F',.ret,fun _=>Iff.rfl,stX _ F' W3 _ hi3 (Keep.put q4),q4,q5,q1,q2,q6,fun b hb=>by rw [putObj_size];exact hst.lt b hb⟩⟩
   | exit id =>
    obtain ⟨F',hst,hi3⟩:=hp
    obtain ⟨hr,q1,q2,q3,q4,q5,q6⟩:=fin (some (.exit id)) F' W3 hst
    exact ⟨_,_,hr,_,q3,.inr ⟨rfl,F',.exit id,fun _=>Iff.rfl,stX _ F' W3 _ hi3 (Keep.put q4),q4,q5,q1,q2,q6,fun b hb=>by rw [putObj_size];exact hst.lt b hb⟩⟩
   | goto t =>
    obtain ⟨F',hst,hi3⟩:=hp
    obtain ⟨hr,q1,q2,q3,q4,q5,q6⟩:=fin (some (.goto t)) F' W3 hst
    exact ⟨_,_,hr,_,q3,.inr ⟨rfl,F',.goto t,fun _=>Iff.rfl,stX _ F' W3 _ hi3 (Keep.put q4),q4,q5,q1,q2,q6,fun b hb=>by rw [putObj_size];exact hst.lt b hb⟩⟩
   | panic ch=>exact hp.elim
   | outgrown=>exact hp.elim
  ·rintro e W2 ⟨⟨v,rfl⟩,G,hst,h⟩
   have stepTo:∀ (F:Foot) (o:Obj),(∀ b,F b→F0 b∨w.heap.size + 2≤b)→(∀ b,F b→b < W2.heap.size)→Step w.heap.size F0 w (W2.putObj (w.heap.size + 1) o) F:=fun F o h5 h6=>by
    have hz:=hst.size
    refine ⟨hst.os.trans hb1.os,hst.tape.trans hb1.tape,hst.output.trans hb1.output,by rw [putObj_size];omega,fun b q1 q2=>?_,fun b hb=>(h5 b hb).elim .inl (fun h=>.inr (by omega)),fun b hb=>by rw [putObj_size];exact h6 b hb⟩
    rw [World.putObj_heap_other (by omega),hst.block b (by omega) (fun h=>by rcases h with h | h | h;exact q2 h;omega;omega)]
    exact hb1.at q1
   rcases h with ⟨F,hG,hi,h1,h2,h3,h4,h5⟩ | ⟨F,c,hG,hi,h1,h2,h3,h4,h5,h6⟩
   ·refine ⟨none,_,by have:=run_endLoop (P:=P) h3 (by rw [hrec];simp);rw [hrec] at this;exact this,?_⟩
    exact hdone F _ (stepTo F _ h5 (ltI _ F W2 hi)) (stI _ F W2 _ hi (Keep.put h1)) ((World.putObj_heap_other (by omega)).trans h4) h2
   ·refine ⟨some c,_,by have:=run_endLoop (P:=P) h3 (by rw [hrec];simp);rw [hrec] at this;exact this,?_⟩
    exact hstop c F _ (stepTo F _ h5 h6) (stX c F W2 _ hi (Keep.put h1)) ((World.putObj_heap_other (by omega)).trans h4) h2
end
end Go.Proofs.YtbbokgpklihkoaaGreatDoor.W
namespace Go.Proofs
section
open Go.Shelf
def Tryz.lays156_ren:Go.Shelf.Ren:=⟨fun | 156=>452 | 165=>485 | 166=>427 | 169=>218 | 240=>467 | 241=>502 | 276=>496 | 277=>510 | n=>n,fun | 31=>109 | 9=>9 | 3=>3 | 4=>4 | 0=>0 | 20=>20 | 72=>205 | 76=>343 | 70=>202 | 37=>203 | 75=>342 | 127=>299 | 164=>408 | 5=>5 | 80=>39 | n=>n,fun | n=>n⟩
theorem Tryz.lays156:Go.Proofs.Lays.n156 Tryz.prog Tryz.lays156_ren:={
 mixed:=by kernel_rfl
 f156:=Tryz.func452.trans (congrArg some (by kernel_rfl))
 f165:=Tryz.func485.trans (congrArg some (by kernel_rfl))
 f166:=Tryz.func427.trans (congrArg some (by kernel_rfl))
 f169:=Tryz.func218.trans (congrArg some (by kernel_rfl))
 f240:=Tryz.func467.trans (congrArg some (by kernel_rfl))
 f241:=Tryz.func502.trans (congrArg some (by kernel_rfl))
 f276:=Tryz.func496.trans (congrArg some (by kernel_rfl))
 f277:=Tryz.func510.trans (congrArg some (by kernel_rfl))
 t0:=Tryz.underlying0
 a0:=Tryz.isAgg0
 z0:=Tryz.sizeOf0
 v0:=Tryz.zeroValue0
 t3:=Tryz.underlying3
 a3:=Tryz.isAgg3
 z3:=Tryz.sizeOf3
 v3:=Tryz.zeroValue3
 t4:=Tryz.underlying4
 a4:=Tryz.isAgg4
 z4:=Tryz.sizeOf4
 v4:=Tryz.zeroValue4
 t9:=Tryz.underlying9
 a9:=Tryz.isAgg9
 z9:=Tryz.sizeOf9
 v9:=Tryz.zeroValue9
 t20:=Tryz.underlying20
 a20:=Tryz.isAgg20
 z20:=Tryz.sizeOf20
 v20:=Tryz.zeroValue20
 t31:=Tryz.underlying109
 a31:=Tryz.isAgg109
 z31:=Tryz.sizeOf109
 v31:=Tryz.zeroValue109
 t37:=Tryz.underlying203
 a37:=Tryz.isAgg203
 z37:=Tryz.sizeOf203
 v37:=Tryz.zeroValue203
 t70:=Tryz.underlying202
 a70:=Tryz.isAgg202
 z70:=Tryz.sizeOf202
 v70:=Tryz.zeroValue202
 t72:=Tryz.underlying205
 a72:=Tryz.isAgg205
 z72:=Tryz.sizeOf205
 v72:=Tryz.zeroValue205
 t75:=Tryz.underlying342
 a75:=Tryz.isAgg342
 z75:=Tryz.sizeOf342
 v75:=Tryz.zeroValue342
 t76:=Tryz.underlying343
 a76:=Tryz.isAgg343
 z76:=Tryz.sizeOf343
 v76:=Tryz.zeroValue343
 t127:=Tryz.underlying299
 a127:=Tryz.isAgg299
 z127:=Tryz.sizeOf299
 v127:=Tryz.zeroValue299
 t164:=Tryz.underlying408
 a164:=Tryz.isAgg408
 z164:=Tryz.sizeOf408
 v164:=Tryz.zeroValue408 }
theorem Tryz.Builder_Extra_156:Builder.Extra Tryz.prog Tryz.lays156_ren:={
 sizeBuilder:=by kernel_rfl
 liesBuilder:=by kernel_rfl
 t5:=Tryz.underlying5
 a5:=Tryz.isAgg5
 z5:=Tryz.sizeOf5
 v5:=Tryz.zeroValue5
 infoByte:=by kernel_rfl
 cellsByte:=by kernel_rfl
 sizeByte:=by kernel_rfl
 neB5:=by decide }
open Go.RowKit in
theorem Tryz.strings_Join_none (a:Option Addr) (c:Nat) (sep:ByteArray) (w:World) :
  Calls Tryz.prog 452 #[.slice a 0 c,.string sep] w fun e w'=>e=.returned (.string ⟨#[]⟩)∧w'=w:=Any.strings_Join_none Tryz.lays156 Tryz.Builder_Extra_156 a c sep w
open Go.RowKit in
theorem Tryz.strings_Join (bk o c:Nat) (xs:List ByteArray) (sep:ByteArray) (w:World) (hcells:∀ (j:Nat) x,xs[j]?=some x→w.cell? ⟨bk,o + j,none⟩=some (.string x)) (hbk:bk < w.heap.size) (hN:xs.length≤140737488355328) (hcap:xs.length≤c) (hlen:(Lib.join (xs.map (·.data.toList)) sep.data.toList).length≤140737488355328) :
  Calls Tryz.prog 452 #[.slice (some ⟨bk,o,none⟩) xs.length c,.string sep] w fun e w'=>e=.returned (.string ⟨(Lib.join (xs.map (·.data.toList)) sep.data.toList).toArray⟩)∧Below w.heap.size w w':=Any.strings_Join Tryz.lays156 Tryz.Builder_Extra_156 bk o c xs sep w hcells hbk hN hcap hlen
def Tryz.lays219_ren:Go.Shelf.Ren:=⟨fun | 219=>433 | 217=>475 | 225=>476 | 224=>477 | 267=>478 | 266=>497 | 314=>498 | n=>n,fun | 9=>9 | 3=>3 | 4=>4 | 5=>5 | 46=>320 | 146=>412 | 51=>353 | n=>n,fun | 1=>2 | n=>n⟩
def Tryz.lays143_ren:Go.Shelf.Ren:=⟨fun | 143=>448 | 219=>433 | 217=>475 | 225=>476 | 224=>477 | 267=>478 | 266=>497 | 314=>498 | n=>n,fun | 9=>9 | 3=>3 | 4=>4 | 5=>5 | 46=>320 | 146=>412 | 51=>353 | n=>n,fun | 1=>2 | n=>n⟩
def Tryz.lays145_ren:Go.Shelf.Ren:=⟨fun | 145=>229 | 220=>356 | 219=>433 | 217=>475 | 225=>476 | 224=>477 | 267=>478 | 266=>497 | 314=>498 | n=>n,fun | 9=>9 | 4=>4 | 59=>215 | 3=>3 | 5=>5 | 46=>320 | 146=>412 | 51=>353 | n=>n,fun | 1=>2 | n=>n⟩
theorem Tryz.lays145:Go.Proofs.Lays.n145 Tryz.prog Tryz.lays145_ren:={
 mixed:=by kernel_rfl
 f145:=Tryz.func229.trans (congrArg some (by kernel_rfl))
 f217:=Tryz.func475.trans (congrArg some (by kernel_rfl))
 f219:=Tryz.func433.trans (congrArg some (by kernel_rfl))
 f220:=Tryz.func356.trans (congrArg some (by kernel_rfl))
 f224:=Tryz.func477.trans (congrArg some (by kernel_rfl))
 f225:=Tryz.func476.trans (congrArg some (by kernel_rfl))
 f266:=Tryz.func497.trans (congrArg some (by kernel_rfl))
 f267:=Tryz.func478.trans (congrArg some (by kernel_rfl))
 f314:=Tryz.func498.trans (congrArg some (by kernel_rfl))
 t3:=Tryz.underlying3
 a3:=Tryz.isAgg3
 z3:=Tryz.sizeOf3
 v3:=Tryz.zeroValue3
 t4:=Tryz.underlying4
 a4:=Tryz.isAgg4
 z4:=Tryz.sizeOf4
 v4:=Tryz.zeroValue4
 t5:=Tryz.underlying5
 a5:=Tryz.isAgg5
 z5:=Tryz.sizeOf5
 v5:=Tryz.zeroValue5
 t9:=Tryz.underlying9
 a9:=Tryz.isAgg9
 z9:=Tryz.sizeOf9
 v9:=Tryz.zeroValue9
 t46:=Tryz.underlying320
 a46:=Tryz.isAgg320
 z46:=Tryz.sizeOf320
 v46:=Tryz.zeroValue320
 t51:=Tryz.underlying353
 a51:=Tryz.isAgg353
 z51:=Tryz.sizeOf353
 v51:=Tryz.zeroValue353
 t59:=Tryz.underlying215
 a59:=Tryz.isAgg215
 z59:=Tryz.sizeOf215
 v59:=Tryz.zeroValue215
 t146:=Tryz.underlying412
 a146:=Tryz.isAgg412
 z146:=Tryz.sizeOf412
 v146:=Tryz.zeroValue412
 g1:=by kernel_rfl }
open Go.RowKit Go.Lib in
theorem Tryz.strings_Cut (s sep:ByteArray) (m:Int) (w:World) (hs:s.size < 4294967281) (hm:w.cell? ⟨2,0,none⟩=some (.int .i64 m)) :
  Calls Tryz.prog 229 #[.string s,.string sep] w fun e w'=>e=.returned (.tuple #[.string ⟨(Lib.cut s.data.toList sep.data.toList).1.toArray⟩,.string ⟨(Lib.cut s.data.toList sep.data.toList).2.1.toArray⟩,.bool (Lib.cut s.data.toList sep.data.toList).2.2])∧∃ n,w'=w.drewN n:=Any.strings_Cut Tryz.lays145 s sep m w hs hm
def Tryz.laysM143_ren:Go.Shelf.Ren:=⟨fun | 143=>448 | 219=>433 | 217=>475 | 225=>476 | 224=>477 | 267=>478 | 266=>497 | 314=>498 | n=>n,fun | 9=>9 | 3=>3 | 4=>4 | 5=>5 | 46=>320 | 146=>412 | 51=>353 | n=>n,fun | 1=>2 | n=>n⟩
theorem Tryz.laysM143:Go.Proofs.LaysM.n143 Tryz.prog Tryz.laysM143_ren:={
 mixed:=by kernel_rfl
 f143:=Tryz.func448.trans (congrArg some (by kernel_rfl))
 f217:=Tryz.func475.trans (congrArg some (by kernel_rfl))
 f219:=Tryz.func433.trans (congrArg some (by kernel_rfl))
 f224:=Tryz.func477.trans (congrArg some (by kernel_rfl))
 f225:=Tryz.func476.trans (congrArg some (by kernel_rfl))
 f266:=Tryz.func497.trans (congrArg some (by kernel_rfl))
 f267:=Tryz.func478.trans (congrArg some (by kernel_rfl))
 f314:=Tryz.func498.trans (congrArg some (by kernel_rfl))
 t3:=Tryz.underlying3
 a3:=Tryz.isAgg3
 z3:=Tryz.sizeOf3
 v3:=Tryz.zeroValue3
 t4:=Tryz.underlying4
 a4:=Tryz.isAgg4
 z4:=Tryz.sizeOf4
 v4:=Tryz.zeroValue4
 t5:=Tryz.underlying5
 a5:=Tryz.isAgg5
 z5:=Tryz.sizeOf5
 v5:=Tryz.zeroValue5
 t9:=Tryz.underlying9
 a9:=Tryz.isAgg9
 z9:=Tryz.sizeOf9
 v9:=Tryz.zeroValue9
 t46:=Tryz.underlying320
 a46:=Tryz.isAgg320
 z46:=Tryz.sizeOf320
 v46:=Tryz.zeroValue320
 t51:=Tryz.underlying353
 a51:=Tryz.isAgg353
 z51:=Tryz.sizeOf353
 v51:=Tryz.zeroValue353
 t146:=Tryz.underlying412
 a146:=Tryz.isAgg412
 z146:=Tryz.sizeOf412
 v146:=Tryz.zeroValue412
 g1:=by kernel_rfl
 i3:=by kernel_rfl
 i4:=by kernel_rfl
 i5:=by kernel_rfl
 i9:=by kernel_rfl
 i46:=by kernel_rfl
 i51:=by kernel_rfl
 i146:=by kernel_rfl
 m1:=by kernel_rfl
 s1_3:=fun w h=>Go.Proofs.cell_of_shapedOpen_int (zero:=#[.int .i64 0]) (t:=3) h (of_decide_eq_true (by kernel_rfl)) (by kernel_rfl) rfl (by kernel_rfl) (by kernel_rfl) Tryz.underlying3 }
def Tryz.lays157_ren:Go.Shelf.Ren:=⟨fun | 157=>228 | 229=>354 | 199=>355 | 261=>432 | 311=>473 | 312=>474 | n=>n,fun | 9=>9 | 31=>109 | 3=>3 | 5=>5 | 4=>4 | 119=>303 | 0=>0 | 40=>305 | 152=>350 | 21=>21 | 154=>352 | 51=>353 | 141=>355 | 196=>388 | 193=>385 | 198=>391 | 49=>389 | 194=>386 | 201=>394 | 226=>410 | 46=>320 | 227=>411 | n=>n,fun | 0=>0 | 6=>1 | n=>n⟩
def Tryz.laysM157_ren:Go.Shelf.Ren:=⟨fun | 157=>228 | 229=>354 | 199=>355 | 261=>432 | 311=>473 | 312=>474 | n=>n,fun | 9=>9 | 31=>109 | 3=>3 | 5=>5 | 4=>4 | 119=>303 | 0=>0 | 40=>305 | 152=>350 | 21=>21 | 154=>352 | 51=>353 | 141=>355 | 196=>388 | 193=>385 | 198=>391 | 49=>389 | 194=>386 | 201=>394 | 226=>410 | 46=>320 | 227=>411 | n=>n,fun | 0=>0 | 6=>1 | n=>n⟩
theorem Tryz.laysM157:Go.Proofs.LaysM.n157 Tryz.prog Tryz.laysM157_ren:={
 mixed:=by kernel_rfl
 f157:=Tryz.func228.trans (congrArg some (by kernel_rfl))
 f199:=Tryz.func355.trans (congrArg some (by kernel_rfl))
 f229:=Tryz.func354.trans (congrArg some (by kernel_rfl))
 f261:=Tryz.func432.trans (congrArg some (by kernel_rfl))
 f311:=Tryz.func473.trans (congrArg some (by kernel_rfl))
 f312:=Tryz.func474.trans (congrArg some (by kernel_rfl))
 t0:=Tryz.underlying0
 a0:=Tryz.isAgg0
 z0:=Tryz.sizeOf0
 v0:=Tryz.zeroValue0
 t3:=Tryz.underlying3
 a3:=Tryz.isAgg3
 z3:=Tryz.sizeOf3
 v3:=Tryz.zeroValue3
 t4:=Tryz.underlying4
 a4:=Tryz.isAgg4
 z4:=Tryz.sizeOf4
 v4:=Tryz.zeroValue4
 t5:=Tryz.underlying5
 a5:=Tryz.isAgg5
 z5:=Tryz.sizeOf5
 v5:=Tryz.zeroValue5
 t9:=Tryz.underlying9
 a9:=Tryz.isAgg9
 z9:=Tryz.sizeOf9
 v9:=Tryz.zeroValue9
 t21:=Tryz.underlying21
 a21:=Tryz.isAgg21
 z21:=Tryz.sizeOf21
 v21:=Tryz.zeroValue21
 t31:=Tryz.underlying109
 a31:=Tryz.isAgg109
 z31:=Tryz.sizeOf109
 v31:=Tryz.zeroValue109
 t40:=Tryz.underlying305
 a40:=Tryz.isAgg305
 z40:=Tryz.sizeOf305
 v40:=Tryz.zeroValue305
 t46:=Tryz.underlying320
 a46:=Tryz.isAgg320
 z46:=Tryz.sizeOf320
 v46:=Tryz.zeroValue320
 t49:=Tryz.underlying389
 a49:=Tryz.isAgg389
 z49:=Tryz.sizeOf389
 v49:=Tryz.zeroValue389
 t51:=Tryz.underlying353
 a51:=Tryz.isAgg353
 z51:=Tryz.sizeOf353
 v51:=Tryz.zeroValue353
 t119:=Tryz.underlying303
 a119:=Tryz.isAgg303
 z119:=Tryz.sizeOf303
 t141:=Tryz.underlying355
 a141:=Tryz.isAgg355
 z141:=Tryz.sizeOf355
 v141:=Tryz.zeroValue355
 t152:=Tryz.underlying350
 a152:=Tryz.isAgg350
 z152:=Tryz.sizeOf350
 v152:=Tryz.zeroValue350
 t154:=Tryz.underlying352
 a154:=Tryz.isAgg352
 z154:=Tryz.sizeOf352
 v154:=Tryz.zeroValue352
 t193:=Tryz.underlying385
 a193:=Tryz.isAgg385
 z193:=Tryz.sizeOf385
 v193:=Tryz.zeroValue385
 t194:=Tryz.underlying386
 a194:=Tryz.isAgg386
 z194:=Tryz.sizeOf386
 v194:=Tryz.zeroValue386
 t196:=Tryz.underlying388
 a196:=Tryz.isAgg388
 z196:=Tryz.sizeOf388
 v196:=Tryz.zeroValue388
 t198:=Tryz.underlying391
 a198:=Tryz.isAgg391
 z198:=Tryz.sizeOf391
 v198:=Tryz.zeroValue391
 t201:=Tryz.underlying394
 a201:=Tryz.isAgg394
 z201:=Tryz.sizeOf394
 v201:=Tryz.zeroValue394
 t226:=Tryz.underlying410
 a226:=Tryz.isAgg410
 z226:=Tryz.sizeOf410
 v226:=Tryz.zeroValue410
 t227:=Tryz.underlying411
 a227:=Tryz.isAgg411
 z227:=Tryz.sizeOf411
 v227:=Tryz.zeroValue411
 g0:=by kernel_rfl
 g6:=by kernel_rfl
 i0:=by kernel_rfl
 i3:=by kernel_rfl
 i4:=by kernel_rfl
 i5:=by kernel_rfl
 i9:=by kernel_rfl
 i21:=by kernel_rfl
 i31:=by kernel_rfl
 i40:=by kernel_rfl
 i46:=by kernel_rfl
 i49:=by kernel_rfl
 i51:=by kernel_rfl
 i141:=by kernel_rfl
 i152:=by kernel_rfl
 i154:=by kernel_rfl
 i193:=by kernel_rfl
 i194:=by kernel_rfl
 i196:=by kernel_rfl
 i198:=by kernel_rfl
 i201:=by kernel_rfl
 i226:=by kernel_rfl
 i227:=by kernel_rfl
 m0:=by kernel_rfl
 m6:=by kernel_rfl }
open Go.RowKit Go.Lib in
theorem Tryz.strings_Fields_laid (s:ByteArray) (w:World) (hs:s.size < 4294967281) (hascii:∀ (j:Nat) b,s.data.toList[j]?=some b→b.toNat < 128) (htab:Lib.TabIs Tryz.prog w "strings.asciiSpace" .u8 Lib.asciiSpaceTab) :
  Calls Tryz.prog 228 #[.string s] w fun e w' =>
   e=.returned (.slice (some ⟨w.heap.size,0,none⟩) (Lib.fields s.data.toList).length (Lib.fields s.data.toList).length)∧w'=w.alloc (.cells ((Lib.fields s.data.toList).map fun l=>Value.string ⟨l.toArray⟩).toArray 9):=Any.strings_Fields_laid Tryz.laysM157 s w hs hascii htab
end
end Go.Proofs
namespace Go.Proofs.YtbbokgpklihkoaaGreatDoor.W
section
open Go.RowKit
attribute [local go_sem] Oper.semAt_some
def excText:List UInt8:=[69,120,99,101,112,116,105,111,110,58,32,76,111,111,107,117,112,69,114,114,111,114,58,69,120,99,101,112,116,105,111,110,32,73,110,100,101,120,69,114,114,111,114,58,76,111,111,107,117,112,69,114,114,111,114,32,75,101,121,69,114,114,111,114,58,76,111,111,107,117,112,69,114,114,111,114,32,65,114,105,116,104,109,101,116,105,99,69,114,114,111,114,58,69,120,99,101,112,116,105,111,110,32,90,101,114,111,68,105,118,105,115,105,111,110,69,114,114,111,114,58,65,114,105,116,104,109,101,116,105,99,69,114,114,111,114,32,79,118,101,114,102,108,111,119,69,114,114,111,114,58,65,114,105,116,104,109,101,116,105,99,69,114,114,111,114,32,84,121,112,101,69,114,114,111,114,58,69,120,99,101,112,116,105,111,110,32,86,97,108,117,101,69,114,114,111,114,58,69,120,99,101,112,116,105,111,110,32,78,97,109,101,69,114,114,111,114,58,69,120,99,101,112,116,105,111,110,32,85,110,98,111,117,110,100,76,111,99,97,108,69,114,114,111,114,58,78,97,109,101,69,114,114,111,114,32,65,116,116,114,105,98,117,116,101,69,114,114,111,114,58,69,120,99,101,112,116,105,111,110,32,83,116,111,112,73,116,101,114,97,116,105,111,110,58,69,120,99,101,112,116,105,111,110,32,82,117,110,116,105,109,101,69,114,114,111,114,58,69,120,99,101,112,116,105,111,110,32,82,101,99,117,114,115,105,111,110,69,114,114,111,114,58,82,117,110,116,105,109,101,69,114,114,111,114,32,65,115,115,101,114,116,105,111,110,69,114,114,111,114,58,69,120,99,101,112,116,105,111,110,32,77,101,109,111,114,121,69,114,114,111,114,58,69,120,99,101,112,116,105,111,110]
def excF:List (List UInt8):=[[69,120,99,101,112,116,105,111,110,58],[76,111,111,107,117,112,69,114,114,111,114,58,69,120,99,101,112,116,105,111,110],[73,110,100,101,120,69,114,114,111,114,58,76,111,111,107,117,112,69,114,114,111,114],[75,101,121,69,114,114,111,114,58,76,111,111,107,117,112,69,114,114,111,114],[65,114,105,116,104,109,101,116,105,99,69,114,114,111,114,58,69,120,99,101,112,116,105,111,110],[90,101,114,111,68,105,118,105,115,105,111,110,69,114,114,111,114,58,65,114,105,116,104,109,101,116,105,99,69,114,114,111,114],[79,118,101,114,102,108,111,119,69,114,114,111,114,58,65,114,105,116,104,109,101,116,105,99,69,114,114,111,114],[84,121,112,101,69,114,114,111,114,58,69,120,99,101,112,116,105,111,110],[86,97,108,117,101,69,114,114,111,114,58,69,120,99,101,112,116,105,111,110],[78,97,109,101,69,114,114,111,114,58,69,120,99,101,112,116,105,111,110],[85,110,98,111,117,110,100,76,111,99,97,108,69,114,114,111,114,58,78,97,109,101,69,114,114,111,114],[65,116,116,114,105,98,117,116,101,69,114,114,111,114,58,69,120,99,101,112,116,105,111,110],[83,116,111,112,73,116,101,114,97,116,105,111,110,58,69,120,99,101,112,116,105,111,110],[82,117,110,116,105,109,101,69,114,114,111,114,58,69,120,99,101,112,116,105,111,110],[82,101,99,117,114,115,105,111,110,69,114,114,111,114,58,82,117,110,116,105,109,101,69,114,114,111,114],[65,115,115,101,114,116,105,111,110,69,114,114,111,114,58,69,120,99,101,112,116,105,111,110],[77,101,109,111,114,121,69,114,114,111,114,58,69,120,99,101,112,116,105,111,110]]
def excN (f:List UInt8):List UInt8:=(Go.Lib.cut f [58]).1
def excB (f:List UInt8):List UInt8:=(Go.Lib.cut f [58]).2.1
def excH (f:List UInt8):Bool:=(Go.Lib.cut f [58]).2.2
def excArgs:List (Array Value):=excF.map fun f=>#[.string (bs (excN f)),.string (bs (excB f))]
def Gl (w:World):Prop:=Go.Lib.TabIs Tryz.prog w "strings.asciiSpace" .u8 Go.Lib.asciiSpaceTab∧(∃ m,w.cell? ⟨2,0,none⟩=some (.int .i64 m))∧2 < w.heap.size
theorem block_lt' {w:World} {b:Nat} {o:Obj} (h:w.heap[b]?=some o):b < w.heap.size:=(zN h).1
theorem Gl.keep {w w':World} (h:Gl w) (hs:w.heap.size≤w'.heap.size) (h0:w'.heap[0]?=w.heap[0]?) (h2:w'.heap[2]?=w.heap[2]?):Gl w':=by
 obtain ⟨h1,⟨m,hm⟩,h3⟩:=h
 refine ⟨?_,⟨m,(World.cell?_of_block (w:=w) (a:=⟨2,0,none⟩) h2).trans hm⟩,by omega⟩
 have hg:Tryz.prog.globalNamed "strings.asciiSpace"=some 0:=by kernel_rfl
 unfold Go.Lib.TabIs World.var? at h1 ⊢
 rw [hg] at h1 ⊢
 simp only [Option.bind_some,h0] at h1 ⊢
 exact h1
theorem Gl.bl {w w':World} (h:Gl w) (hb:Bl w w'):Gl w':=h.keep hb.sz (hb.at (by have:=h.2.2;omega)) (hb.at h.2.2)
def GlF (F:Foot) (W:World):Prop:=Gl W∧¬ F 0∧¬ F 2
theorem GlF.step {F F':Foot} {W W':World} (h:GlF F W) (s:Step W.heap.size F W W' F'):GlF F' W':=by
 have hl:=h.1.2.2
 exact ⟨h.1.keep s.size (s.block 0 (by omega) h.2.1) (s.block 2 hl h.2.2),fun hf=>(s.foot 0 hf).elim h.2.1 (by omega),fun hf=>(s.foot 2 hf).elim h.2.2 (by omega)⟩
theorem GlF.bl {F:Foot} {W W':World} (h:GlF F W) (hb:Bl W W'):GlF F W':=⟨h.1.bl hb,h.2⟩
set_option maxRecDepth 100000 in
theorem excFields (w:World) (hw:Gl w):Calls Tryz.prog 228 #[.string (bs excText)] w fun e w'=>e=.returned (.slice (some ⟨w.heap.size,0,none⟩) 17 17)∧w'=w.alloc (.cells (excF.map fun f=>Value.string (bs f)).toArray 9):=by
 have h:=Tryz.strings_Fields_laid (bs excText) w (show excText.toArray.size < 4294967281 from by rw [List.size_toArray];exact of_decide_eq_true (by kernel_rfl)) (by
  intro j b hj
  have hall:excText.all (fun b=>decide (b.toNat < 128))=true:=by kernel_rfl
  exact of_decide_eq_true (List.all_eq_true.1 hall b (List.mem_of_getElem? hj))) hw.1
 have e1:Go.Lib.fields (Array.toList (ByteArray.data (bs excText)))=excF:=by kernel_rfl
 rw [e1] at h
 exact h
theorem excCut (w:World) (hw:Gl w) (f:List UInt8) (hf:f.length < 4294967281):Calls Tryz.prog 229 #[.string (bs f),.string (bs [58])] w fun e w'=>e=.returned (.tuple #[.string (bs (excN f)),.string (bs (excB f)),.bool (excH f)])∧Bl w w':=by
 obtain ⟨-,⟨m,hm⟩,-⟩:=hw
 refine (Tryz.strings_Cut (bs f) (bs [58]) m w (show f.toArray.size < 4294967281 from by rw [List.size_toArray];exact hf) hm).mono ?_
 rintro e w' ⟨rfl,n,rfl⟩
 exact ⟨rfl,Bl.drn _ _⟩
theorem excF_short (f:List UInt8) (hf:f∈excF):f.length < 4294967281:=by
 have hall:excF.all (fun f=>decide (f.length < 4294967281))=true:=by kernel_rfl
 exact of_decide_eq_true (List.all_eq_true.1 hall f hf)
theorem excAll_any (w:World):Calls Tryz.prog 97 #[] w fun e w'=>e=.returned (.func (.func 227) #[] #[])∧w'=w:=by
 go_enter Tryz.func97,Tryz.ntmps97
 go_wp2
 refine bodyPost_ret (v:=.func (.func 227) #[] #[]) (by simp [results,Tryz.results97,go_sem]) rfl ⟨rfl,rfl⟩
set_option maxRecDepth 100000 in
set_option maxHeartbeats 8000000 in
theorem exc_seq:SeqOfR Tryz.prog 227 #[] excArgs Gl:=by
 rintro l J Y sJ sY ltJ hG hY F W hJ
 have HJ:=zH hJ
 have HSJ:=zH sJ
 have HLT:=zH ltJ
 have HY:=zH hY
 have HG:=zH hG
 clear hJ sJ ltJ hY sY hG
 refine callsIn_of_wp Tryz.func227 rfl trivial ?_ rfl
 simp only [Tryz.ntmps227,zS,Nat.reduceAdd,Nat.reduceSub]
 gi_wp2_with (refine ⟨trivial,?_⟩;gi_at_call 228;refine named (p:=fun W'=>CallsIn _ _ _ _ _ W' _) (fun W' hW'=>?_);have hbw:Bl W W':=(by rw [hW'];(repeat (first | exact qA _ | assumption | refine qB ?_ _ | refine qC ?_ | refine qD ?_ _ | refine qE ?_ _ (by simp<;>omega) _)));clear hW';refine (callsIn_wide.2 (excFields W' ((HG.out 0 F W HJ.out).bl hbw))).mono ?_;rintro e W1 ⟨rfl,hW1⟩;have HW1:=zH hW1;clear hW1)
 have hW1:=HW1.out
 have hb1:Bl W W1:=hbw.trans (by rw [hW1];(repeat (first | exact qA _ | assumption | refine qB ?_ _ | refine qC ?_ | refine qD ?_ _ | refine qE ?_ _ (by simp<;>omega) _)))
 obtain ⟨B,hB⟩:∃ B,B=W'.heap.size:=⟨_,rfl⟩
 have hrow:W1.heap[B]?=some (.cells (excF.map fun f=>Value.string (bs f)).toArray 9 (0,0)):=by rw [hW1,hB];exact World.alloc_heap_new _ _
 rw [← hB]
 have hBF:∀ b,F b→b < B:=fun b hb=>by have:=HLT.out 0 F W HJ.out b hb;have:=hbw.sz;omega
 have HL:=zH (show Step W.heap.size F W W1 F∧J 0 F W1∧W1.heap[B]?=some (.cells (excF.map fun f=>Value.string (bs f)).toArray 9 (0,0))∧¬ F B from ⟨Step.of_bl hb1 (HLT.out 0 F W HJ.out),HSJ.out 0 F W W1 HJ.out (Keep.of_bl hb1 (HLT.out 0 F W HJ.out)),hrow,fun h=>Nat.lt_irrefl _ (hBF _ h)⟩)
 clear hb1 hB hrow hBF hW1 hbw HW1
 gi_loopw [3,4,5,6,9] (fun _ _ _ _ v wr=>∃ (k:Nat) (F':Foot),k≤17∧v=.int .i64 k∧Step W.heap.size F W wr F'∧J k F' wr∧wr.heap[B]?=some (.cells (excF.map fun f=>Value.string (bs f)).toArray 9 (0,0))∧¬ F' B) (fun _ _ _ _ v _=>17 - (intOf v).toNat)
 case atStart=>exact ⟨0,F,Nat.zero_le _,rfl,HL.out⟩
 case round =>
  obtain ⟨k,F',hk,rfl,hst,hJ,hrow,hnB⟩:=hrel
  by_cases hlt:k < 17
  ·obtain ⟨f,hf⟩:∃ f,excF[k]?=some f:=⟨_,List.getElem?_eq_getElem (show k < excF.length from hlt)⟩
   have q0:wr.cell? ⟨B,k,none⟩=some (.string (bs f)):=by rw [cell_of hrow];simp [hf]
   have cc:∀ W',Bl wr W'→_:=fun W' hb=>excCut W' ((HG.out k F' wr hJ).bl hb) f (excF_short f (List.mem_of_getElem? hf))
   have hx:excArgs[k]?=some #[.string (bs (excN f)),.string (bs (excB f))]:=by unfold excArgs;rw [List.getElem?_map,hf];rfl
   have HS:=zH (And.intro hst (And.intro hJ (And.intro hrow (And.intro hnB hx))))
   have hltF:=HLT.out _ F' wr hJ
   have HLF:=zH hltF
   clear hst hJ hrow hnB hf hx hltF
   gi_wp2_with (refine ⟨trivial,?_⟩;gi_at_call 229;refine (callsIn_wide.2 (cc _ (by (repeat (first | exact qA _ | assumption | refine qB ?_ _ | refine qC ?_ | refine qD ?_ _ | refine qE ?_ _ (by simp<;>omega) _))))).mono ?_;rintro e W5 ⟨rfl,hb5⟩)
   have hB5:Bl wr W5:=Bl.trans (by (repeat (first | exact qA _ | assumption | refine qB ?_ _ | refine qC ?_ | refine qD ?_ _ | refine qE ?_ _ (by simp<;>omega) _))) hb5
   obtain ⟨fn,tmps,assign,body,hyy,hRd⟩:=HY.out _ _ F' W5 HS.out.2.2.2.2 (HSJ.out _ F' wr W5 HS.out.2.1 (Keep.of_bl hB5 HLF.out))
   have HST5:=zH (show Step W.heap.size F W W5 F'∧W5.heap[B]?=some (.cells (excF.map fun f=>Value.string (bs f)).toArray 9 (0,0))∧¬ F' B from ⟨HS.out.1.bl hB5 HS.out.1.size,(hB5.at (block_lt' HS.out.2.2.1)).trans HS.out.2.2.1,HS.out.2.2.2.1⟩)
   clear hB5 hb5 cc
   rw [hyy]
   gi_wp2
   refine hRd.mono ?_
   rintro e W7 ⟨F7,hst7,(⟨rfl,hJ7⟩ | ⟨rfl,hY7⟩)⟩
   ·have hBl:=block_lt' HST5.out.2.1
    have HREL:=zH (show Step W.heap.size F W W7 F7∧J (k + 1) F7 W7∧W7.heap[B]?=some (.cells (excF.map fun f=>Value.string (bs f)).toArray 9 (0,0))∧¬ F7 B from ⟨HST5.out.1.call HST5.out.1.size hst7,hJ7,(hst7.block B hBl HST5.out.2.2).trans HST5.out.2.1,fun hf=>(hst7.foot B hf).elim HST5.out.2.2 (by omega)⟩)
    clear hst7 hJ7 hBl
    gi_wp2
    go_roundw
    case rel=>exact ⟨k + 1,F7,by omega,by go_num,HREL.out⟩
    case measure=>simp [intOf];omega
   ·have HREL:=zH (show Step W.heap.size F W W7 F7∧Y F7 W7 from ⟨HST5.out.1.call HST5.out.1.size hst7,hY7⟩)
    clear hst7 hY7
    gi_wp2
    refine bodyPost_ret (results_none rfl _ _ _) rfl ?_
    exact ⟨⟨_,rfl⟩,F7,HREL.out.1,.inr HREL.out.2⟩
  ·obtain rfl:k=17:=by omega
   have HREL:=zH (show Step W.heap.size F W wr F'∧J excArgs.length F' wr from ⟨hst,hJ⟩)
   clear hst hJ hrow
   gi_wp2
   go_end0
   exact ⟨⟨_,rfl⟩,F',HREL.out.1,.inl HREL.out.2⟩
end
end Go.Proofs.YtbbokgpklihkoaaGreatDoor.W
