/- BootS EvK2 EvU ConO EvU2 -/
import Derived.Test.YtbbokgpklihkoaaGreatDoorPart14
import Derived.Test.YtbbokgpklihkoaaGreatDoorPart21
import Derived.Test.YtbbokgpklihkoaaGreatDoorPart22
import Derived.Test.YtbbokgpklihkoaaGreatDoorObjD
import Derived.Test.YtbbokgpklihkoaaGreatDoorPart20
import Derived.Test.YtbbokgpklihkoaaGreatDoorPart10
set_option linter.unusedVariables false
set_option linter.unusedSimpArgs false
namespace Go.Proofs.YtbbokgpklihkoaaGreatDoor.W
section
open Go Go.RowKit
attribute [local go_sem] Oper.semAt_some
def hp0:Hp:=⟨[],fun _=>0,0⟩
def bootBases (cl:Cls) (f:List UInt8):List V:=if excB f=[] then [] else [(get cl (excB f)).getD V.nil]
def bootStep (sp:V) (s:Hp × Cls) (f:List UInt8):Hp × Cls:=((s.1.classO (excN f) (bootBases s.2 f) sp).1,put s.2 (excN f) (s.1.classO (excN f) (bootBases s.2 f) sp).2.1)
def bootPut (b:V) (cl:Cls) (h:Hp) (f:List UInt8):Hp:=(h.put b (vstr (excN f)) ((get cl (excN f)).getD V.nil)).1
def ClsOk (h:Hp) (l:List V):Prop:=l.length < 1048576∧total (h.ordersO l) + l.length≤1048576∧∀ q,orderF 0 (numbersO l) (h.ordersO l)=some q→q≠[]∧q.length≤1048576
theorem excAll_bl (w:World):Calls Tryz.prog 97 #[] w fun e w'=>e=.returned (.func (.func 227) #[] #[])∧Bl w w':=(excAll_any w).mono fun e w' h=>⟨h.1,by rw [h.2];exact Bl.refl w⟩
set_option maxRecDepth 100000 in
set_option maxHeartbeats 8000000 in
theorem boot_seq (w:World) (hp:Nat) (h:Hp) (F:Foot) (r:HR w hp h F) (hg:Gl w) (h0:¬ F 0) (h2:¬ F 2) (fA:Nat→Hp × List (List UInt8 × V)) (fB:Nat→Hp)
  (fA0:fA 0=((h.make 3 [] 0 []).1,[])) (fAs:∀ k f,excF[k]?=some f→fA (k + 1)=bootStep (h.make 3 [] 0 []).2 (fA k) f) (fB0:fB 0=((fA 17).1.make 12 [101,120,99,101,112,116,105,111,110,115] 0 []).1) (fBs:∀ k f,excF[k]?=some f→fB (k + 1)=bootPut ((fA 17).1.make 12 [101,120,99,101,112,116,105,111,110,115] 0 []).2 (fA 17).2 (fB k) f)
  (hokc:∀ k f,excF[k]?=some f→∀ l,bootBases (fA k).2 f=l→ClsOk (fA k).1 l) :
  Calls Tryz.prog 17 #[.pointer (some ⟨hp,0,none⟩)] w fun e_ w'=>e_=.returned (V.agg ((fA 17).1.make 12 [101,120,99,101,112,116,105,111,110,115] 0 []).2)∧HStep w hp F ((fB 17).free [(h.make 3 [] 0 []).2.n]).1 w':=by
 refine (callsIn_wide (n:=3)).1 ?_
 refine callsIn_of_wp_marks Tryz.func17 rfl trivial ?_ rfl
 simp only [Tryz.ntmps17,zS,Nat.reduceAdd,Nat.reduceSub]
 have hS:SW (RH hp h) w F [] [] [] w:=SW.start (RH.ok w hp _) r (by nofun) (by nofun)
 clear r
 refine wpIn_seq_k fun K1 hK1=>?_
 refine wpL.enter hS ?_
 intro ops hops
 refine wpL.alloc (RH.ok w hp _) (fun b=>.pointer (some ⟨b,0,none⟩)) (obj:=Obj.cells #[.pointer (some ⟨hp,0,none⟩)] 41 (0,0)) rfl (by nofun) (by nofun) (by intro w;first | rfl | go_simp) ?_
 intro b2
 simp only [qP]
 refine wpL.alloc (RH.ok w hp _) (fun b=>.pointer (some ⟨b,0,none⟩)) (obj:=Obj.cells #[.int .i64 0,.int .i64 0,.string (bs [])] 23 (0,0)) rfl (by nofun) (by nofun) (by intro w;first | rfl | go_simp) ?_
 intro b3
 simp only [qP]
 intro W4 hS5
 refine hK1 _ _ ?_
 (try clear hns);clear hS hops ops
 try clear hK1 K1
 refine wpIn_seq_k fun K6 hK6=>?_
 refine wpIn_seq_k fun K7 hK7=>?_
 refine wpL.enter hS5 ?_
 intro ops hops
 refine wpL.take (v:=.pointer (some ⟨hp,0,none⟩)) (SW.stab (RH.ok w hp _)) (fun _ h=>h.sb) (YB.load (p:=.pointer (some ⟨b2,0,none⟩)) _ _ rfl rfl rfl (fun w hw=>load_one Tryz.underlying41 rfl (hw.box 1 rfl) rfl)) ?_
 simp only [qP]
 refine wpL.take (v:=.bool false) (SW.stab (RH.ok w hp _)) (fun _ h=>h.sb) (YB.run (by nofun) (by nofun) rfl (by intro w _;go_simp)) ?_
 simp only [qP]
 intro W8 hS9
 refine hK7 _ _ ?_
 (try clear hns);clear hS5 hops ops
 try clear hK7 K7
 refine wpIn_cond_false rfl ?_
 refine wpIn_skip ?_
 refine hK6 _ _ ?_
 try clear hK6 K6
 refine wpIn_seq_k fun K10 hK10=>?_
 refine wpL.enter hS9 ?_
 intro ops hops
 refine wpL.take (v:=.pointer (some ⟨hp,0,none⟩)) (SW.stab (RH.ok w hp _)) (fun _ h=>h.sb) (YB.load (p:=.pointer (some ⟨b2,0,none⟩)) _ _ rfl rfl rfl (fun w hw=>load_one Tryz.underlying41 rfl (hw.box 1 rfl) rfl)) ?_
 simp only [qP]
 refine wpL.call FWide.wide (v:=V.agg ((h.make 3 [] 0 []).2)) (R':=(RH hp ((h.make 3 [] 0 []).1))) (args:=#[.pointer (some ⟨hp,0,none⟩),.int .i64 3,.string (bs []),.int .i64 0,.slice none 0 0]) _ 18 rfl (by rfl) (by rfl) (by simp only [List.map_toArray,List.map_cons,List.map_nil];rfl) (enters_of Tryz.func18 (by kernel_rfl) rfl) (fun wz G hG=>wr (make_any wz hp h G hG.res 3 [] 0 _ [] (Vx.nil _ _) (show (0:Nat)≤1048576 by decide))) ?_
 simp only [qP]
 refine wpL.alloc (RH.ok w hp _) (fun b=>.pointer (some ⟨b,0,none⟩)) (obj:=Obj.cells #[.int .i64 0,.int .i64 0,.string (bs [])] 23 (0,0)) rfl (by nofun) (by nofun) (by intro w;first | rfl | go_simp) ?_
 intro b11
 simp only [qP]
 refine wpL.store (RH.ok w hp _) _ _ _ 0 (off:=0) (arr':=#[.int .i64 (((h.make 3 [] 0 []).2).k),.int .i64 (((h.make 3 [] 0 []).2).n),.string (bs (((h.make 3 [] 0 []).2).s))]) (u:=V.agg ((h.make 3 [] 0 []).2)) (L':=[(b11,Obj.cells #[.int .i64 (((h.make 3 [] 0 []).2).k),.int .i64 (((h.make 3 [] 0 []).2).n),.string (bs (((h.make 3 [] 0 []).2).s))] 23 (0,0)),(b3,Obj.cells #[.int .i64 0,.int .i64 0,.string (bs [])] 23 (0,0)),(b2,Obj.cells #[.pointer (some ⟨hp,0,none⟩)] 41 (0,0))]) rfl (by rfl) (by rfl) (by rfl) (by rfl) (by kernel_rfl) (zB rfl) (by rfl) (by rfl) (by rfl) ?_
 simp only [qP]
 intro W12 hS13
 refine hK10 _ _ ?_
 (try clear hns);clear hS9 hops ops
 try clear hK10 K10
 refine wpIn_seq_k fun K14 hK14=>?_
 refine wpL.enter hS13 ?_
 intro ops hops
 refine wpL.alloc (RH.ok w hp _) (fun b=>.map (some b)) (obj:=Obj.map #[] 0) rfl (by nofun) (by nofun) (by intro w;first | rfl | go_simp) ?_
 intro b15
 simp only [qP]
 refine wpL.alloc (RH.ok w hp _) (fun b=>.pointer (some ⟨b,0,none⟩)) (obj:=Obj.cells #[.map none] 97 (0,0)) rfl (by nofun) (by nofun) (by intro w;first | rfl | go_simp) ?_
 intro b16
 simp only [qP]
 refine wpL.store (RH.ok w hp _) _ _ _ 0 (off:=0) (arr':=#[.map (some b15)]) (u:=.map (some b15)) (L':=[(b16,Obj.cells #[.map (some b15)] 97 (0,0)),(b15,Obj.map #[] 0),(b11,Obj.cells #[.int .i64 (((h.make 3 [] 0 []).2).k),.int .i64 (((h.make 3 [] 0 []).2).n),.string (bs (((h.make 3 [] 0 []).2).s))] 23 (0,0)),(b3,Obj.cells #[.int .i64 0,.int .i64 0,.string (bs [])] 23 (0,0)),(b2,Obj.cells #[.pointer (some ⟨hp,0,none⟩)] 41 (0,0))]) rfl (by rfl) (by rfl) (by rfl) (by rfl) (by kernel_rfl) (zB rfl) (by rfl) (by rfl) (by rfl) ?_
 simp only [qP]
 intro W17 hS18
 refine hK14 _ _ ?_
 (try clear hns);clear hS13 hops ops
 try clear hK14 K14
 refine wpIn_seq_k fun K19 hK19=>?_
 refine wpIn_seq_k fun K20 hK20=>?_
 refine wpL.enter hS18 ?_
 intro ops hops
 refine wpL.take (v:=.func (.func 227) #[] #[]) (SW.stab (RH.ok w hp _)) (fun _ h=>h.sb) (YB.call FWide.wide _ 97 rfl rfl rfl (args:=#[]) (by simp only [List.map_toArray,List.map_nil]) (enters_of Tryz.func97 (by kernel_rfl) rfl) (fun wz _=>excAll_bl wz)) ?_
 simp only [qP]
 intro W21 hS22
 refine hK20 _ _ ?_
 (try clear hns);clear hS18 hops ops
 try clear hK20 K20
 refine wpIn_block ?_
 have hS23:=SW.adopt hS22 1 rfl (by nofun)
 simp only [List.eraseIdx_cons_zero,List.eraseIdx_cons_succ] at hS23
 clear hS22
 rw [show (RM hp ((h.make 3 [] 0 []).1) b15 [])=RM hp (fA 0).1 b15 (fA 0).2 by rw [fA0]] at hS23
 refine range_sw (gf:=227) (lb:=#[]) rfl (enters_of Tryz.func227 (by kernel_rfl) rfl) exc_seq ?_ (fun k=>(RM hp ((fA k).1) b15 ((fA k).2))) (w0:=w) (F0:=F) (O:=[]) (L:=[(b16,Obj.cells #[.map (some b15)] 97 (0,0)),(b11,Obj.cells #[.int .i64 (((h.make 3 [] 0 []).2).k),.int .i64 (((h.make 3 [] 0 []).2).n),.string (bs (((h.make 3 [] 0 []).2).s))] 23 (0,0)),(b3,Obj.cells #[.int .i64 0,.int .i64 0,.string (bs [])] 23 (0,0)),(b2,Obj.cells #[.pointer (some ⟨hp,0,none⟩)] 41 (0,0))]) (X:=[]) ?_ ?_ hS23 ?_ ?_
 ·exact fun x hx=>by obtain ⟨f,-,rfl⟩:=List.mem_map.1 hx;rfl
 ·exact fun k=>(RM.ok w hp _ _ _)
 ·exact fun k F' W' hA=>hg.keep hA.st.size (hA.st.block 0 (by have:=hg.2.2;omega) h0) (hA.st.block 2 hg.2.2 h2)
 ·rintro l24 k x25 F26 A27 K28 hx29 hA30 hl31 hK32
  obtain ⟨f,hf,rfl⟩:∃ f,excF[k]?=some f∧x25=#[.string (bs (excN f)),.string (bs (excB f))]:=by
   unfold excArgs at hx29;rw [List.getElem?_map] at hx29
   cases hf:excF[k]? with
   | none=>rw [hf] at hx29;cases hx29
   | some f=>rw [hf] at hx29;exact ⟨f,rfl,(Option.some.inj hx29).symm⟩
  have HK:=zH hK32;have HA:=zH hA30
  clear hK32 hA30 hx29
  clear hS23
  gi_wp2
  refine HK.out _ _ (by first | exact Bl.refl _ | (repeat (first | exact qA _ | assumption | refine qB ?_ _ | refine qC ?_ | refine qD ?_ _ | refine qE ?_ _ (by simp<;>omega) _))) ?_
  intro Wb33 _ _ hB34
  clear HK HA
  have hS35:SW (RM hp ((fA k).1) b15 ((fA k).2)) Wb33 F26 [(b16,Obj.cells #[.map (some b15)] 97 (0,0)),(b11,Obj.cells #[.int .i64 (((h.make 3 [] 0 []).2).k),.int .i64 (((h.make 3 [] 0 []).2).n),.string (bs (((h.make 3 [] 0 []).2).s))] 23 (0,0)),(b3,Obj.cells #[.int .i64 0,.int .i64 0,.string (bs [])] 23 (0,0)),(b2,Obj.cells #[.pointer (some ⟨hp,0,none⟩)] 41 (0,0))] [] [] Wb33:=SW.rebase hB34 ((RM.ok Wb33 hp _ _ _))
  clear hB34
  refine wpIn_block ?_
  refine wpIn_seq_k fun K36 hK36=>?_
  refine wpL.enter hS35 ?_
  intro ops hops
  refine wpL.take (v:=.slice none 0 0) (SW.stab (RM.ok Wb33 hp _ _ _)) (fun _ h=>h.sb) (YB.assign _ rfl rfl rfl) ?_
  simp only [qP]
  intro W37 hS38
  refine hK36 _ _ ?_
  (try clear hns);clear hS35 hops ops
  try clear hK36 K36
  refine wpIn_seq_k fun K39 hK39=>?_
  refine wpIn_seq_k fun K40 hK40=>?_
  refine wpL.enter hS38 ?_
  intro ops hops
  refine wpL.take (v:=.string (bs (excB f))) (SW.stab (RM.ok Wb33 hp _ _ _)) (fun _ h=>h.sb) (YB.move _ rfl rfl rfl) ?_
  simp only [qP]
  refine wpL.take (v:=.bool (!decide ((excB f)=[]))) (SW.stab (RM.ok Wb33 hp _ _ _)) (fun _ h=>h.sb) (YB.bin_neqS _ _ _ _ rfl rfl rfl rfl) ?_
  simp only [qP]
  intro W41 hS42
  refine hK40 _ _ ?_
  (try clear hns);clear hS38 hops ops
  try clear hK40 K40
  rcases Bool.eq_false_or_eq_true (decide ((excB f)=[])) with hc43 | hc43
  ·refine wpIn_cond_false (by show Value.bool (!decide ((excB f)=[]))=_;rw [hc43];try rfl) ?_
   refine wpIn_skip ?_
   refine hK39 _ _ ?_
   try clear hK39 K39
   refine wpS.enter (B:=(SB (fun _ _=>True) Wb33 F26 [(b16,Obj.cells #[.map (some b15)] 97 (0,0)),(b11,Obj.cells #[.int .i64 (((h.make 3 [] 0 []).2).k),.int .i64 (((h.make 3 [] 0 []).2).n),.string (bs (((h.make 3 [] 0 []).2).s))] 23 (0,0)),(b3,Obj.cells #[.int .i64 0,.int .i64 0,.string (bs [])] 23 (0,0)),(b2,Obj.cells #[.pointer (some ⟨hp,0,none⟩)] 41 (0,0))] [] [])) 11 (by kernel_rfl) (by kernel_rfl) hS42 ?_
   intro ops hops
   have hns:Region.noSelect ops=true:=by rw [hops];kernel_rfl
   refine wpS.takeP (i:=1) (v:=.string (bs (excN f))) (by subst hops;simp only [zG];try rfl) hns (by rw [hops];kernel_rfl) (by rw [hops];kernel_rfl) (by intro _ _ _ h;exact h) (YB.move _ (by rfl) (by rfl) (by rfl)) ?_
   simp only [qP]
   refine wpS.takeP (i:=3) (v:=.string (bs (excN f))) (by subst hops;simp only [zG];try rfl) hns (by rw [hops];kernel_rfl) (by rw [hops];kernel_rfl) (by intro _ _ _ h;exact h) (YB.move _ (by rfl) (by rfl) (by rfl)) ?_
   simp only [qP]
   refine wpS.takeP (i:=4) (v:=.slice none 0 0) (by subst hops;simp only [zG];try rfl) hns (by rw [hops];kernel_rfl) (by rw [hops];kernel_rfl) (by intro _ _ _ h;exact h) (YB.move _ (by rfl) (by rfl) (by rfl)) ?_
   simp only [qP]
   refine wpS.take (i:=0) (v:=.map (some b15)) (T':=[]) (by subst hops;simp only [zG];try rfl) hns (by rw [hops];kernel_rfl) (by rw [hops];kernel_rfl) (by intro _ _ _ h;exact h) (by subst hops;kernel_rfl) (YB.load (p:=.pointer (some ⟨b16,0,none⟩)) _ _ (by rfl) (by rfl) (by rfl) (fun w hw=>load_one Tryz.underlying97 rfl (hw.obox 0 rfl) rfl)) ?_
   simp only [qP]
   refine wpS.take (i:=2) (v:=.pointer (some ⟨hp,0,none⟩)) (T':=[0]) (by subst hops;simp only [zG];try rfl) hns (by rw [hops];kernel_rfl) (by rw [hops];kernel_rfl) (by intro _ _ _ h;exact h) (by subst hops;kernel_rfl) (YB.load (p:=.pointer (some ⟨b2,0,none⟩)) _ _ (by rfl) (by rfl) (by rfl) (fun w hw=>load_one Tryz.underlying41 rfl (hw.obox 3 rfl) rfl)) ?_
   simp only [qP]
   refine wpS.take (i:=5) (v:=V.agg ((h.make 3 [] 0 []).2)) (T':=[2,0]) (by subst hops;simp only [zG];try rfl) hns (by rw [hops];kernel_rfl) (by rw [hops];kernel_rfl) (by intro _ _ _ h;exact h) (by subst hops;kernel_rfl) (YB.load (p:=.pointer (some ⟨b11,0,none⟩)) _ _ (by rfl) (by rfl) (by rfl) (fun w hw=>load_whole Tryz.underlying23 rfl (by kernel_rfl) (hw.obox 1 rfl))) ?_
   simp only [qP]
   refine wpS.call (FWide.round l24) (i:=6) (T':=[0]) (v:=.tuple #[V.agg ((Hp.classO ((fA k).1) (excN f) [] ((h.make 3 [] 0 []).2)).2.1),Exc.agg ((Hp.classO ((fA k).1) (excN f) [] ((h.make 3 [] 0 []).2)).2.2)]) (R':=(RM hp ((Hp.classO ((fA k).1) (excN f) [] ((h.make 3 [] 0 []).2)).1) b15 ((fA k).2))) (args:=#[.pointer (some ⟨hp,0,none⟩),.string (bs (excN f)),.slice none 0 0,V.agg ((h.make 3 [] 0 []).2)]) _ 98 (by subst hops;simp only [zG];try rfl) (by rw [hops];kernel_rfl) (Good.noRes (RM.ok Wb33 hp _ _ _) [] rfl rfl) (by subst hops;kernel_rfl) (by rfl) (by rfl) (by rfl) (by simp only [List.map_toArray,List.map_cons,List.map_nil];rfl) (enters_of Tryz.func98 (by kernel_rfl) rfl) (fun wz G hG=>RM.wr hG.res (fun Fh hm=>classO_any wz hp ((fA k).1) Fh hm.1 (excN f) _ _ [] ((h.make 3 [] 0 []).2) (Vx.nil _ _) (show (0:Nat)≤1048576 by decide) (hokc k f hf [] (by unfold bootBases;first | exact if_pos (of_decide_eq_true hc43) | exact if_neg (of_decide_eq_false hc43))).1 (hokc k f hf [] (by unfold bootBases;first | exact if_pos (of_decide_eq_true hc43) | exact if_neg (of_decide_eq_false hc43))).2.1 (hokc k f hf [] (by unfold bootBases;first | exact if_pos (of_decide_eq_true hc43) | exact if_neg (of_decide_eq_false hc43))).2.2)) ?_
   simp only [qP]
   refine wpS.takeP (i:=7) (v:=.tuple #[V.agg ((Hp.classO ((fA k).1) (excN f) [] ((h.make 3 [] 0 []).2)).2.1),Exc.agg ((Hp.classO ((fA k).1) (excN f) [] ((h.make 3 [] 0 []).2)).2.2)]) (by subst hops;simp only [zG];try rfl) hns (by rw [hops];kernel_rfl) (by rw [hops];kernel_rfl) (by intro _ _ _ h;exact h) (YB.move _ (by rfl) (by rfl) (by rfl)) ?_
   simp only [qP]
   refine wpS.takeP (i:=8) (v:=V.agg ((Hp.classO ((fA k).1) (excN f) [] ((h.make 3 [] 0 []).2)).2.1)) (by subst hops;simp only [zG];try rfl) hns (by rw [hops];kernel_rfl) (by rw [hops];kernel_rfl) (by intro _ _ _ h;exact h) (YB.extract (vs:=#[V.agg ((Hp.classO ((fA k).1) (excN f) [] ((h.make 3 [] 0 []).2)).2.1),Exc.agg ((Hp.classO ((fA k).1) (excN f) [] ((h.make 3 [] 0 []).2)).2.2)]) _ _ (by rfl) (by rfl) (by rfl) (by rfl)) ?_
   simp only [qP]
   refine wpS.takeP (i:=9) (v:=Exc.agg ((Hp.classO ((fA k).1) (excN f) [] ((h.make 3 [] 0 []).2)).2.2)) (by subst hops;simp only [zG];try rfl) hns (by rw [hops];kernel_rfl) (by rw [hops];kernel_rfl) (by intro _ _ _ h;exact h) (YB.extract (vs:=#[V.agg ((Hp.classO ((fA k).1) (excN f) [] ((h.make 3 [] 0 []).2)).2.1),Exc.agg ((Hp.classO ((fA k).1) (excN f) [] ((h.make 3 [] 0 []).2)).2.2)]) _ _ (by rfl) (by rfl) (by rfl) (by rfl)) ?_
   simp only [qP]
   refine wpS.mapPut (R:=(RM hp ((Hp.classO ((fA k).1) (excN f) [] ((h.make 3 [] 0 []).2)).1) b15 ((fA k).2))) (R':=(RM hp ((Hp.classO ((fA k).1) (excN f) [] ((h.make 3 [] 0 []).2)).1) b15 (put ((fA k).2) (excN f) ((Hp.classO ((fA k).1) (excN f) [] ((h.make 3 [] 0 []).2)).2.1)))) (i:=10) (T':=[]) _ _ _ (by subst hops;simp only [zG];try rfl) (by rw [hops];kernel_rfl) (Good.noRes (RM.ok Wb33 hp _ _ _) [] rfl rfl) (by subst hops;kernel_rfl) (by rfl) b15 (by rfl) (by rfl) (by rfl) (by rfl) (fun wz G hG=>RM.put hG.res) ?_
   simp only [qP]
   refine wpS.done ?_ ?_ ?_ _
   ·rw [hops];kernel_rfl
   ·exact (Good.nil (RM.ok Wb33 hp _ _ _))
   intro W44 hS45
   show RStep _ _ _ _
   rw [show ((fA (k + 1)).1)=((Hp.classO ((fA k).1) (excN f) [] ((h.make 3 [] 0 []).2)).1) from (by rw [fAs k f hf];simp only [bootStep,bootBases];first | rw [if_pos (of_decide_eq_true hc43)] | rw [if_neg (of_decide_eq_false hc43)])]
   rw [show ((fA (k + 1)).2)=(put ((fA k).2) (excN f) ((Hp.classO ((fA k).1) (excN f) [] ((h.make 3 [] 0 []).2)).2.1)) from (by rw [fAs k f hf];simp only [bootStep,bootBases];first | rw [if_pos (of_decide_eq_true hc43)] | rw [if_neg (of_decide_eq_false hc43)])]
   exact hS45.fin
  ·refine wpIn_cond_true (by show Value.bool (!decide ((excB f)=[]))=_;rw [hc43];try rfl) ?_
   refine wpL.enter hS42 ?_
   intro ops hops
   refine wpL.take (v:=.map (some b15)) (SW.stab (RM.ok Wb33 hp _ _ _)) (fun _ h=>h.sb) (YB.load (p:=.pointer (some ⟨b16,0,none⟩)) _ _ rfl rfl rfl (fun w hw=>load_one Tryz.underlying97 rfl (hw.obox 0 rfl) rfl)) ?_
   simp only [qP]
   refine wpL.take (v:=.string (bs (excB f))) (SW.stab (RM.ok Wb33 hp _ _ _)) (fun _ h=>h.sb) (YB.move _ rfl rfl rfl) ?_
   simp only [qP]
   refine wpL.take (v:=V.agg ((get ((fA k).2) (excB f)).getD V.nil)) (SW.stab (RM.ok Wb33 hp _ _ _)) (fun _ h=>h.sb) (YB.look _ _ _ false rfl rfl rfl rfl (fun wz hw=>hw.elim fun G hG=>hG.res.look (key:=(excB f)))) ?_
   simp only [qP]
   refine wpL.alloc (RM.ok Wb33 hp _ _ _) (fun b=>.slice (some ⟨b,0,none⟩) 1 1) (obj:=Obj.cells #[.int .i64 (((get ((fA k).2) (excB f)).getD V.nil).k),.int .i64 (((get ((fA k).2) (excB f)).getD V.nil).n),.string (bs (((get ((fA k).2) (excB f)).getD V.nil).s))] 23 (0,0)) rfl (by nofun) (by nofun) (by intro w;first | rfl | go_simp) ?_
   intro b46
   simp only [qP]
   refine wpL.take (v:=.slice (some ⟨b46,0,none⟩) 1 1) (SW.stab (RM.ok Wb33 hp _ _ _)) (fun _ h=>h.sb) (YB.assign _ rfl rfl rfl) ?_
   simp only [qP]
   intro W47 hS48
   refine hK39 _ _ ?_
   (try clear hns);clear hS42 hops ops
   try clear hK39 K39
   refine wpS.enter (B:=(SB (fun _ _=>True) Wb33 F26 [(b16,Obj.cells #[.map (some b15)] 97 (0,0)),(b11,Obj.cells #[.int .i64 (((h.make 3 [] 0 []).2).k),.int .i64 (((h.make 3 [] 0 []).2).n),.string (bs (((h.make 3 [] 0 []).2).s))] 23 (0,0)),(b3,Obj.cells #[.int .i64 0,.int .i64 0,.string (bs [])] 23 (0,0)),(b2,Obj.cells #[.pointer (some ⟨hp,0,none⟩)] 41 (0,0))] [(b46,Obj.cells #[.int .i64 (((get ((fA k).2) (excB f)).getD V.nil).k),.int .i64 (((get ((fA k).2) (excB f)).getD V.nil).n),.string (bs (((get ((fA k).2) (excB f)).getD V.nil).s))] 23 (0,0))] [])) 11 (by kernel_rfl) (by kernel_rfl) hS48 ?_
   intro ops hops
   have hns:Region.noSelect ops=true:=by rw [hops];kernel_rfl
   refine wpS.takeP (i:=1) (v:=.string (bs (excN f))) (by subst hops;simp only [zG];try rfl) hns (by rw [hops];kernel_rfl) (by rw [hops];kernel_rfl) (by intro _ _ _ h;exact h) (YB.move _ (by rfl) (by rfl) (by rfl)) ?_
   simp only [qP]
   refine wpS.takeP (i:=3) (v:=.string (bs (excN f))) (by subst hops;simp only [zG];try rfl) hns (by rw [hops];kernel_rfl) (by rw [hops];kernel_rfl) (by intro _ _ _ h;exact h) (YB.move _ (by rfl) (by rfl) (by rfl)) ?_
   simp only [qP]
   refine wpS.takeP (i:=4) (v:=.slice (some ⟨b46,0,none⟩) 1 1) (by subst hops;simp only [zG];try rfl) hns (by rw [hops];kernel_rfl) (by rw [hops];kernel_rfl) (by intro _ _ _ h;exact h) (YB.move _ (by rfl) (by rfl) (by rfl)) ?_
   simp only [qP]
   refine wpS.take (i:=0) (v:=.map (some b15)) (T':=[]) (by subst hops;simp only [zG];try rfl) hns (by rw [hops];kernel_rfl) (by rw [hops];kernel_rfl) (by intro _ _ _ h;exact h) (by subst hops;kernel_rfl) (YB.load (p:=.pointer (some ⟨b16,0,none⟩)) _ _ (by rfl) (by rfl) (by rfl) (fun w hw=>load_one Tryz.underlying97 rfl (hw.obox 0 rfl) rfl)) ?_
   simp only [qP]
   refine wpS.take (i:=2) (v:=.pointer (some ⟨hp,0,none⟩)) (T':=[0]) (by subst hops;simp only [zG];try rfl) hns (by rw [hops];kernel_rfl) (by rw [hops];kernel_rfl) (by intro _ _ _ h;exact h) (by subst hops;kernel_rfl) (YB.load (p:=.pointer (some ⟨b2,0,none⟩)) _ _ (by rfl) (by rfl) (by rfl) (fun w hw=>load_one Tryz.underlying41 rfl (hw.obox 3 rfl) rfl)) ?_
   simp only [qP]
   refine wpS.take (i:=5) (v:=V.agg ((h.make 3 [] 0 []).2)) (T':=[2,0]) (by subst hops;simp only [zG];try rfl) hns (by rw [hops];kernel_rfl) (by rw [hops];kernel_rfl) (by intro _ _ _ h;exact h) (by subst hops;kernel_rfl) (YB.load (p:=.pointer (some ⟨b11,0,none⟩)) _ _ (by rfl) (by rfl) (by rfl) (fun w hw=>load_whole Tryz.underlying23 rfl (by kernel_rfl) (hw.obox 1 rfl))) ?_
   simp only [qP]
   refine wpS.call (FWide.round l24) (i:=6) (T':=[0]) (v:=.tuple #[V.agg ((Hp.classO ((fA k).1) (excN f) ([((get ((fA k).2) (excB f)).getD V.nil)]) ((h.make 3 [] 0 []).2)).2.1),Exc.agg ((Hp.classO ((fA k).1) (excN f) ([((get ((fA k).2) (excB f)).getD V.nil)]) ((h.make 3 [] 0 []).2)).2.2)]) (R':=(RM hp ((Hp.classO ((fA k).1) (excN f) ([((get ((fA k).2) (excB f)).getD V.nil)]) ((h.make 3 [] 0 []).2)).1) b15 ((fA k).2))) (args:=#[.pointer (some ⟨hp,0,none⟩),.string (bs (excN f)),.slice (some ⟨b46,0,none⟩) 1 1,V.agg ((h.make 3 [] 0 []).2)]) _ 98 (by subst hops;simp only [zG];try rfl) (by rw [hops];kernel_rfl) (Good.noRes (RM.ok Wb33 hp _ _ _) [0] rfl rfl) (by subst hops;kernel_rfl) (by rfl) (by rfl) (by rfl) (by simp only [List.map_toArray,List.map_cons,List.map_nil];rfl) (enters_of Tryz.func98 (by kernel_rfl) rfl) (fun wz G hG=>RM.wr hG.res (fun Fh hm=>classO_any wz hp ((fA k).1) Fh hm.1 (excN f) _ _ ([((get ((fA k).2) (excB f)).getD V.nil)]) ((h.make 3 [] 0 []).2) (Vx.sub (RMF.sub hm) (Vx.box (hG.boxIn 0 rfl).1 rfl (hG.boxIn 0 rfl).2 rfl (by first | decide | (simp only [List.length_cons,List.length_nil];decide)))) (show (1:Nat)≤1048576 by decide) (hokc k f hf ([((get ((fA k).2) (excB f)).getD V.nil)]) (by unfold bootBases;first | exact if_pos (of_decide_eq_true hc43) | exact if_neg (of_decide_eq_false hc43))).1 (hokc k f hf ([((get ((fA k).2) (excB f)).getD V.nil)]) (by unfold bootBases;first | exact if_pos (of_decide_eq_true hc43) | exact if_neg (of_decide_eq_false hc43))).2.1 (hokc k f hf ([((get ((fA k).2) (excB f)).getD V.nil)]) (by unfold bootBases;first | exact if_pos (of_decide_eq_true hc43) | exact if_neg (of_decide_eq_false hc43))).2.2)) ?_
   simp only [qP]
   refine wpS.takeP (i:=7) (v:=.tuple #[V.agg ((Hp.classO ((fA k).1) (excN f) ([((get ((fA k).2) (excB f)).getD V.nil)]) ((h.make 3 [] 0 []).2)).2.1),Exc.agg ((Hp.classO ((fA k).1) (excN f) ([((get ((fA k).2) (excB f)).getD V.nil)]) ((h.make 3 [] 0 []).2)).2.2)]) (by subst hops;simp only [zG];try rfl) hns (by rw [hops];kernel_rfl) (by rw [hops];kernel_rfl) (by intro _ _ _ h;exact h) (YB.move _ (by rfl) (by rfl) (by rfl)) ?_
   simp only [qP]
   refine wpS.takeP (i:=8) (v:=V.agg ((Hp.classO ((fA k).1) (excN f) ([((get ((fA k).2) (excB f)).getD V.nil)]) ((h.make 3 [] 0 []).2)).2.1)) (by subst hops;simp only [zG];try rfl) hns (by rw [hops];kernel_rfl) (by rw [hops];kernel_rfl) (by intro _ _ _ h;exact h) (YB.extract (vs:=#[V.agg ((Hp.classO ((fA k).1) (excN f) ([((get ((fA k).2) (excB f)).getD V.nil)]) ((h.make 3 [] 0 []).2)).2.1),Exc.agg ((Hp.classO ((fA k).1) (excN f) ([((get ((fA k).2) (excB f)).getD V.nil)]) ((h.make 3 [] 0 []).2)).2.2)]) _ _ (by rfl) (by rfl) (by rfl) (by rfl)) ?_
   simp only [qP]
   refine wpS.takeP (i:=9) (v:=Exc.agg ((Hp.classO ((fA k).1) (excN f) ([((get ((fA k).2) (excB f)).getD V.nil)]) ((h.make 3 [] 0 []).2)).2.2)) (by subst hops;simp only [zG];try rfl) hns (by rw [hops];kernel_rfl) (by rw [hops];kernel_rfl) (by intro _ _ _ h;exact h) (YB.extract (vs:=#[V.agg ((Hp.classO ((fA k).1) (excN f) ([((get ((fA k).2) (excB f)).getD V.nil)]) ((h.make 3 [] 0 []).2)).2.1),Exc.agg ((Hp.classO ((fA k).1) (excN f) ([((get ((fA k).2) (excB f)).getD V.nil)]) ((h.make 3 [] 0 []).2)).2.2)]) _ _ (by rfl) (by rfl) (by rfl) (by rfl)) ?_
   simp only [qP]
   refine wpS.mapPut (R:=(RM hp ((Hp.classO ((fA k).1) (excN f) ([((get ((fA k).2) (excB f)).getD V.nil)]) ((h.make 3 [] 0 []).2)).1) b15 ((fA k).2))) (R':=(RM hp ((Hp.classO ((fA k).1) (excN f) ([((get ((fA k).2) (excB f)).getD V.nil)]) ((h.make 3 [] 0 []).2)).1) b15 (put ((fA k).2) (excN f) ((Hp.classO ((fA k).1) (excN f) ([((get ((fA k).2) (excB f)).getD V.nil)]) ((h.make 3 [] 0 []).2)).2.1)))) (i:=10) (T':=[]) _ _ _ (by subst hops;simp only [zG];try rfl) (by rw [hops];kernel_rfl) (Good.noRes (RM.ok Wb33 hp _ _ _) [0] rfl rfl) (by subst hops;kernel_rfl) (by rfl) b15 (by rfl) (by rfl) (by rfl) (by rfl) (fun wz G hG=>RM.put hG.res) ?_
   simp only [qP]
   refine wpS.done ?_ ?_ ?_ _
   ·rw [hops];kernel_rfl
   ·exact (Good.nil (RM.ok Wb33 hp _ _ _))
   intro W49 hS50
   show RStep _ _ _ _
   rw [show ((fA (k + 1)).1)=((Hp.classO ((fA k).1) (excN f) ([((get ((fA k).2) (excB f)).getD V.nil)]) ((h.make 3 [] 0 []).2)).1) from (by rw [fAs k f hf];simp only [bootStep,bootBases];first | rw [if_pos (of_decide_eq_true hc43)] | rw [if_neg (of_decide_eq_false hc43)])]
   rw [show ((fA (k + 1)).2)=(put ((fA k).2) (excN f) ((Hp.classO ((fA k).1) (excN f) ([((get ((fA k).2) (excB f)).getD V.nil)]) ((h.make 3 [] 0 []).2)).2.1)) from (by rw [fAs k f hf];simp only [bootStep,bootBases];first | rw [if_pos (of_decide_eq_true hc43)] | rw [if_neg (of_decide_eq_false hc43)])]
   exact hS50.fin
 intro D51 W52 hS53
 try clear hS23
 replace hS53:SW (RM hp ((fA 17).1) b15 ((fA 17).2)) w F [] [(D51,Obj.deferred (some [])),(b16,Obj.cells #[.map (some b15)] 97 (0,0)),(b11,Obj.cells #[.int .i64 (((h.make 3 [] 0 []).2).k),.int .i64 (((h.make 3 [] 0 []).2).n),.string (bs (((h.make 3 [] 0 []).2).s))] 23 (0,0)),(b3,Obj.cells #[.int .i64 0,.int .i64 0,.string (bs [])] 23 (0,0)),(b2,Obj.cells #[.pointer (some ⟨hp,0,none⟩)] 41 (0,0))] [] W52:=hS53
 refine hK19 _ _ ?_
 try clear hK19 K19
 refine wpIn_seq_k fun K54 hK54=>?_
 refine wpL.enter hS53 ?_
 intro ops hops
 refine wpL.take (v:=.pointer (some ⟨hp,0,none⟩)) (SW.stab (RM.ok w hp _ _ _)) (fun _ h=>h.sb) (YB.load (p:=.pointer (some ⟨b2,0,none⟩)) _ _ rfl rfl rfl (fun w hw=>load_one Tryz.underlying41 rfl (hw.box 4 rfl) rfl)) ?_
 simp only [qP]
 refine wpL.call FWide.wide (v:=V.agg (((fA 17).1.make 12 [101,120,99,101,112,116,105,111,110,115] 0 []).2)) (R':=(RM hp (((fA 17).1.make 12 [101,120,99,101,112,116,105,111,110,115] 0 []).1) b15 ((fA 17).2))) (args:=#[.pointer (some ⟨hp,0,none⟩),.int .i64 12,.string (bs [101,120,99,101,112,116,105,111,110,115]),.int .i64 0,.slice none 0 0]) _ 18 rfl (by rfl) (by rfl) (by simp only [List.map_toArray,List.map_cons,List.map_nil];rfl) (enters_of Tryz.func18 (by kernel_rfl) rfl) (fun wz G hG=>RM.wr hG.res (fun Fh hm=>make_any wz hp ((fA 17).1) Fh hm.1 12 [101,120,99,101,112,116,105,111,110,115] 0 _ [] (Vx.nil _ _) (show (0:Nat)≤1048576 by decide))) ?_
 simp only [qP]
 refine wpL.alloc (RM.ok w hp _ _ _) (fun b=>.pointer (some ⟨b,0,none⟩)) (obj:=Obj.cells #[.int .i64 0,.int .i64 0,.string (bs [])] 23 (0,0)) rfl (by nofun) (by nofun) (by intro w;first | rfl | go_simp) ?_
 intro b55
 simp only [qP]
 refine wpL.store (RM.ok w hp _ _ _) _ _ _ 0 (off:=0) (arr':=#[.int .i64 ((((fA 17).1.make 12 [101,120,99,101,112,116,105,111,110,115] 0 []).2).k),.int .i64 ((((fA 17).1.make 12 [101,120,99,101,112,116,105,111,110,115] 0 []).2).n),.string (bs ((((fA 17).1.make 12 [101,120,99,101,112,116,105,111,110,115] 0 []).2).s))]) (u:=V.agg (((fA 17).1.make 12 [101,120,99,101,112,116,105,111,110,115] 0 []).2)) (L':=[(b55,Obj.cells #[.int .i64 ((((fA 17).1.make 12 [101,120,99,101,112,116,105,111,110,115] 0 []).2).k),.int .i64 ((((fA 17).1.make 12 [101,120,99,101,112,116,105,111,110,115] 0 []).2).n),.string (bs ((((fA 17).1.make 12 [101,120,99,101,112,116,105,111,110,115] 0 []).2).s))] 23 (0,0)),(D51,Obj.deferred (some [])),(b16,Obj.cells #[.map (some b15)] 97 (0,0)),(b11,Obj.cells #[.int .i64 (((h.make 3 [] 0 []).2).k),.int .i64 (((h.make 3 [] 0 []).2).n),.string (bs (((h.make 3 [] 0 []).2).s))] 23 (0,0)),(b3,Obj.cells #[.int .i64 0,.int .i64 0,.string (bs [])] 23 (0,0)),(b2,Obj.cells #[.pointer (some ⟨hp,0,none⟩)] 41 (0,0))]) rfl (by rfl) (by rfl) (by rfl) (by rfl) (by kernel_rfl) (zB rfl) (by rfl) (by rfl) (by rfl) ?_
 simp only [qP]
 intro W56 hS57
 refine hK54 _ _ ?_
 (try clear hns);clear hS53 hops ops
 try clear hK54 K54
 refine wpIn_seq_k fun K58 hK58=>?_
 refine wpIn_seq_k fun K59 hK59=>?_
 refine wpL.enter hS57 ?_
 intro ops hops
 refine wpL.take (v:=.func (.func 227) #[] #[]) (SW.stab (RM.ok w hp _ _ _)) (fun _ h=>h.sb) (YB.call FWide.wide _ 97 rfl rfl rfl (args:=#[]) (by simp only [List.map_toArray,List.map_nil]) (enters_of Tryz.func97 (by kernel_rfl) rfl) (fun wz _=>excAll_bl wz)) ?_
 simp only [qP]
 intro W60 hS61
 refine hK59 _ _ ?_
 (try clear hns);clear hS57 hops ops
 try clear hK59 K59
 refine wpIn_block ?_
 rw [show (RM hp (((fA 17).1.make 12 [101,120,99,101,112,116,105,111,110,115] 0 []).1) b15 ((fA 17).2))=RM hp (fB 0) b15 (fA 17).2 by rw [fB0]] at hS61
 refine range_sw (gf:=227) (lb:=#[]) rfl (enters_of Tryz.func227 (by kernel_rfl) rfl) exc_seq ?_ (fun k=>(RM hp (fB k) b15 ((fA 17).2))) (w0:=w) (F0:=F) (O:=[]) (L:=[(b55,Obj.cells #[.int .i64 ((((fA 17).1.make 12 [101,120,99,101,112,116,105,111,110,115] 0 []).2).k),.int .i64 ((((fA 17).1.make 12 [101,120,99,101,112,116,105,111,110,115] 0 []).2).n),.string (bs ((((fA 17).1.make 12 [101,120,99,101,112,116,105,111,110,115] 0 []).2).s))] 23 (0,0)),(D51,Obj.deferred (some [])),(b16,Obj.cells #[.map (some b15)] 97 (0,0)),(b11,Obj.cells #[.int .i64 (((h.make 3 [] 0 []).2).k),.int .i64 (((h.make 3 [] 0 []).2).n),.string (bs (((h.make 3 [] 0 []).2).s))] 23 (0,0)),(b3,Obj.cells #[.int .i64 0,.int .i64 0,.string (bs [])] 23 (0,0)),(b2,Obj.cells #[.pointer (some ⟨hp,0,none⟩)] 41 (0,0))]) (X:=[]) ?_ ?_ hS61 ?_ ?_
 ·exact fun x hx=>by obtain ⟨f,-,rfl⟩:=List.mem_map.1 hx;rfl
 ·exact fun k=>(RM.ok w hp _ _ _)
 ·exact fun k F' W' hA=>hg.keep hA.st.size (hA.st.block 0 (by have:=hg.2.2;omega) h0) (hA.st.block 2 hg.2.2 h2)
 ·rintro l62 k x63 F64 A65 K66 hx67 hA68 hl69 hK70
  obtain ⟨f,hf,rfl⟩:∃ f,excF[k]?=some f∧x63=#[.string (bs (excN f)),.string (bs (excB f))]:=by
   unfold excArgs at hx67;rw [List.getElem?_map] at hx67
   cases hf:excF[k]? with
   | none=>rw [hf] at hx67;cases hx67
   | some f=>rw [hf] at hx67;exact ⟨f,rfl,(Option.some.inj hx67).symm⟩
  have HK:=zH hK70;have HA:=zH hA68
  clear hK70 hA68 hx67
  clear hS61
  gi_wp2
  refine HK.out _ _ (by first | exact Bl.refl _ | (repeat (first | exact qA _ | assumption | refine qB ?_ _ | refine qC ?_ | refine qD ?_ _ | refine qE ?_ _ (by simp<;>omega) _))) ?_
  intro Wb71 _ _ hB72
  clear HK HA
  have hS73:SW (RM hp (fB k) b15 ((fA 17).2)) Wb71 F64 [(b55,Obj.cells #[.int .i64 ((((fA 17).1.make 12 [101,120,99,101,112,116,105,111,110,115] 0 []).2).k),.int .i64 ((((fA 17).1.make 12 [101,120,99,101,112,116,105,111,110,115] 0 []).2).n),.string (bs ((((fA 17).1.make 12 [101,120,99,101,112,116,105,111,110,115] 0 []).2).s))] 23 (0,0)),(D51,Obj.deferred (some [])),(b16,Obj.cells #[.map (some b15)] 97 (0,0)),(b11,Obj.cells #[.int .i64 (((h.make 3 [] 0 []).2).k),.int .i64 (((h.make 3 [] 0 []).2).n),.string (bs (((h.make 3 [] 0 []).2).s))] 23 (0,0)),(b3,Obj.cells #[.int .i64 0,.int .i64 0,.string (bs [])] 23 (0,0)),(b2,Obj.cells #[.pointer (some ⟨hp,0,none⟩)] 41 (0,0))] [] [] Wb71:=SW.rebase hB72 ((RM.ok Wb71 hp _ _ _))
  clear hB72
  refine wpIn_block ?_
  refine wpS.enter (B:=(SB (RM hp (fB k) b15 ((fA 17).2)) Wb71 F64 [(b55,Obj.cells #[.int .i64 ((((fA 17).1.make 12 [101,120,99,101,112,116,105,111,110,115] 0 []).2).k),.int .i64 ((((fA 17).1.make 12 [101,120,99,101,112,116,105,111,110,115] 0 []).2).n),.string (bs ((((fA 17).1.make 12 [101,120,99,101,112,116,105,111,110,115] 0 []).2).s))] 23 (0,0)),(D51,Obj.deferred (some [])),(b16,Obj.cells #[.map (some b15)] 97 (0,0)),(b11,Obj.cells #[.int .i64 (((h.make 3 [] 0 []).2).k),.int .i64 (((h.make 3 [] 0 []).2).n),.string (bs (((h.make 3 [] 0 []).2).s))] 23 (0,0)),(b3,Obj.cells #[.int .i64 0,.int .i64 0,.string (bs [])] 23 (0,0)),(b2,Obj.cells #[.pointer (some ⟨hp,0,none⟩)] 41 (0,0))] [] [])) 8 (by kernel_rfl) (by kernel_rfl) hS73 ?_
  intro ops hops
  have hns:Region.noSelect ops=true:=by rw [hops];kernel_rfl
  refine wpS.takeP (i:=2) (v:=.string (bs (excN f))) (by subst hops;simp only [zG];try rfl) hns (by rw [hops];kernel_rfl) (by rw [hops];kernel_rfl) (by intro _ _ _ h;exact h) (YB.move _ (by rfl) (by rfl) (by rfl)) ?_
  simp only [qP]
  refine wpS.takeP (i:=3) (v:=V.agg (ftText (excN f))) (by subst hops;simp only [zG];try rfl) hns (by rw [hops];kernel_rfl) (by rw [hops];kernel_rfl) (by intro _ _ _ h;exact h) (YB.call (FWide.round l62) _ 100 (by rfl) (by rfl) (by rfl) (args:=#[.string (bs (excN f))]) (by simp only [List.map_toArray,List.map_cons,List.map_nil];rfl) (enters_of Tryz.func100 (by kernel_rfl) rfl) (fun wz _=>ftText_any wz (excN f))) ?_
  simp only [qP]
  refine wpS.takeP (i:=5) (v:=.string (bs (excN f))) (by subst hops;simp only [zG];try rfl) hns (by rw [hops];kernel_rfl) (by rw [hops];kernel_rfl) (by intro _ _ _ h;exact h) (YB.move _ (by rfl) (by rfl) (by rfl)) ?_
  simp only [qP]
  refine wpS.take (i:=0) (v:=.pointer (some ⟨hp,0,none⟩)) (T':=[]) (by subst hops;simp only [zG];try rfl) hns (by rw [hops];kernel_rfl) (by rw [hops];kernel_rfl) (by intro _ _ _ h;exact h) (by subst hops;kernel_rfl) (YB.load (p:=.pointer (some ⟨b2,0,none⟩)) _ _ (by rfl) (by rfl) (by rfl) (fun w hw=>load_one Tryz.underlying41 rfl (hw.obox 5 rfl) rfl)) ?_
  simp only [qP]
  refine wpS.take (i:=1) (v:=V.agg (((fA 17).1.make 12 [101,120,99,101,112,116,105,111,110,115] 0 []).2)) (T':=[0]) (by subst hops;simp only [zG];try rfl) hns (by rw [hops];kernel_rfl) (by rw [hops];kernel_rfl) (by intro _ _ _ h;exact h) (by subst hops;kernel_rfl) (YB.load (p:=.pointer (some ⟨b55,0,none⟩)) _ _ (by rfl) (by rfl) (by rfl) (fun w hw=>load_whole Tryz.underlying23 rfl (by kernel_rfl) (hw.obox 0 rfl))) ?_
  simp only [qP]
  refine wpS.take (i:=4) (v:=.map (some b15)) (T':=[1,0]) (by subst hops;simp only [zG];try rfl) hns (by rw [hops];kernel_rfl) (by rw [hops];kernel_rfl) (by intro _ _ _ h;exact h) (by subst hops;kernel_rfl) (YB.load (p:=.pointer (some ⟨b16,0,none⟩)) _ _ (by rfl) (by rfl) (by rfl) (fun w hw=>load_one Tryz.underlying97 rfl (hw.obox 2 rfl) rfl)) ?_
  simp only [qP]
  refine wpS.take (i:=6) (v:=V.agg ((get ((fA 17).2) (excN f)).getD V.nil)) (T':=[1,0]) (by subst hops;simp only [zG];try rfl) hns (by rw [hops];kernel_rfl) (by rw [hops];kernel_rfl) (by intro _ _ _ h;exact h) (by subst hops;kernel_rfl) (YB.look _ _ _ false (by rfl) (by rfl) (by rfl) (by rfl) (fun wz hw=>hw.elim fun G hG=>hG.res.look (key:=(excN f)))) ?_
  simp only [qP]
  refine wpS.call (FWide.round l62) (i:=7) (T':=[]) (v:=.bool (((fB k).put (((fA 17).1.make 12 [101,120,99,101,112,116,105,111,110,115] 0 []).2) (ftText (excN f)) ((get ((fA 17).2) (excN f)).getD V.nil)).2)) (R':=(RM hp (((fB k).put (((fA 17).1.make 12 [101,120,99,101,112,116,105,111,110,115] 0 []).2) (ftText (excN f)) ((get ((fA 17).2) (excN f)).getD V.nil)).1) b15 ((fA 17).2))) (args:=#[.pointer (some ⟨hp,0,none⟩),V.agg (((fA 17).1.make 12 [101,120,99,101,112,116,105,111,110,115] 0 []).2),V.agg (ftText (excN f)),V.agg ((get ((fA 17).2) (excN f)).getD V.nil)]) _ 99 (by subst hops;simp only [zG];try rfl) (by rw [hops];kernel_rfl) (Good.some_ (RM.ok Wb71 hp _ _ _) 0 [] rfl rfl rfl) (by subst hops;kernel_rfl) (by rfl) (by rfl) (by rfl) (by simp only [List.map_toArray,List.map_cons,List.map_nil];rfl) (enters_of Tryz.func99 (by kernel_rfl) rfl) (fun wz G hG=>RM.wr hG.res (fun Fh hm=>putH_any wz hp (fB k) Fh hm.1 (((fA 17).1.make 12 [101,120,99,101,112,116,105,111,110,115] 0 []).2) (ftText (excN f)) ((get ((fA 17).2) (excN f)).getD V.nil))) ?_
  simp only [qP]
  refine wpS.done ?_ ?_ ?_ _
  ·rw [hops];kernel_rfl
  ·exact (Good.nil (RM.ok Wb71 hp _ _ _))
  intro W74 hS75
  show RStep _ _ _ _
  rw [show (fB (k + 1))=(((fB k).put (((fA 17).1.make 12 [101,120,99,101,112,116,105,111,110,115] 0 []).2) (ftText (excN f)) ((get ((fA 17).2) (excN f)).getD V.nil)).1) from (by rw [fBs k f hf];rfl)]
  exact hS75.fin
 intro D76 W77 hS78
 try clear hS61
 replace hS78:SW (RM hp (fB 17) b15 ((fA 17).2)) w F [] [(D76,Obj.deferred (some [])),(b55,Obj.cells #[.int .i64 ((((fA 17).1.make 12 [101,120,99,101,112,116,105,111,110,115] 0 []).2).k),.int .i64 ((((fA 17).1.make 12 [101,120,99,101,112,116,105,111,110,115] 0 []).2).n),.string (bs ((((fA 17).1.make 12 [101,120,99,101,112,116,105,111,110,115] 0 []).2).s))] 23 (0,0)),(D51,Obj.deferred (some [])),(b16,Obj.cells #[.map (some b15)] 97 (0,0)),(b11,Obj.cells #[.int .i64 (((h.make 3 [] 0 []).2).k),.int .i64 (((h.make 3 [] 0 []).2).n),.string (bs (((h.make 3 [] 0 []).2).s))] 23 (0,0)),(b3,Obj.cells #[.int .i64 0,.int .i64 0,.string (bs [])] 23 (0,0)),(b2,Obj.cells #[.pointer (some ⟨hp,0,none⟩)] 41 (0,0))] [] W77:=hS78
 refine hK58 _ _ ?_
 try clear hK58 K58
 refine wpIn_seq_k fun K79 hK79=>?_
 refine wpL.enter hS78 ?_
 intro ops hops
 refine wpL.take (v:=.pointer (some ⟨hp,0,none⟩)) (SW.stab (RM.ok w hp _ _ _)) (fun _ h=>h.sb) (YB.load (p:=.pointer (some ⟨b2,0,none⟩)) _ _ rfl rfl rfl (fun w hw=>load_one Tryz.underlying41 rfl (hw.box 6 rfl) rfl)) ?_
 simp only [qP]
 refine wpL.take (v:=.pointer (some ⟨b11,1,none⟩)) (SW.stab (RM.ok w hp _ _ _)) (fun _ h=>h.sb) (YB.run (by nofun) (by nofun) rfl (by intro w _;go_simp)) ?_
 simp only [qP]
 refine wpL.take (v:=.int .i64 (((h.make 3 [] 0 []).2).n)) (SW.stab (RM.ok w hp _ _ _)) (fun _ h=>h.sb) (YB.load (p:=.pointer (some ⟨b11,1,none⟩)) _ _ rfl rfl rfl (fun w hw=>load_one Tryz.underlying2 rfl (hw.box 4 rfl) rfl)) ?_
 simp only [qP]
 refine wpL.alloc (RM.ok w hp _ _ _) (fun b=>.slice (some ⟨b,0,none⟩) 1 1) (obj:=Obj.cells #[.int .i64 (((h.make 3 [] 0 []).2).n)] 2 (0,0)) rfl (by nofun) (by nofun) (by intro w;first | rfl | go_simp) ?_
 intro b80
 simp only [qP]
 refine wpL.call FWide.wide (v:=.int .i64 (((fB 17).free ([((h.make 3 [] 0 []).2).n])).2)) (R':=(RM hp (((fB 17).free ([((h.make 3 [] 0 []).2).n])).1) b15 ((fA 17).2))) (args:=#[.pointer (some ⟨hp,0,none⟩),.slice (some ⟨b80,0,none⟩) 1 1]) _ 101 rfl (by rfl) (by rfl) (by simp only [List.map_toArray,List.map_cons,List.map_nil];rfl) (enters_of Tryz.func101 (by kernel_rfl) rfl) (fun wz G hG=>RM.wr hG.res (fun Fh hm=>free_any wz hp (fB 17) Fh hm.1 _ ([((h.make 3 [] 0 []).2).n]) (Ix.sub (RMF.sub hm) (Ix.box (hG.boxIn 0 rfl).1 rfl (hG.boxIn 0 rfl).2 rfl (by decide))) (by simp [big]))) ?_
 simp only [qP]
 intro W81 hS82
 refine hK79 _ _ ?_
 (try clear hns);clear hS78 hops ops
 try clear hK79 K79
 refine wpIn_seq_k fun K83 hK83=>?_
 refine wpL.enter hS82 ?_
 intro ops hops
 refine wpL.take (v:=V.agg (((fA 17).1.make 12 [101,120,99,101,112,116,105,111,110,115] 0 []).2)) (SW.stab (RM.ok w hp _ _ _)) (fun _ h=>h.sb) (YB.load (p:=.pointer (some ⟨b55,0,none⟩)) _ _ rfl rfl rfl (fun w hw=>load_whole Tryz.underlying23 rfl (by kernel_rfl) (hw.box 2 rfl))) ?_
 simp only [qP]
 refine wpL.store (RM.ok w hp _ _ _) _ _ _ 6 (off:=0) (arr':=#[.int .i64 ((((fA 17).1.make 12 [101,120,99,101,112,116,105,111,110,115] 0 []).2).k),.int .i64 ((((fA 17).1.make 12 [101,120,99,101,112,116,105,111,110,115] 0 []).2).n),.string (bs ((((fA 17).1.make 12 [101,120,99,101,112,116,105,111,110,115] 0 []).2).s))]) (u:=V.agg (((fA 17).1.make 12 [101,120,99,101,112,116,105,111,110,115] 0 []).2)) (L':=[(b80,Obj.cells #[.int .i64 (((h.make 3 [] 0 []).2).n)] 2 (0,0)),(D76,Obj.deferred (some [])),(b55,Obj.cells #[.int .i64 ((((fA 17).1.make 12 [101,120,99,101,112,116,105,111,110,115] 0 []).2).k),.int .i64 ((((fA 17).1.make 12 [101,120,99,101,112,116,105,111,110,115] 0 []).2).n),.string (bs ((((fA 17).1.make 12 [101,120,99,101,112,116,105,111,110,115] 0 []).2).s))] 23 (0,0)),(D51,Obj.deferred (some [])),(b16,Obj.cells #[.map (some b15)] 97 (0,0)),(b11,Obj.cells #[.int .i64 (((h.make 3 [] 0 []).2).k),.int .i64 (((h.make 3 [] 0 []).2).n),.string (bs (((h.make 3 [] 0 []).2).s))] 23 (0,0)),(b3,Obj.cells #[.int .i64 ((((fA 17).1.make 12 [101,120,99,101,112,116,105,111,110,115] 0 []).2).k),.int .i64 ((((fA 17).1.make 12 [101,120,99,101,112,116,105,111,110,115] 0 []).2).n),.string (bs ((((fA 17).1.make 12 [101,120,99,101,112,116,105,111,110,115] 0 []).2).s))] 23 (0,0)),(b2,Obj.cells #[.pointer (some ⟨hp,0,none⟩)] 41 (0,0))]) rfl (by rfl) (by rfl) (by rfl) (by rfl) (by kernel_rfl) (zB rfl) (by rfl) (by rfl) (by rfl) ?_
 simp only [qP]
 intro W84 hS85
 refine hK83 _ _ ?_
 (try clear hns);clear hS82 hops ops
 try clear hK83 K83
 refine wpIn_ret ?_
 have hS86:=SW.letGo hS85
 clear hS85
 show LeavesInM _ _ _ _ _ _ _ _ _
 refine leaves_take (RH.ok w hp _) hS86 1 rfl ?_
 intro W87 hS88
 clear hS86
 simp only [List.set_cons_zero,List.set_cons_succ] at hS88
 refine leaves_take (RH.ok w hp _) hS88 3 rfl ?_
 intro W89 hS90
 clear hS88
 simp only [List.set_cons_zero,List.set_cons_succ] at hS90
 refine ⟨V.agg (((fA 17).1.make 12 [101,120,99,101,112,116,105,111,110,115] 0 []).2),results1 Tryz.results17 (⟨_,rfl,load_whole Tryz.underlying23 rfl (by kernel_rfl) (hS90.sb.box 6 rfl)⟩),?_⟩
 exact ⟨rfl,hS90.fin⟩
end
end Go.Proofs.YtbbokgpklihkoaaGreatDoor.W
namespace Go.Proofs.YtbbokgpklihkoaaGreatDoor.W.E
section
set_option maxRecDepth 100000
open Go.RowKit
def bootSp (h:Hp):Hp × V:=h.make 3 [] 0 []
def bootAt (h:Hp) (k:Nat):Hp × List (List UInt8 × V):=(excF.take k).foldl (bootStep (bootSp h).2) ((bootSp h).1,[])
def bootM (h:Hp):Hp × V:=(bootAt h 17).1.make 12 [101,120,99,101,112,116,105,111,110,115] 0 []
def bootBt (h:Hp) (k:Nat):Hp:=(excF.take k).foldl (bootPut (bootM h).2 (bootAt h 17).2) (bootM h).1
def hpBoot (h:Hp):Hp × V:=(((bootBt h 17).free [(bootSp h).2.n]).1,(bootM h).2)
theorem take_succ' {α:Type} {l:List α} {k:Nat} {f:α} (hf:l[k]?=some f):l.take (k + 1)=l.take k++[f]:=by rw [List.take_add_one,hf];rfl
theorem bootAt_succ (h:Hp) {k:Nat} {f:List UInt8} (hf:excF[k]?=some f):bootAt h (k + 1)=bootStep (bootSp h).2 (bootAt h k) f:=by
 unfold bootAt;rw [take_succ' hf,List.foldl_append];rfl
theorem bootBt_succ (h:Hp) {k:Nat} {f:List UInt8} (hf:excF[k]?=some f):bootBt h (k + 1)=bootPut (bootM h).2 (bootAt h 17).2 (bootBt h k) f:=by
 unfold bootBt;rw [take_succ' hf,List.foldl_append];rfl
def clsB (h:Hp) (l:List V):Bool:=Nat.blt l.length 1048576 && Nat.ble (total (h.ordersO l) + l.length) 1048576 && match orderF 0 (numbersO l) (h.ordersO l) with
 | some q=>!Nat.beq q.length 0 && Nat.ble q.length 1048576
 | none=>true
theorem clsB_ok {h:Hp} {l:List V} (hb:clsB h l=true):ClsOk h l:=by
 unfold clsB at hb
 simp only [Bool.and_eq_true] at hb
 obtain ⟨⟨h1,h2⟩,h3⟩:=hb
 refine ⟨by simpa [Nat.blt_eq] using h1,zB h2,fun q hq=>?_⟩
 rw [hq] at h3
 simp only [Bool.and_eq_true,Bool.not_eq_true'] at h3
 refine ⟨fun hn=>?_,zB h3.2⟩
 subst hn
 exact absurd h3.1 (by decide)
def copyB (cl sp:V):Hp→List V→Bool
 | _,[]=>true
 | h,k :: t=>smallB h 2 && copyB cl sp (h.put cl k (h.get sp k).1).1 t
theorem RefsOk.copy (cl sp:V):∀ {l:List V} {h:Hp},RefsOk h→copyB cl sp h l=true→RefsOk (copyK cl sp h l)
 | [],h,r,_=>r
 | k :: t,h,r,hb=>by
  simp only [copyB,Bool.and_eq_true] at hb
  show RefsOk (copyK cl sp (h.put cl k (h.get sp k).1).1 t)
  exact RefsOk.copy cl sp (r.put hb.1) hb.2
def clsRB (h:Hp) (nm:List UInt8) (bases:List V) (sp:V):Bool :=
 match orderF 0 (numbersO bases) (h.ordersO bases) with
 | some l=>let m:=h.make 5 nm 0 ((l.drop 1).map fun n=>vref n);smallB h ((l.drop 1).map fun n=>vref n).length && (get h.all (wrap64 (h.last + 1))).isNone && copyB m.2 sp m.1 (m.1.keys sp)
 | none=>true
theorem RefsOk.classO {h:Hp} (r:RefsOk h) {nm:List UInt8} {bases:List V} {sp:V} (hb:clsRB h nm bases sp=true):RefsOk (h.classO nm bases sp).1:=by
 unfold clsRB at hb
 unfold Hp.classO
 split
 ·split
  ·rename_i l hl
   rw [hl] at hb
   simp only [Bool.and_eq_true] at hb
   split
   ·exact RefsOk.copy _ _ (r.make hb.1.1 hb.1.2) hb.2
   ·exact r
  ·exact r
 ·exact r
theorem RefsOk.drop {h:Hp} (r:RefsOk h) (n:Int) (hs:smallB h 2=true):RefsOk (h.drop n).1:=by
 have hs:=small_ok hs
 unfold Hp.drop
 split
 ·rename_i o ho
  intro m
  show hold (-1) h.refs o.values m=occ m ((W.del h.all n).flatMap fun p=>p.2.values)
  rw [r.down (by omega) (fun m=>by have:=occ_in ho m;exact this) m,r m]
  have:=occ_vals_del ho m
  show (occ m (h.all.flatMap fun p=>p.2.values):Int) - _=_
  omega
 ·exact r
theorem RefsOk.free1 {h:Hp} (r:RefsOk h) (n:Int) (hs:smallB h 2=true):RefsOk (h.free [n]).1:=by
 unfold Hp.free
 split
 ·rename_i o ho
  simp only [Hp.free]
  exact r.drop n hs
 ·exact r
def bootChk:Bool :=
 (List.range 17).all fun k=>match excF[k]? with
  | some f=>clsB (bootAt hp0 k).1 (bootBases (bootAt hp0 k).2 f) && clsRB (bootAt hp0 k).1 (excN f) (bootBases (bootAt hp0 k).2 f) (bootSp hp0).2 && smallB (bootBt hp0 k) 2
  | none=>true
theorem boot_chk:(bootChk && smallB hp0 0 && smallB (bootAt hp0 17).1 0 && (get (bootAt hp0 17).1.all (wrap64 ((bootAt hp0 17).1.last + 1))).isNone && smallB (bootBt hp0 17) 2 && Nat.beq excF.length 17)=true:=by kernel_rfl
theorem boot_facts:(∀ k f,excF[k]?=some f→clsB (bootAt hp0 k).1 (bootBases (bootAt hp0 k).2 f)=true∧clsRB (bootAt hp0 k).1 (excN f) (bootBases (bootAt hp0 k).2 f) (bootSp hp0).2=true∧smallB (bootBt hp0 k) 2=true)∧smallB hp0 0=true∧smallB (bootAt hp0 17).1 0=true∧(get (bootAt hp0 17).1.all (wrap64 ((bootAt hp0 17).1.last + 1))).isNone=true∧smallB (bootBt hp0 17) 2=true:=by
 have h:=boot_chk
 simp only [Bool.and_eq_true] at h
 obtain ⟨⟨⟨⟨⟨h1,h2⟩,h3⟩,h4⟩,h5⟩,h6⟩:=h
 refine ⟨fun k f hf=>?_,h2,h3,h4,h5⟩
 have hk:k < 17:=by have:=(List.getElem?_eq_some_iff.1 hf).1;rw [Nat.eq_of_beq_eq_true h6] at this;exact this
 have:=List.all_eq_true.1 h1 k (List.mem_range.2 hk)
 rw [hf] at this
 simp only [Bool.and_eq_true] at this
 exact ⟨this.1.1,this.1.2,this.2⟩
theorem bootAt_ok:∀ k,k≤17→RefsOk (bootAt hp0 k).1
 | 0,_=>RefsOk.make (fun n=>rfl) boot_facts.2.1 (by kernel_rfl)
 | k + 1,hk=>by
  have ih:=bootAt_ok k (by omega)
  have hlen:excF.length=17:=by decide
  obtain ⟨f,hf⟩:∃ f,excF[k]?=some f:=⟨_,List.getElem?_eq_getElem (by omega)⟩
  rw [bootAt_succ hp0 hf]
  exact RefsOk.classO ih (boot_facts.1 k f hf).2.1
theorem bootBt_ok:∀ k,k≤17→RefsOk (bootBt hp0 k)
 | 0,_=>RefsOk.make (bootAt_ok 17 (Nat.le_refl _)) boot_facts.2.2.1 boot_facts.2.2.2.1
 | k + 1,hk=>by
  have ih:=bootBt_ok k (by omega)
  have hlen:excF.length=17:=by decide
  obtain ⟨f,hf⟩:∃ f,excF[k]?=some f:=⟨_,List.getElem?_eq_getElem (by omega)⟩
  rw [bootBt_succ hp0 hf]
  exact RefsOk.put ih (boot_facts.1 k f hf).2.2
theorem hpBoot_ok:RefsOk (hpBoot hp0).1:=RefsOk.free1 (bootBt_ok 17 (Nat.le_refl _)) _ boot_facts.2.2.2.2
def xBoot:ExtF:=fun vs st=>match vs with
 | [p]=>match heapAt st.x p with
  | some h=>match h.all with
   | []=>bif decide (h.last=0) then some ((hpBoot hp0).2.sv,st.wh (hnum st.x) (hpBoot hp0).1) else none
   | _=>none
  | none=>none
 | _=>none
theorem xBoot_ok:ExtOk 17 xBoot:=fun w0 vs st v st' h=>by
 unfold xBoot at h
 split at h
 ·rename_i p
  split at h
  ·rename_i hh hq
   split at h
   ·rename_i hall
    cases hl:decide (hh.last=0) with
    | false=>rw [hl] at h;cases h
    | true =>
     rw [hl,cond_true] at h;cases h
     have hl0:=of_decide_eq_true hl
     clear hl
     refine ext_writer (heapAt_x hq) fun e w F us c F0 hR hvs k=>?_
     obtain ⟨u,us,rfl,hu,hvs⟩:=vrs_cons hvs
     cases vrs_nil hvs
     obtain ⟨b',c',F1,g1,k',rfl⟩:=heapAt_ok hq hR hu
     rw [heapAt_x hq] at g1;cases g1
     obtain ⟨z1,a1⟩:=k.at_;obtain ⟨z2,a2⟩:=k'.at_
     rw [a1] at a2;cases a2
     have he:hh=hp0:=by
      have hr:hh.refs=fun _=>0:=by
       funext n
       rw [k.ok n]
       show ((occ n (hh.all.flatMap fun p=>p.2.values):Nat):Int)=0
       rw [hall];rfl
      obtain ⟨x1,x2,x3⟩:=hh
      simp only at hall hr hl0
      subst hall hr hl0
      rfl
     subst he
     refine ⟨hpBoot_ok,_,V.sv_ok _ _,?_⟩
     exact boot_seq w c hp0 F0 k.hr hR.gl k.n0 k.n2 (bootAt hp0) (bootBt hp0) rfl (fun k f hf=>bootAt_succ hp0 hf) rfl (fun k f hf=>bootBt_succ hp0 hf) (fun k f hf l hl=>by subst hl;exact clsB_ok (boot_facts.1 k f hf).1)
   ·cases h
  ·cases h
 ·cases h
end
section
set_option maxRecDepth 100000
open Go.RowKit
def excSV (x:Exc):SV:=.agg [.str x.name,.int .i64 x.arg.k,.int .i64 x.arg.n,.str x.arg.s,.bool x.has]
def xClass:ExtF:=fun vs st=>match vs with
 | [p,a0,a1,a2]=>(match heapAt st.x p with | some h=>(match toS a0 with | some x0=>(match rowV st.m a1 with | some x1=>(match toV a2 with | some x2=>(bif clsB h x1 && clsRB h x0 x1 x2 then some (.tup [(h.classO x0 x1 x2).2.1.sv,excSV (h.classO x0 x1 x2).2.2],st.wh (hnum st.x) (h.classO x0 x1 x2).1) else none) | none=>none) | none=>none) | none=>none) | none=>none)
 | _=>none
end
end Go.Proofs.YtbbokgpklihkoaaGreatDoor.W.E
namespace Go.Proofs.YtbbokgpklihkoaaGreatDoor.W
section
open Go Go.RowKit
end
end Go.Proofs.YtbbokgpklihkoaaGreatDoor.W
namespace Go.Proofs.YtbbokgpklihkoaaGreatDoor.W.E
section
set_option maxRecDepth 100000
open Go.RowKit
def toRows (m:T SB):List SV→Option (List (List V))
 | []=>some []
 | x :: t=>match rowV m x with
  | some l=>match toRows m t with
   | some ls=>some (l :: ls)
   | none=>none
  | none=>none
def rowsV (m:T SB) (x:SV):Option (List (List V)) :=
 match x with
 | .sl b off n esz _=>match m.get b with
  | some (.cells cs _ _ _)=>bif Nat.beq esz 1 && Nat.ble (off + n) cs.length && Nat.ble n 1000 && Nat.blt 0 n then toRows m ((cs.drop off).take n) else none
  | _=>none
 | _=>none
def xConc:ExtF:=fun vs st=>match vs with
 | [a0]=>(match rowsV st.m a0 with | some ls=>(bif Nat.blt st.nx TMax && Nat.ble ls.flatten.length 1048576 then some (st.row ls.flatten) else none) | none=>none)
 | _=>none
def xConcV:ExtF:=xConc
def xConcO:ExtF:=xConc
end
end Go.Proofs.YtbbokgpklihkoaaGreatDoor.W.E
