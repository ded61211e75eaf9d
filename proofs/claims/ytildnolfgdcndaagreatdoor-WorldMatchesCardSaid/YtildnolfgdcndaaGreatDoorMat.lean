/- Mat -/
import Derived.Test.YtildnolfgdcndaaGreatDoorPart19
import Derived.Test.YtildnolfgdcndaaGreatDoorPart23
import Derived.Test.YtildnolfgdcndaaGreatDoorPart28
import Derived.Test.YtildnolfgdcndaaGreatDoorPart12
set_option linter.unusedVariables false
set_option linter.unusedSimpArgs false
namespace Go.Proofs.YtildnolfgdcndaaGreatDoor.W
section
open Go Go.RowKit Go.Shelf
attribute [local go_sem] Oper.semAt_some
def Hp.ftClass (h:Hp) (bt:V) (nm:List UInt8):V × Bool :=
 if (h.get bt (ftText nm)).2=true then ((h.get bt (ftText nm)).1,decide ((h.kind ((h.get bt (ftText nm)).1))=5))
 else ((h.get bt (ftText nm)).1,false)
set_option maxRecDepth 100000 in
set_option maxHeartbeats 4000000 in
theorem ftClass_any (w:World) (hp:Nat) (h:Hp) (Fh:Foot) (r:HR w hp h Fh) (bt:V) (nm:List UInt8):Calls Tryz.prog 216 #[.pointer (some ⟨hp,0,none⟩),V.agg bt,.string (bs nm)] w fun e_ w'=>e_=.returned (.tuple #[V.agg (Hp.ftClass h bt nm).1,.bool (Hp.ftClass h bt nm).2])∧Bl w w':=by
 refine calls_of_wp Tryz.func216 rfl ?_
 simp only [Tryz.ntmps216,zS,Nat.reduceAdd,Nat.reduceSub]
 refine (wpIn_wide (n:=1)).1 ?_
 have hS:SW (RR w hp h Fh) w noF [] [] [] w:=SW.start (RR.ok w hp h Fh) (RR.start r) (by nofun) (by nofun)
 clear r
 refine wpIn_seq_k fun K1 hK1=>?_
 refine wpL.enter hS ?_
 intro ops hops
 refine wpL.alloc (RR.ok w hp h Fh) (fun b=>.pointer (some ⟨b,0,none⟩)) (obj:=Obj.cells #[.int .i64 bt.k,.int .i64 bt.n,.string (bs bt.s)] 28 (0,0)) rfl (by nofun) (by nofun) (by intro w;go_simp) ?_
 intro b2
 simp only [qP]
 refine wpL.alloc (RR.ok w hp h Fh) (fun b=>.pointer (some ⟨b,0,none⟩)) (obj:=Obj.cells #[.int .i64 0,.int .i64 0,.string (bs [])] 28 (0,0)) rfl (by nofun) (by nofun) (by intro w;go_simp) ?_
 intro b3
 simp only [qP]
 refine wpL.take (v:=.bool false) (SW.stab (RR.ok w hp h Fh)) (fun _ h=>h.sb) (YB.assign _ rfl rfl rfl) ?_
 simp only [qP]
 intro W4 hS5
 refine hK1 _ _ ?_
 (try clear hns);clear hS hops ops
 try clear hK1 K1
 refine wpIn_seq_k fun K6 hK6=>?_
 refine wpS.enter (B:=(SB (RR w hp h Fh) w noF [] [(b3,Obj.cells #[.int .i64 0,.int .i64 0,.string (bs [])] 28 (0,0)),(b2,Obj.cells #[.int .i64 bt.k,.int .i64 bt.n,.string (bs bt.s)] 28 (0,0))] [])) 11 (by kernel_rfl) (by kernel_rfl) hS5 ?_
 intro ops hops
 have hns:Region.noSelect ops=true:=by rw [hops];kernel_rfl
 refine wpS.takeP (i:=0) (v:=.pointer (some ⟨hp,0,none⟩)) (by subst hops;simp only [zG];try rfl) hns (by rw [hops];kernel_rfl) (by rw [hops];kernel_rfl) (by intro _ _ _ h;exact h) (YB.move _ (by rfl) (by rfl) (by rfl)) ?_
 simp only [qP]
 refine wpS.takeP (i:=2) (v:=.string (bs nm)) (by subst hops;simp only [zG];try rfl) hns (by rw [hops];kernel_rfl) (by rw [hops];kernel_rfl) (by intro _ _ _ h;exact h) (YB.move _ (by rfl) (by rfl) (by rfl)) ?_
 simp only [qP]
 refine wpS.takeP (i:=3) (v:=V.agg (ftText nm)) (by subst hops;simp only [zG];try rfl) hns (by rw [hops];kernel_rfl) (by rw [hops];kernel_rfl) (by intro _ _ _ h;exact h) (YB.call FWide.wide _ 85 (by rfl) (by rfl) (by rfl) (args:=#[.string (bs nm)]) (by simp only [List.map_toArray,List.map_cons,List.map_nil];rfl) (enters_of Tryz.func85 (by kernel_rfl) rfl) (fun wz _=>ftText_any wz nm)) ?_
 simp only [qP]
 refine wpS.take (i:=1) (v:=V.agg bt) (T':=[]) (by subst hops;simp only [zG];try rfl) hns (by rw [hops];kernel_rfl) (by rw [hops];kernel_rfl) (by intro _ _ _ h;exact h) (by subst hops;kernel_rfl) (YB.load (p:=.pointer (some ⟨b2,0,none⟩)) _ _ (by rfl) (by rfl) (by rfl) (fun w hw=>load_whole Tryz.underlying28 rfl (by kernel_rfl) (hw.box 1 rfl))) ?_
 simp only [qP]
 refine wpS.take (i:=4) (v:=.tuple #[V.agg ((h.get bt (ftText nm)).1),.bool ((h.get bt (ftText nm)).2)]) (T':=[]) (by subst hops;simp only [zG];try rfl) hns (by rw [hops];kernel_rfl) (by rw [hops];kernel_rfl) (by intro _ _ _ h;exact h) (by subst hops;kernel_rfl) (YB.call FWide.wide _ 73 (by rfl) (by rfl) (by rfl) (args:=#[.pointer (some ⟨hp,0,none⟩),V.agg bt,V.agg (ftText nm)]) (by simp only [List.map_toArray,List.map_cons,List.map_nil];rfl) (enters_of Tryz.func73 (by kernel_rfl) rfl) (fun wz hw=>hw.elim fun G hG=>getH_any wz hp h Fh hG.res.2.1 bt (ftText nm))) ?_
 simp only [qP]
 refine wpS.take (i:=5) (v:=.tuple #[V.agg ((h.get bt (ftText nm)).1),.bool ((h.get bt (ftText nm)).2)]) (T':=[]) (by subst hops;simp only [zG];try rfl) hns (by rw [hops];kernel_rfl) (by rw [hops];kernel_rfl) (by intro _ _ _ h;exact h) (by subst hops;kernel_rfl) (YB.move _ (by rfl) (by rfl) (by rfl)) ?_
 simp only [qP]
 refine wpS.take (i:=6) (v:=V.agg ((h.get bt (ftText nm)).1)) (T':=[]) (by subst hops;simp only [zG];try rfl) hns (by rw [hops];kernel_rfl) (by rw [hops];kernel_rfl) (by intro _ _ _ h;exact h) (by subst hops;kernel_rfl) (YB.extract (vs:=#[V.agg ((h.get bt (ftText nm)).1),.bool ((h.get bt (ftText nm)).2)]) _ _ (by rfl) (by rfl) (by rfl) (by rfl)) ?_
 simp only [qP]
 refine wpS.takeP (i:=7) (v:=.bool ((h.get bt (ftText nm)).2)) (by subst hops;simp only [zG];try rfl) hns (by rw [hops];kernel_rfl) (by rw [hops];kernel_rfl) (by intro _ _ _ h;exact h) (YB.extract (vs:=#[V.agg ((h.get bt (ftText nm)).1),.bool ((h.get bt (ftText nm)).2)]) _ _ (by rfl) (by rfl) (by rfl) (by rfl)) ?_
 simp only [qP]
 refine wpS.alloc (RR.ok w hp h Fh) (i:=8) (T':=[6]) (fun b=>.pointer (some ⟨b,0,none⟩)) (obj:=Obj.cells #[.int .i64 0,.int .i64 0,.string (bs [])] 28 (0,0)) (by subst hops;simp only [zG];try rfl) (by rw [hops];kernel_rfl) (Good.some_ (RR.ok w hp h Fh) 0 [0,1] rfl rfl rfl) (by subst hops;kernel_rfl) (by rfl) (by nofun) (by nofun) (by intro w;go_simp) ?_
 intro b7
 simp only [qP]
 refine wpS.store (RR.ok w hp h Fh) (i:=9) (T':=[]) _ _ _ 0 (off:=0) (arr':=#[.int .i64 (((h.get bt (ftText nm)).1).k),.int .i64 (((h.get bt (ftText nm)).1).n),.string (bs (((h.get bt (ftText nm)).1).s))]) (u:=V.agg ((h.get bt (ftText nm)).1)) (L':=[(b7,Obj.cells #[.int .i64 (((h.get bt (ftText nm)).1).k),.int .i64 (((h.get bt (ftText nm)).1).n),.string (bs (((h.get bt (ftText nm)).1).s))] 28 (0,0)),(b3,Obj.cells #[.int .i64 0,.int .i64 0,.string (bs [])] 28 (0,0)),(b2,Obj.cells #[.int .i64 bt.k,.int .i64 bt.n,.string (bs bt.s)] 28 (0,0))]) (by subst hops;simp only [zG];try rfl) (by rw [hops];kernel_rfl) (Good.some_ (RR.ok w hp h Fh) 0 [1,2] rfl rfl rfl) (by subst hops;kernel_rfl) (by rfl) (by rfl) (by rfl) (by rfl) (by rfl) (by kernel_rfl) (zB rfl) (by rfl) (by rfl) (by rfl) ?_
 simp only [qP]
 refine wpS.takeP (i:=10) (v:=.bool ((h.get bt (ftText nm)).2)) (by subst hops;simp only [zG];try rfl) hns (by rw [hops];kernel_rfl) (by rw [hops];kernel_rfl) (by intro _ _ _ h;exact h) (YB.assign _ (by rfl) (by rfl) (by rfl)) ?_
 simp only [qP]
 refine wpS.done ?_ ?_ ?_ _
 ·rw [hops];kernel_rfl
 ·exact (Good.nil (RR.ok w hp h Fh))
 intro W8 hS9
 refine hK6 _ _ ?_
 (try clear hns);clear hS5 hops ops
 try clear hK6 K6
 refine wpIn_seq_k fun K10 hK10=>?_
 refine wpS.enter (B:=(SB (RR w hp h Fh) w noF [] [(b7,Obj.cells #[.int .i64 (((h.get bt (ftText nm)).1).k),.int .i64 (((h.get bt (ftText nm)).1).n),.string (bs (((h.get bt (ftText nm)).1).s))] 28 (0,0)),(b2,Obj.cells #[.int .i64 bt.k,.int .i64 bt.n,.string (bs bt.s)] 28 (0,0))] [])) 10 (by kernel_rfl) (by kernel_rfl) hS9 ?_
 intro ops hops
 have hns:Region.noSelect ops=true:=by rw [hops];kernel_rfl
 refine wpS.takeP (i:=1) (v:=.bool ((h.get bt (ftText nm)).2)) (by subst hops;simp only [zG];try rfl) hns (by rw [hops];kernel_rfl) (by rw [hops];kernel_rfl) (by intro _ _ _ h;exact h) (YB.move _ (by rfl) (by rfl) (by rfl)) ?_
 simp only [qP]
 refine wpS.takeP (i:=2) (v:=.bool ((h.get bt (ftText nm)).2)) (by subst hops;simp only [zG];try rfl) hns (by rw [hops];kernel_rfl) (by rw [hops];kernel_rfl) (by intro _ _ _ h;exact h) (YB.move _ (by rfl) (by rfl) (by rfl)) ?_
 simp only [qP]
 refine wpS.take (i:=0) (v:=V.agg ((h.get bt (ftText nm)).1)) (T':=[]) (by subst hops;simp only [zG];try rfl) hns (by rw [hops];kernel_rfl) (by rw [hops];kernel_rfl) (by intro _ _ _ h;exact h) (by subst hops;kernel_rfl) (YB.load (p:=.pointer (some ⟨b7,0,none⟩)) _ _ (by rfl) (by rfl) (by rfl) (fun w hw=>load_whole Tryz.underlying28 rfl (by kernel_rfl) (hw.box 0 rfl))) ?_
 simp only [qP]
 rcases Bool.eq_false_or_eq_true ((h.get bt (ftText nm)).2) with hc11 | hc11
 ·simp only [hc11]
  refine wpS.takeP (i:=3) (v:=.pointer (some ⟨hp,0,none⟩)) (by subst hops;simp only [zG];try rfl) hns (by rw [hops];kernel_rfl) (by rw [hops];kernel_rfl) (by intro _ _ _ h;exact h) (YB.move _ (by rfl) (by rw [hops];rfl) (by rfl)) ?_
  simp only [qP]
  refine wpS.take (i:=4) (v:=V.agg ((h.get bt (ftText nm)).1)) (T':=[0]) (by subst hops;simp only [zG];try rfl) hns (by rw [hops];kernel_rfl) (by rw [hops];kernel_rfl) (by intro _ _ _ h;exact h) (by subst hops;kernel_rfl) (YB.load (p:=.pointer (some ⟨b7,0,none⟩)) _ _ (by rfl) (by rw [hops];rfl) (by rfl) (fun w hw=>load_whole Tryz.underlying28 rfl (by kernel_rfl) (hw.box 0 rfl))) ?_
  simp only [qP]
  refine wpS.take (i:=5) (v:=.int .i64 (h.kind ((h.get bt (ftText nm)).1))) (T':=[0]) (by subst hops;simp only [zG];try rfl) hns (by rw [hops];kernel_rfl) (by rw [hops];kernel_rfl) (by intro _ _ _ h;exact h) (by subst hops;kernel_rfl) (YB.call FWide.wide _ 76 (by rfl) (by rfl) (by rw [hops];rfl) (args:=#[.pointer (some ⟨hp,0,none⟩),V.agg ((h.get bt (ftText nm)).1)]) (by simp only [List.map_toArray,List.map_cons,List.map_nil];rfl) (enters_of Tryz.func76 (by kernel_rfl) rfl) (fun wz hw=>hw.elim fun G hG=>kind_any wz hp h Fh hG.res.2.1 ((h.get bt (ftText nm)).1))) ?_
  simp only [qP]
  refine wpS.take (i:=6) (v:=.bool (decide ((h.kind ((h.get bt (ftText nm)).1))=5))) (T':=[0]) (by subst hops;simp only [zG];try rfl) hns (by rw [hops];kernel_rfl) (by rw [hops];kernel_rfl) (by intro _ _ _ h;exact h) (by subst hops;kernel_rfl) (YB.bin_eql _ _ _ _ (by rfl) (by rw [hops];rfl) (by rfl) (by rfl)) ?_
  simp only [qP]
  refine wpS.take (i:=7) (v:=.bool (decide ((h.kind ((h.get bt (ftText nm)).1))=5))) (T':=[0]) (by subst hops;simp only [zG];try rfl) hns (by rw [hops];kernel_rfl) (by rw [hops];kernel_rfl) (by intro _ _ _ h;exact h) (by subst hops;kernel_rfl) (YB.run (by nofun) (by nofun) (by rfl) (by intro w _;go_simp)) ?_
  simp only [qP]
  refine wpS.store (RR.ok w hp h Fh) (i:=8) (T':=[7]) _ _ _ 1 (off:=0) (arr':=#[.int .i64 (((h.get bt (ftText nm)).1).k),.int .i64 (((h.get bt (ftText nm)).1).n),.string (bs (((h.get bt (ftText nm)).1).s))]) (u:=V.agg ((h.get bt (ftText nm)).1)) (L':=[(b7,Obj.cells #[.int .i64 (((h.get bt (ftText nm)).1).k),.int .i64 (((h.get bt (ftText nm)).1).n),.string (bs (((h.get bt (ftText nm)).1).s))] 28 (0,0)),(b3,Obj.cells #[.int .i64 (((h.get bt (ftText nm)).1).k),.int .i64 (((h.get bt (ftText nm)).1).n),.string (bs (((h.get bt (ftText nm)).1).s))] 28 (0,0)),(b2,Obj.cells #[.int .i64 bt.k,.int .i64 bt.n,.string (bs bt.s)] 28 (0,0))]) (by subst hops;simp only [zG];try rfl) (by rw [hops];kernel_rfl) (Good.some_ (RR.ok w hp h Fh) 0 [0,2] rfl rfl rfl) (by subst hops;kernel_rfl) (by rfl) (by rfl) (by rfl) (by rfl) (by rfl) (by kernel_rfl) (zB rfl) (by rfl) (by rfl) (by rfl) ?_
  simp only [qP]
  refine wpS.take (i:=9) (v:=.bool (decide ((h.kind ((h.get bt (ftText nm)).1))=5))) (T':=[]) (by subst hops;simp only [zG];try rfl) hns (by rw [hops];kernel_rfl) (by rw [hops];kernel_rfl) (by intro _ _ _ h;exact h) (by subst hops;kernel_rfl) (YB.assign _ (by rfl) (by rfl) (by rfl)) ?_
  simp only [qP]
  refine wpS.done ?_ ?_ ?_ _
  ·rw [hops];kernel_rfl
  ·exact (Good.some_ (RR.ok w hp h Fh) 0 [0,2] rfl rfl rfl)
  intro W12 hS13
  refine hK10 _ _ ?_
  (try clear hns);clear hS9 hops ops
  try clear hK10 K10
  refine wpIn_ret ?_
  refine bodyPost_ret (v:=.tuple #[V.agg ((h.get bt (ftText nm)).1),.bool (decide ((h.kind ((h.get bt (ftText nm)).1))=5))]) (results2 Tryz.results216 (⟨_,rfl,load_whole Tryz.underlying28 rfl (by kernel_rfl) (hS13.sb.box 1 rfl)⟩) (rfl)) rfl ?_
  have em:Hp.ftClass h bt nm=((h.get bt (ftText nm)).1,decide ((h.kind ((h.get bt (ftText nm)).1))=5)):=by simp only [Hp.ftClass,hc11,if_true,Bool.false_eq_true,if_false,Bool.not_true,Bool.not_false]
  rw [em]
  exact ⟨rfl,hS13.finBl⟩
 ·simp only [hc11]
  refine wpS.takeP (i:=3) (v:=undef) (by subst hops;simp only [zG];try rfl) hns (by rw [hops];kernel_rfl) (by rw [hops];kernel_rfl) (by intro _ _ _ h;exact h) (YB.pass FWide.wide (by rw [hops];rfl)) ?_
  simp only [qP]
  refine wpS.takeP (i:=4) (v:=undef) (by subst hops;simp only [zG];try rfl) hns (by rw [hops];kernel_rfl) (by rw [hops];kernel_rfl) (by intro _ _ _ h;exact h) (YB.pass FWide.wide (by rw [hops];rfl)) ?_
  simp only [qP]
  refine wpS.takeP (i:=5) (v:=undef) (by subst hops;simp only [zG];try rfl) hns (by rw [hops];kernel_rfl) (by rw [hops];kernel_rfl) (by intro _ _ _ h;exact h) (YB.pass FWide.wide (by rw [hops];rfl)) ?_
  simp only [qP]
  refine wpS.takeP (i:=6) (v:=undef) (by subst hops;simp only [zG];try rfl) hns (by rw [hops];kernel_rfl) (by rw [hops];kernel_rfl) (by intro _ _ _ h;exact h) (YB.pass FWide.wide (by rw [hops];rfl)) ?_
  simp only [qP]
  refine wpS.takeP (i:=7) (v:=.bool false) (by subst hops;simp only [zG];try rfl) hns (by rw [hops];kernel_rfl) (by rw [hops];kernel_rfl) (by intro _ _ _ h;exact h) (YB.run (by nofun) (by nofun) (by rfl) (by intro w _;go_simp)) ?_
  simp only [qP]
  refine wpS.store (RR.ok w hp h Fh) (i:=8) (T':=[]) _ _ _ 1 (off:=0) (arr':=#[.int .i64 (((h.get bt (ftText nm)).1).k),.int .i64 (((h.get bt (ftText nm)).1).n),.string (bs (((h.get bt (ftText nm)).1).s))]) (u:=V.agg ((h.get bt (ftText nm)).1)) (L':=[(b7,Obj.cells #[.int .i64 (((h.get bt (ftText nm)).1).k),.int .i64 (((h.get bt (ftText nm)).1).n),.string (bs (((h.get bt (ftText nm)).1).s))] 28 (0,0)),(b3,Obj.cells #[.int .i64 (((h.get bt (ftText nm)).1).k),.int .i64 (((h.get bt (ftText nm)).1).n),.string (bs (((h.get bt (ftText nm)).1).s))] 28 (0,0)),(b2,Obj.cells #[.int .i64 bt.k,.int .i64 bt.n,.string (bs bt.s)] 28 (0,0))]) (by subst hops;simp only [zG];try rfl) (by rw [hops];kernel_rfl) (Good.some_ (RR.ok w hp h Fh) 0 [0,2] rfl rfl rfl) (by subst hops;kernel_rfl) (by rfl) (by rfl) (by rfl) (by rfl) (by rfl) (by kernel_rfl) (zB rfl) (by rfl) (by rfl) (by rfl) ?_
  simp only [qP]
  refine wpS.takeP (i:=9) (v:=.bool false) (by subst hops;simp only [zG];try rfl) hns (by rw [hops];kernel_rfl) (by rw [hops];kernel_rfl) (by intro _ _ _ h;exact h) (YB.assign _ (by rfl) (by rfl) (by rfl)) ?_
  simp only [qP]
  refine wpS.done ?_ ?_ ?_ _
  ·rw [hops];kernel_rfl
  ·exact (Good.nil (RR.ok w hp h Fh))
  intro W14 hS15
  refine hK10 _ _ ?_
  (try clear hns);clear hS9 hops ops
  try clear hK10 K10
  refine wpIn_ret ?_
  refine bodyPost_ret (v:=.tuple #[V.agg ((h.get bt (ftText nm)).1),.bool false]) (results2 Tryz.results216 (⟨_,rfl,load_whole Tryz.underlying28 rfl (by kernel_rfl) (hS15.sb.box 1 rfl)⟩) (rfl)) rfl ?_
  have em:Hp.ftClass h bt nm=((h.get bt (ftText nm)).1,false):=by simp only [Hp.ftClass,hc11,if_true,Bool.false_eq_true,if_false,Bool.not_true,Bool.not_false]
  rw [em]
  exact ⟨rfl,hS15.finBl⟩
def Hp.ftIsClass (h:Hp) (bt:V) (v:V):Bool :=
 if (Hp.ftClass h bt [69,120,99,101,112,116,105,111,110]).2=true then h.subO v ((Hp.ftClass h bt [69,120,99,101,112,116,105,111,110]).1)
 else false
set_option maxRecDepth 100000 in
set_option maxHeartbeats 4000000 in
theorem ftIsClass_any (w:World) (hp:Nat) (h:Hp) (Fh:Foot) (r:HR w hp h Fh) (bt:V) (v:V):Calls Tryz.prog 137 #[.pointer (some ⟨hp,0,none⟩),V.agg bt,V.agg v] w fun e_ w'=>e_=.returned (.bool (Hp.ftIsClass h bt v))∧Bl w w':=by
 refine calls_of_wp Tryz.func137 rfl ?_
 simp only [Tryz.ntmps137,zS,Nat.reduceAdd,Nat.reduceSub]
 refine (wpIn_wide (n:=1)).1 ?_
 have hS:SW (RR w hp h Fh) w noF [] [] [] w:=SW.start (RR.ok w hp h Fh) (RR.start r) (by nofun) (by nofun)
 clear r
 refine wpIn_seq_k fun K1 hK1=>?_
 refine wpL.enter hS ?_
 intro ops hops
 refine wpL.alloc (RR.ok w hp h Fh) (fun b=>.pointer (some ⟨b,0,none⟩)) (obj:=Obj.cells #[.int .i64 bt.k,.int .i64 bt.n,.string (bs bt.s)] 28 (0,0)) rfl (by nofun) (by nofun) (by intro w;go_simp) ?_
 intro b2
 simp only [qP]
 refine wpL.alloc (RR.ok w hp h Fh) (fun b=>.pointer (some ⟨b,0,none⟩)) (obj:=Obj.cells #[.int .i64 v.k,.int .i64 v.n,.string (bs v.s)] 28 (0,0)) rfl (by nofun) (by nofun) (by intro w;go_simp) ?_
 intro b3
 simp only [qP]
 refine wpL.take (v:=.bool false) (SW.stab (RR.ok w hp h Fh)) (fun _ h=>h.sb) (YB.assign _ rfl rfl rfl) ?_
 simp only [qP]
 intro W4 hS5
 refine hK1 _ _ ?_
 (try clear hns);clear hS hops ops
 try clear hK1 K1
 refine wpIn_seq_k fun K6 hK6=>?_
 refine wpL.enter hS5 ?_
 intro ops hops
 refine wpL.take (v:=.pointer (some ⟨hp,0,none⟩)) (SW.stab (RR.ok w hp h Fh)) (fun _ h=>h.sb) (YB.move _ rfl rfl rfl) ?_
 simp only [qP]
 refine wpL.take (v:=V.agg bt) (SW.stab (RR.ok w hp h Fh)) (fun _ h=>h.sb) (YB.load (p:=.pointer (some ⟨b2,0,none⟩)) _ _ rfl rfl rfl (fun w hw=>load_whole Tryz.underlying28 rfl (by kernel_rfl) (hw.box 1 rfl))) ?_
 simp only [qP]
 refine wpL.take (v:=.tuple #[V.agg ((Hp.ftClass h bt [69,120,99,101,112,116,105,111,110]).1),.bool ((Hp.ftClass h bt [69,120,99,101,112,116,105,111,110]).2)]) (SW.stab (RR.ok w hp h Fh)) (fun _ h=>h.sb) (YB.call FWide.wide _ 216 rfl rfl rfl (args:=#[.pointer (some ⟨hp,0,none⟩),V.agg bt,.string (bs [69,120,99,101,112,116,105,111,110])]) (by simp only [List.map_toArray,List.map_cons,List.map_nil];rfl) (enters_of Tryz.func216 (by kernel_rfl) rfl) (fun wz hw=>hw.elim fun G hG=>ftClass_any wz hp h Fh hG.res.2.1 bt [69,120,99,101,112,116,105,111,110])) ?_
 simp only [qP]
 refine wpL.take (v:=.tuple #[V.agg ((Hp.ftClass h bt [69,120,99,101,112,116,105,111,110]).1),.bool ((Hp.ftClass h bt [69,120,99,101,112,116,105,111,110]).2)]) (SW.stab (RR.ok w hp h Fh)) (fun _ h=>h.sb) (YB.move _ rfl rfl rfl) ?_
 simp only [qP]
 refine wpL.take (v:=V.agg ((Hp.ftClass h bt [69,120,99,101,112,116,105,111,110]).1)) (SW.stab (RR.ok w hp h Fh)) (fun _ h=>h.sb) (YB.extract (vs:=#[V.agg ((Hp.ftClass h bt [69,120,99,101,112,116,105,111,110]).1),.bool ((Hp.ftClass h bt [69,120,99,101,112,116,105,111,110]).2)]) _ _ rfl rfl rfl rfl) ?_
 simp only [qP]
 refine wpL.take (v:=.bool ((Hp.ftClass h bt [69,120,99,101,112,116,105,111,110]).2)) (SW.stab (RR.ok w hp h Fh)) (fun _ h=>h.sb) (YB.extract (vs:=#[V.agg ((Hp.ftClass h bt [69,120,99,101,112,116,105,111,110]).1),.bool ((Hp.ftClass h bt [69,120,99,101,112,116,105,111,110]).2)]) _ _ rfl rfl rfl rfl) ?_
 simp only [qP]
 refine wpL.alloc (RR.ok w hp h Fh) (fun b=>.pointer (some ⟨b,0,none⟩)) (obj:=Obj.cells #[.int .i64 0,.int .i64 0,.string (bs [])] 28 (0,0)) rfl (by nofun) (by nofun) (by intro w;go_simp) ?_
 intro b7
 simp only [qP]
 refine wpL.store (RR.ok w hp h Fh) _ _ _ 0 (off:=0) (arr':=#[.int .i64 (((Hp.ftClass h bt [69,120,99,101,112,116,105,111,110]).1).k),.int .i64 (((Hp.ftClass h bt [69,120,99,101,112,116,105,111,110]).1).n),.string (bs (((Hp.ftClass h bt [69,120,99,101,112,116,105,111,110]).1).s))]) (u:=V.agg ((Hp.ftClass h bt [69,120,99,101,112,116,105,111,110]).1)) (L':=[(b7,Obj.cells #[.int .i64 (((Hp.ftClass h bt [69,120,99,101,112,116,105,111,110]).1).k),.int .i64 (((Hp.ftClass h bt [69,120,99,101,112,116,105,111,110]).1).n),.string (bs (((Hp.ftClass h bt [69,120,99,101,112,116,105,111,110]).1).s))] 28 (0,0)),(b3,Obj.cells #[.int .i64 v.k,.int .i64 v.n,.string (bs v.s)] 28 (0,0)),(b2,Obj.cells #[.int .i64 bt.k,.int .i64 bt.n,.string (bs bt.s)] 28 (0,0))]) rfl (by rfl) (by rfl) (by rfl) (by rfl) (by kernel_rfl) (zB rfl) (by rfl) (by rfl) (by rfl) ?_
 simp only [qP]
 refine wpL.take (v:=.bool ((Hp.ftClass h bt [69,120,99,101,112,116,105,111,110]).2)) (SW.stab (RR.ok w hp h Fh)) (fun _ h=>h.sb) (YB.assign _ rfl rfl rfl) ?_
 simp only [qP]
 intro W8 hS9
 refine hK6 _ _ ?_
 (try clear hns);clear hS5 hops ops
 try clear hK6 K6
 refine wpIn_seq_k fun K10 hK10=>?_
 refine wpL.enter hS9 ?_
 intro ops hops
 refine wpL.take (v:=.bool ((Hp.ftClass h bt [69,120,99,101,112,116,105,111,110]).2)) (SW.stab (RR.ok w hp h Fh)) (fun _ h=>h.sb) (YB.move _ rfl rfl rfl) ?_
 simp only [qP]
 refine wpL.take (v:=.bool ((Hp.ftClass h bt [69,120,99,101,112,116,105,111,110]).2)) (SW.stab (RR.ok w hp h Fh)) (fun _ h=>h.sb) (YB.move _ rfl rfl rfl) ?_
 simp only [qP]
 rcases Bool.eq_false_or_eq_true ((Hp.ftClass h bt [69,120,99,101,112,116,105,111,110]).2) with hc11 | hc11
 ·simp only [hc11]
  refine wpL.take (v:=.pointer (some ⟨hp,0,none⟩)) (SW.stab (RR.ok w hp h Fh)) (fun _ h=>h.sb) (YB.move _ rfl (by rw [hops];rfl) rfl) ?_
  simp only [qP]
  refine wpL.take (v:=V.agg v) (SW.stab (RR.ok w hp h Fh)) (fun _ h=>h.sb) (YB.load (p:=.pointer (some ⟨b3,0,none⟩)) _ _ rfl (by rw [hops];rfl) rfl (fun w hw=>load_whole Tryz.underlying28 rfl (by kernel_rfl) (hw.box 1 rfl))) ?_
  simp only [qP]
  refine wpL.take (v:=V.agg ((Hp.ftClass h bt [69,120,99,101,112,116,105,111,110]).1)) (SW.stab (RR.ok w hp h Fh)) (fun _ h=>h.sb) (YB.load (p:=.pointer (some ⟨b7,0,none⟩)) _ _ rfl (by rw [hops];rfl) rfl (fun w hw=>load_whole Tryz.underlying28 rfl (by kernel_rfl) (hw.box 0 rfl))) ?_
  simp only [qP]
  refine wpL.take (v:=.bool (h.subO v ((Hp.ftClass h bt [69,120,99,101,112,116,105,111,110]).1))) (SW.stab (RR.ok w hp h Fh)) (fun _ h=>h.sb) (YB.call FWide.wide _ 217 rfl rfl (by rw [hops];rfl) (args:=#[.pointer (some ⟨hp,0,none⟩),V.agg v,V.agg ((Hp.ftClass h bt [69,120,99,101,112,116,105,111,110]).1)]) (by simp only [List.map_toArray,List.map_cons,List.map_nil];rfl) (enters_of Tryz.func217 (by kernel_rfl) rfl) (fun wz hw=>hw.elim fun G hG=>subO_any wz hp h Fh hG.res.2.1 v ((Hp.ftClass h bt [69,120,99,101,112,116,105,111,110]).1))) ?_
  simp only [qP]
  refine wpL.take (v:=.bool (h.subO v ((Hp.ftClass h bt [69,120,99,101,112,116,105,111,110]).1))) (SW.stab (RR.ok w hp h Fh)) (fun _ h=>h.sb) (YB.run (by nofun) (by nofun) rfl (by intro w _;go_simp)) ?_
  simp only [qP]
  refine wpL.take (v:=.bool (h.subO v ((Hp.ftClass h bt [69,120,99,101,112,116,105,111,110]).1))) (SW.stab (RR.ok w hp h Fh)) (fun _ h=>h.sb) (YB.assign _ rfl rfl rfl) ?_
  simp only [qP]
  intro W12 hS13
  refine hK10 _ _ ?_
  (try clear hns);clear hS9 hops ops
  try clear hK10 K10
  refine wpIn_ret ?_
  refine bodyPost_ret (v:=.bool (h.subO v ((Hp.ftClass h bt [69,120,99,101,112,116,105,111,110]).1))) (results1 Tryz.results137 (rfl)) rfl ?_
  have em:Hp.ftIsClass h bt v=h.subO v ((Hp.ftClass h bt [69,120,99,101,112,116,105,111,110]).1):=by simp only [Hp.ftIsClass,hc11,if_true,Bool.false_eq_true,if_false,Bool.not_true,Bool.not_false]
  rw [em]
  exact ⟨rfl,hS13.finBl⟩
 ·simp only [hc11]
  refine wpL.take (v:=undef) (SW.stab (RR.ok w hp h Fh)) (fun _ h=>h.sb) (YB.pass FWide.wide (by rw [hops];rfl)) ?_
  simp only [qP]
  refine wpL.take (v:=undef) (SW.stab (RR.ok w hp h Fh)) (fun _ h=>h.sb) (YB.pass FWide.wide (by rw [hops];rfl)) ?_
  simp only [qP]
  refine wpL.take (v:=undef) (SW.stab (RR.ok w hp h Fh)) (fun _ h=>h.sb) (YB.pass FWide.wide (by rw [hops];rfl)) ?_
  simp only [qP]
  refine wpL.take (v:=undef) (SW.stab (RR.ok w hp h Fh)) (fun _ h=>h.sb) (YB.pass FWide.wide (by rw [hops];rfl)) ?_
  simp only [qP]
  refine wpL.take (v:=.bool false) (SW.stab (RR.ok w hp h Fh)) (fun _ h=>h.sb) (YB.run (by nofun) (by nofun) rfl (by intro w _;go_simp)) ?_
  simp only [qP]
  refine wpL.take (v:=.bool false) (SW.stab (RR.ok w hp h Fh)) (fun _ h=>h.sb) (YB.assign _ rfl rfl rfl) ?_
  simp only [qP]
  intro W14 hS15
  refine hK10 _ _ ?_
  (try clear hns);clear hS9 hops ops
  try clear hK10 K10
  refine wpIn_ret ?_
  refine bodyPost_ret (v:=.bool false) (results1 Tryz.results137 (rfl)) rfl ?_
  have em:Hp.ftIsClass h bt v=false:=by simp only [Hp.ftIsClass,hc11,if_true,Bool.false_eq_true,if_false,Bool.not_true,Bool.not_false]
  rw [em]
  exact ⟨rfl,hS15.finBl⟩
def Hp.candO (h:Hp) (c:V):List V:=if h.kind c=2 then h.items c else [c]
def hitM (p:V→Bool) (t:Bool) (l:List V):Bool:=l.any fun x=>t && p x
def Hp.matchO (h:Hp) (bt v c:V):Bool:=hitM (fun x=>h.subO (h.ofI v).1 x) ((h.ofI v).2 && h.ftIsClass bt (h.ofI v).1) (h.candO c)
theorem hitM_snoc {p:V→Bool} {t:Bool} {l:List V} {k:Nat} {x:V} (h:l[k]?=some x):hitM p t (l.take (k + 1))=(hitM p t (l.take k) || (t && p x)):=by
 unfold hitM
 rw [List.take_add_one,h,List.any_append]
 simp
theorem cand_mk (w:World) (hp:Nat) (c:V):Calls Tryz.prog 218 #[.pointer (some ⟨hp,0,none⟩),c.agg] w fun e w' =>
  e=.returned (.func (.func 273) #[] #[.pointer (some ⟨w.heap.size,0,none⟩),.pointer (some ⟨w.heap.size + 1,0,none⟩)])∧w'=(w.alloc (.cells #[.pointer (some ⟨hp,0,none⟩)] 58)).alloc (.cells c.ca 28):=by
 go_enter Tryz.func218,Tryz.ntmps218
 go_wp2
 go_ret
 exact ⟨rfl,rfl⟩
set_option maxRecDepth 100000 in
set_option maxHeartbeats 8000000 in
theorem cand_seqR (hp:Nat) (h:Hp) (H:Foot) (bh bc:Nat) (c:V) (hfew:(h.items c).length≤1048576):SeqOfR Tryz.prog 273 #[.pointer (some ⟨bh,0,none⟩),.pointer (some ⟨bc,0,none⟩)] (valArgs (h.candO c)) (ORel hp h H bh bc c):=by
 rintro l J Y sJ sY ltJ hR hY F W hJ
 have hP:=hR 0 F W hJ
 have HR:=zH hR
 have HJ:=zH hJ
 have HSJ:=zH sJ
 have HLT:=zH ltJ
 have HY:=zH hY
 have HP:=zH hP
 have ck:∀ W',Bl W W'→_:=fun W' hb=>kind_any W' hp h H (hP.r.bl hb) c
 obtain ⟨b0,b1,b2,-⟩:=(Bl.refl W).three hP.bc
 have bh0:W.cell? ⟨bh,0,none⟩=some (.pointer (some ⟨hp,0,none⟩)):=by rw [cell_of hP.bh];rfl
 clear hJ sJ ltJ hY sY hP hR
 unfold Hp.candO at HY ⊢
 by_cases hk:h.kind c=2
 ·rw [if_pos hk] at HY
  rw [if_pos hk]
  rw [hk] at ck
  clear hk
  have cit:∀ W',Bl W W'→_:=fun W' hb=>items_any W' hp h H (HP.out.r.bl hb) c
  obtain ⟨its,hits⟩:∃ its,its=h.items c:=⟨_,rfl⟩
  obtain ⟨n,hn⟩:∃ n,n=its.length:=⟨_,rfl⟩
  rw [← hits] at cit hfew HY ⊢
  rw [← hn] at hfew
  have HN:=zH (And.intro hn hits)
  clear hn hits
  refine callsIn_of_wp Tryz.func273 rfl trivial ?_ rfl
  simp only [Tryz.ntmps273,zS,Nat.reduceAdd,Nat.reduceSub]
  gi_wp2_with (first | (refine ⟨trivial,?_⟩;gi_at_call 76;refine (callsIn_wide.2 (ck _ (by (repeat (first | exact qA _ | assumption | refine qB ?_ _ | refine qC ?_ | refine qD ?_ _ | refine qE ?_ _ (by simp<;>omega) _))))).mono ?_;rintro e W1 ⟨rfl,hb1⟩;have e0:=hb1.sm b0;have e1:=hb1.sm b1;have e2:=hb1.sm b2;have eh:=hb1.sm bh0) | (refine ⟨trivial,?_⟩;gi_at_call 121;refine (callsIn_wide.2 (cit _ hb1)).mono ?_;rintro e W4 hx;obtain ⟨xa,xc,he4,hx4,hb4⟩:=hx.form2;rw [← HN.out.1] at he4 hx4;subst he4))
  have hbW:Bl W W4:=hb1.trans hb4
  have hvx4:Vx F W4 (.slice xa n xc) its:=(hx4.vx (F:=F) (fun b hb=>by have h1:=HLT.out 0 F W HJ.out b hb;have h2:=hb1.sz;omega))
  have HL:=zH (show Step W.heap.size F W W4 F∧J 0 F W4∧ORel hp h H bh bc c W4∧Vx F W4 (.slice xa n xc) its from ⟨Step.of_bl hbW (HLT.out 0 F W HJ.out),HSJ.out 0 F W W4 HJ.out (Keep.of_bl hbW (HLT.out 0 F W HJ.out)),HP.out.bl hbW,hvx4⟩)
  have HXA:=zH (show 0 < n→∃ b o,xa=some ⟨b,o,none⟩ from fun hpos=>by
   rcases hvx4.vs with ⟨e,-⟩ | ⟨b,o,c',e,-⟩
   ·injection e with _ e2 _;omega
   ·injection e with e1 _ _;exact ⟨b,o,e1⟩)
  clear hx4 hb4 hvx4 hbW hb1 b0 b1 b2 bh0 e0 e1 e2 eh hx ck cit
  gi_loopw [5,17] (fun _ v17 wr=>∃ (k:Nat) (F':Foot),k≤n∧v17=.int .i64 k∧Step W.heap.size F W wr F'∧J k F' wr∧ORel hp h H bh bc c wr∧Vx F' wr (.slice xa n xc) its) (fun _ v17 _=>n - (intOf v17).toNat)
  case atStart=>exact ⟨0,F,Nat.zero_le _,rfl,HL.out⟩
  case round =>
   obtain ⟨k,F',hk,rfl,hst,hJ,hP,hvx⟩:=hrel
   by_cases hlt:k < n
   ·obtain ⟨bb,oo,rfl⟩:=HXA.out (by omega)
    obtain ⟨x,hx⟩:∃ x,its[k]?=some x:=⟨_,List.getElem?_eq_getElem (by rw [← HN.out.1];exact hlt)⟩
    have hcells:∀ t u,t < 3→x.cs[t]?=some u→wr.cell? ⟨bb,oo + (k * 3 + t),none⟩=some u:=fun t u ht hu=>by
     rcases hvx.vs with ⟨e1,-⟩ | ⟨b',o',c',e1,-,-,-,hcell⟩
     ·cases e1
     ·cases e1
      exact hcell _ u ((vcs_at ht hx).trans hu)
    have y0:wr.cell? ⟨bb,oo + k * 3,none⟩=some (.int .i64 x.k):=hcells 0 _ (by decide) rfl
    have y1:wr.cell? ⟨bb,oo + k * 3 + 1,none⟩=some (.int .i64 x.n):=hcells 1 _ (by decide) rfl
    have y2:wr.cell? ⟨bb,oo + k * 3 + 2,none⟩=some (.string (bs x.s)):=hcells 2 _ (by decide) rfl
    have hx0:(valArgs its)[k]?=some #[x.agg]:=by unfold valArgs;rw [List.getElem?_map,hx];rfl
    have HS:=zH (And.intro hst (And.intro hJ (And.intro hP (And.intro hvx hx0))))
    have hltF:=HLT.out _ F' wr hJ
    have HLF:=zH hltF
    clear hst hJ hP hvx hx hcells hltF hx0
    gi_wp2_with fail
    obtain ⟨fn,tmps,assign,body,hyy,hRd⟩:=HY.out _ _ F' (wr.alloc (.cells #[.int .i64 x.k,.int .i64 x.n,.string (bs x.s)] 28)) HS.out.2.2.2.2 (HSJ.out _ F' wr _ HS.out.2.1 (Keep.of_bl (Bl.al _ _) HLF.out))
    have HST5:=zH (show Step W.heap.size F W (wr.alloc (.cells #[.int .i64 x.k,.int .i64 x.n,.string (bs x.s)] 28)) F'∧Vx F' (wr.alloc (.cells #[.int .i64 x.k,.int .i64 x.n,.string (bs x.s)] 28)) (.slice (some ⟨bb,oo,none⟩) n xc) its from ⟨HS.out.1.bl (Bl.al _ _) HS.out.1.size,HS.out.2.2.2.1.bl (Bl.al _ _)⟩)
    rw [hyy]
    gi_wp2
    refine hRd.mono ?_
    rintro e W7 ⟨F7,hst7,(⟨rfl,hJ7⟩ | ⟨rfl,hY7⟩)⟩
    ·have HJ7:=zH hJ7
     have HREL:=zH (show Step W.heap.size F W W7 F7∧J (k + 1) F7 W7∧ORel hp h H bh bc c W7∧Vx F7 W7 (.slice (some ⟨bb,oo,none⟩) n xc) its from ⟨HST5.out.1.call HST5.out.1.size hst7,hJ7,HR.out _ F7 W7 HJ7.out,HST5.out.2.step hst7⟩)
     clear hst7 hJ7
     gi_wp2
     go_roundw
     case rel=>exact ⟨k + 1,F7,by omega,by go_num,HREL.out⟩
     case measure=>simp [intOf];omega
    ·have HREL:=zH (show Step W.heap.size F W W7 F7∧Y F7 W7 from ⟨HST5.out.1.call HST5.out.1.size hst7,hY7⟩)
     clear hst7 hY7
     gi_wp2
     refine bodyPost_ret (results_none rfl _ _ _) rfl ?_
     exact ⟨⟨_,rfl⟩,F7,HREL.out.1,.inr HREL.out.2⟩
   ·obtain rfl:k=n:=by omega
    have HREL:=zH (show Step W.heap.size F W wr F'∧J (valArgs its).length F' wr from ⟨hst,by unfold valArgs;rw [List.length_map,← HN.out.1];exact hJ⟩)
    clear hst hJ hP hvx
    gi_wp2
    go_end0
    exact ⟨⟨_,rfl⟩,F',HREL.out.1,.inl HREL.out.2⟩
 ·rw [if_neg hk] at HY
  rw [if_neg hk]
  generalize h.kind c=kk at ck hk
  have t0:(kk != 2)=true:=by simpa using hk
  clear hk
  refine callsIn_of_wp Tryz.func273 rfl trivial ?_ rfl
  simp only [Tryz.ntmps273,zS,Nat.reduceAdd,Nat.reduceSub]
  gi_wp2_with (refine ⟨trivial,?_⟩;gi_at_call 76;refine (callsIn_wide.2 (ck _ (by (repeat (first | exact qA _ | assumption | refine qB ?_ _ | refine qC ?_ | refine qD ?_ _ | refine qE ?_ _ (by simp<;>omega) _))))).mono ?_;rintro e W1 ⟨rfl,hb1⟩;have e0:=hb1.sm b0;have e1:=hb1.sm b1;have e2:=hb1.sm b2;have eh:=hb1.sm bh0)
  have hx0:(valArgs [c])[0]?=some #[c.agg]:=rfl
  obtain ⟨fn,tmps,assign,body,hyy,hRd⟩:=HY.out 0 _ F W1 hx0 (HSJ.out 0 F W W1 HJ.out (Keep.of_bl hb1 (HLT.out 0 F W HJ.out)))
  have HST:=zH (Step.of_bl hb1 (HLT.out 0 F W HJ.out))
  clear hx0 hb1 ck
  rw [hyy]
  gi_wp2
  refine hRd.mono ?_
  rintro e W3 ⟨F3,hst3,(⟨rfl,hJ3⟩ | ⟨rfl,hY3⟩)⟩
  ·have HREL:=zH (show Step W.heap.size F W W3 F3∧J (valArgs [c]).length F3 W3 from ⟨HST.out.call HST.out.size hst3,hJ3⟩)
   clear hst3 hJ3
   gi_wp2
   refine bodyPost_ret (results_none rfl _ _ _) rfl ?_
   exact ⟨⟨_,rfl⟩,F3,HREL.out.1,.inl HREL.out.2⟩
  ·have HREL:=zH (show Step W.heap.size F W W3 F3∧Y F3 W3 from ⟨HST.out.call HST.out.size hst3,hY3⟩)
   clear hst3 hY3
   gi_wp2
   refine bodyPost_ret (results_none rfl _ _ _) rfl ?_
   exact ⟨⟨_,rfl⟩,F3,HREL.out.1,.inr HREL.out.2⟩
structure MRel (w:World) (hp:Nat) (bt c a:V) (t:Bool) (ba bk bf bh:Nat) (f:Bool) (W:World):Prop where
 bl:Bl w W
 q0:W.heap[w.heap.size]?=some (.cells #[.pointer (some ⟨hp,0,none⟩)] 58 (0,0))
 q1:W.heap[w.heap.size + 1]?=some (.cells bt.ca 28 (0,0))
 q4:W.heap[w.heap.size + 1 + 1 + 1 + 1]?=some (.cells #[.bool false] 4 (0,0))
 q5:W.heap[w.heap.size + 1 + 1 + 1 + 1 + 1]?=some (.cells Exc.nil.ca 71 (0,0))
 qa:W.heap[ba]?=some (.cells a.ca 28 (0,0))
 qt:W.heap[bk]?=some (.cells #[.bool t] 4 (0,0))
 qf:W.heap[bf]?=some (.cells #[.bool f] 4 (0,0))
 qh:W.heap[bh]?=some (.cells #[.pointer (some ⟨hp,0,none⟩)] 58 (0,0))
 qc:W.heap[bh + 1]?=some (.cells c.ca 28 (0,0))
 l1:w.heap.size + 6≤ba
 l2:ba < bk
 l3:bk < bf
 l4:bf < bh
section
variable {w W W':World} {hp:Nat} {bt c a:V} {t f:Bool} {ba bk bf bh:Nat}
theorem MRel.keep (m:MRel w hp bt c a t ba bk bf bh f W) (os:W'.os=W.os) (tp:W'.tape=W.tape) (ou:W'.output=W.output) (sz:W.heap.size≤W'.heap.size) (hk:∀ b,b < bh + 2→W'.heap[b]?=W.heap[b]?):MRel w hp bt c a t ba bk bf bh f W':=by
 have h1:=m.l1;have h2:=m.l2;have h3:=m.l3;have h4:=m.l4
 exact ⟨⟨os.trans m.bl.os,tp.trans m.bl.tape,ou.trans m.bl.output,Nat.le_trans m.bl.sz sz,fun b hb=>(hk b (by omega)).trans (m.bl.at hb)⟩,(hk _ (by omega)).trans m.q0,(hk _ (by omega)).trans m.q1,(hk _ (by omega)).trans m.q4,(hk _ (by omega)).trans m.q5,(hk _ (by omega)).trans m.qa,(hk _ (by omega)).trans m.qt,(hk _ (by omega)).trans m.qf,(hk _ (by omega)).trans m.qh,(hk _ (by omega)).trans m.qc,h1,h2,h3,h4⟩
theorem MRel.lt (m:MRel w hp bt c a t ba bk bf bh f W):bh + 1 < W.heap.size:=(zN m.qc).1
theorem MRel.blw (m:MRel w hp bt c a t ba bk bf bh f W) (hb:Bl W W'):MRel w hp bt c a t ba bk bf bh f W':=by
 have h:=m.lt
 exact m.keep hb.os hb.tape hb.output hb.sz fun b hb2=>hb.at (by omega)
theorem MRel.set (m:MRel w hp bt c a t ba bk bf bh f W) (g:Bool):MRel w hp bt c a t ba bk bf bh g (W.setCell ⟨bf,0,none⟩ (.bool g)):=by
 have h1:=m.l1;have h2:=m.l2;have h3:=m.l3;have h4:=m.l4
 have ho:∀ b,b≠bf→(W.setCell ⟨bf,0,none⟩ (.bool g)).heap[b]?=W.heap[b]?:=fun b hb=>Below.heap_setCell _ _ _ _ (fun e=>hb e)
 exact ⟨Bl.set' m.bl _ (by show w.heap.size≤bf;omega) _,(ho _ (by omega)).trans m.q0,(ho _ (by omega)).trans m.q1,(ho _ (by omega)).trans m.q4,(ho _ (by omega)).trans m.q5,(ho _ (by omega)).trans m.qa,(ho _ (by omega)).trans m.qt,
  by rw [heap_setCell_same W bf 0 _ _ _ m.qf];rfl,(ho _ (by omega)).trans m.qh,(ho _ (by omega)).trans m.qc,h1,h2,h3,h4⟩
end
def MatI (w:World) (hp:Nat) (bt c a:V) (t:Bool) (ba bk bf bh:Nat) (p:V→Bool) (l:List V) (k:Nat) (F:Foot) (W:World):Prop :=
 MRel w hp bt c a t ba bk bf bh (hitM p t (l.take k)) W∧(∀ b,b < bh + 2→F b)∧(∀ b,F b→b < W.heap.size)
theorem mat_step {w Wb W5:World} {hp:Nat} {bt c a:V} {t f:Bool} {ba bk bf bh:Nat} {p:V→Bool} {l:List V} {k:Nat} {F:Foot} {x:V} (m:MRel w hp bt c a t ba bk bf bh f Wb) (hF:∀ b,b < bh + 2→F b) (hlt:∀ b,F b→b < Wb.heap.size) (hb:Bl Wb W5) (hf:f=hitM p t (l.take k)) (hx:l[k]?=some x) {g:Bool} (hg:g=(f || (t && p x))) :
  ∃ F',Step Wb.heap.size F Wb (W5.setCell ⟨bf,0,none⟩ (.bool g)) F'∧MatI w hp bt c a t ba bk bf bh p l (k + 1) F' (W5.setCell ⟨bf,0,none⟩ (.bool g)):=by
 have h4:=m.l4
 refine ⟨F,(Step.of_bl hb hlt).setCell (.inr (hF bf (by omega))) _,?_,hF,fun b hb2=>by rw [World.size_setCell];exact Nat.lt_of_lt_of_le (hlt b hb2) hb.sz⟩
 rw [hitM_snoc hx,← hf,← hg]
 exact (m.blw hb).set g
theorem mat_open {w W:World} {hp:Nat} {bt v c:V} (hW:W=(((((w.alloc (.cells #[.pointer (some ⟨hp,0,none⟩)] 58)).alloc (.cells bt.ca 28)).alloc (.cells v.ca 28)).alloc (.cells c.ca 28)).alloc (.cells #[.bool false] 4)).alloc (.cells Exc.nil.ca 71)) :
  Bl w W∧W.heap.size=w.heap.size + 6∧W.heap[w.heap.size]?=some (.cells #[.pointer (some ⟨hp,0,none⟩)] 58 (0,0))∧W.heap[w.heap.size + 1]?=some (.cells bt.ca 28 (0,0))∧W.heap[w.heap.size + 1 + 1]?=some (.cells v.ca 28 (0,0))∧W.heap[w.heap.size + 1 + 1 + 1]?=some (.cells c.ca 28 (0,0)) ∧
   W.heap[w.heap.size + 1 + 1 + 1 + 1]?=some (.cells #[.bool false] 4 (0,0))∧W.heap[w.heap.size + 1 + 1 + 1 + 1 + 1]?=some (.cells Exc.nil.ca 71 (0,0)):=by
 refine ⟨by rw [hW];(repeat (first | exact qA _ | assumption | refine qB ?_ _ | refine qC ?_ | refine qD ?_ _ | refine qE ?_ _ (by simp<;>omega) _)),by rw [hW];simp [zL],?_,?_,?_,?_,?_,?_⟩<;>rw [hW]
 ·exact al_old (al_old (al_old (al_old (al_old (al_at rfl _) _) _) _) _) _
 ·exact al_old (al_old (al_old (al_old (al_at (by simp [zL]) _) _) _) _) _
 ·exact al_old (al_old (al_old (al_at (by simp [zL]) _) _) _) _
 ·exact al_old (al_old (al_at (by simp [zL]) _) _) _
 ·exact al_old (al_at (by simp [zL]) _) _
 ·exact al_at (by simp [zL]) _
def MatO (w:World) (hp:Nat) (bt v c:V) (W:World):Prop:=Bl w W∧W.heap.size=w.heap.size + 6∧W.heap[w.heap.size]?=some (.cells #[.pointer (some ⟨hp,0,none⟩)] 58 (0,0))∧W.heap[w.heap.size + 1]?=some (.cells bt.ca 28 (0,0))∧W.heap[w.heap.size + 1 + 1]?=some (.cells v.ca 28 (0,0))∧W.heap[w.heap.size + 1 + 1 + 1]?=some (.cells c.ca 28 (0,0)) ∧
   W.heap[w.heap.size + 1 + 1 + 1 + 1]?=some (.cells #[.bool false] 4 (0,0))∧W.heap[w.heap.size + 1 + 1 + 1 + 1 + 1]?=some (.cells Exc.nil.ca 71 (0,0))
theorem mat_cells {w W W1:World} {hp:Nat} {bt v c:V} (h:MatO w hp bt v c W) (hb:Bl W W1):Bl w W1∧w.heap.size + 6≤W1.heap.size∧W1.cell? ⟨w.heap.size,0,none⟩=some (.pointer (some ⟨hp,0,none⟩)) ∧
  (W1.cell? ⟨w.heap.size + 1,0,none⟩=some (.int .i64 bt.k)∧W1.cell? ⟨w.heap.size + 1,1,none⟩=some (.int .i64 bt.n)∧W1.cell? ⟨w.heap.size + 1,2,none⟩=some (.string (bs bt.s))) ∧
  (W1.cell? ⟨w.heap.size + 1 + 1 + 1,0,none⟩=some (.int .i64 c.k)∧W1.cell? ⟨w.heap.size + 1 + 1 + 1,1,none⟩=some (.int .i64 c.n)∧W1.cell? ⟨w.heap.size + 1 + 1 + 1,2,none⟩=some (.string (bs c.s))):=by
 obtain ⟨h0,hs,q0,q1,-,q3,-,-⟩:=h
 have hz:=hb.sz
 obtain ⟨a0,a1,a2,-⟩:=hb.three q1
 obtain ⟨c0,c1,c2,-⟩:=hb.three q3
 exact ⟨h0.trans hb,by omega,by rw [cell_of ((hb.at (by omega)).trans q0)];rfl,⟨a0,a1,a2⟩,c0,c1,c2⟩
theorem mat_rel {w W W1 Wk Wc W0:World} {hp:Nat} {bt v c a:V} {t:Bool} {bf bh:Nat} (h:MatO w hp bt v c W) (hb:Bl W W1) (hk:Bl W1 Wk) (qa:Wk.heap[W1.heap.size]?=some (.cells a.ca 28 (0,0))) (qt:Wk.heap[W1.heap.size + 1]?=some (.cells #[.bool t] 4 (0,0)))
  (hbf:bf=Wk.heap.size) (hbh:bh=Wc.heap.size) (hc:Wc=Wk.alloc (.cells #[.bool false] 4)) (h0:W0=(Wc.alloc (.cells #[.pointer (some ⟨hp,0,none⟩)] 58)).alloc (.cells c.ca 28)):MRel w hp bt c a t W1.heap.size (W1.heap.size + 1) bf bh false W0∧W0.heap.size=bh + 2:=by
 obtain ⟨p0,hs,q0,q1,-,q3,q4,q5⟩:=h
 have hz:=hb.sz
 have l2:=(zN qt).1
 have zc:Wc.heap.size=Wk.heap.size + 1:=by rw [hc,zL]
 have z0:W0.heap.size=Wc.heap.size + 2:=by rw [h0];simp [zL]
 have b0:Bl Wk W0:=by rw [h0,hc];(repeat (first | exact qA _ | assumption | refine qB ?_ _ | refine qC ?_ | refine qD ?_ _ | refine qE ?_ _ (by simp<;>omega) _))
 have bw:Bl W W0:=(hb.trans hk).trans b0
 subst hbf hbh
 refine ⟨⟨p0.trans bw,(bw.at (by omega)).trans q0,(bw.at (by omega)).trans q1,(bw.at (by omega)).trans q4,(bw.at (by omega)).trans q5,(b0.at (by omega)).trans qa,(b0.at l2).trans qt,?_,?_,?_,by omega,by omega,by omega,by omega⟩,by omega⟩
 ·rw [h0,hc];exact al_old (al_old (al_at rfl _) _) _
 ·rw [h0];exact al_old (al_at rfl _) _
 ·rw [h0];exact al_at (by rw [zL]) _
theorem mat_two {W1 W2:World} {a:V} {t:Bool} (h:W2=(W1.alloc (.cells a.ca 28)).alloc (.cells #[.bool t] 4)):Bl W1 W2∧W2.heap[W1.heap.size]?=some (.cells a.ca 28 (0,0))∧W2.heap[W1.heap.size + 1]?=some (.cells #[.bool t] 4 (0,0))∧W2.heap.size=W1.heap.size + 2:=by
 rw [h]
 exact ⟨by (repeat (first | exact qA _ | assumption | refine qB ?_ _ | refine qC ?_ | refine qD ?_ _ | refine qE ?_ _ (by simp<;>omega) _)),al_old (al_at rfl _) _,al_at (by rw [zL]) _,by simp [zL]⟩
theorem mat_three {W1 W2 W3:World} {a:V} {i:Bool} (h:W2=(W1.alloc (.cells a.ca 28)).alloc (.cells #[.bool true] 4)) (hb:Bl W2 W3):Bl W1 W3∧W1.heap.size + 2≤W3.heap.size∧W3.heap[W1.heap.size + 1]?=some (.cells #[.bool true] 4 (0,0)) ∧
  Bl W1 (W3.setCell ⟨W1.heap.size + 1,0,none⟩ (.bool i))∧(W3.setCell ⟨W1.heap.size + 1,0,none⟩ (.bool i)).heap[W1.heap.size]?=some (.cells a.ca 28 (0,0))∧(W3.setCell ⟨W1.heap.size + 1,0,none⟩ (.bool i)).heap[W1.heap.size + 1]?=some (.cells #[.bool i] 4 (0,0)):=by
 obtain ⟨h1,h2,h3,h4⟩:=mat_two h
 have hz:=hb.sz
 have k:=(hb.at (by omega)).trans h3
 exact ⟨h1.trans hb,by omega,k,Bl.set' (h1.trans hb) _ (by show W1.heap.size≤W1.heap.size + 1;omega) _,(Below.heap_setCell _ _ _ _ (fun e=>by have e2:W1.heap.size=W1.heap.size + 1:=e;omega)).trans ((hb.at (by omega)).trans h2),
  by rw [heap_setCell_same W3 (W1.heap.size + 1) 0 _ _ _ k];rfl⟩
theorem mat_end {w W' U:World} {hp:Nat} {bt c a:V} {t f:Bool} {ba bk bf bh D:Nat} (m:MRel w hp bt c a t ba bk bf bh f W') (hD:W'.heap[D]?=some (.deferred (some []))) (hd:bh + 2≤D)
  (hU:U=((((((W'.setCell ⟨w.heap.size + 1 + 1 + 1 + 1,0,none⟩ (.bool f)).setCell ⟨w.heap.size + 1 + 1 + 1 + 1 + 1,0,none⟩ (.string ⟨#[]⟩)).setCell ⟨w.heap.size + 1 + 1 + 1 + 1 + 1,1,none⟩ (.int .i64 0)).setCell ⟨w.heap.size + 1 + 1 + 1 + 1 + 1,2,none⟩ (.int .i64 0)).setCell ⟨w.heap.size + 1 + 1 + 1 + 1 + 1,3,none⟩ (.string ⟨#[]⟩)).setCell ⟨w.heap.size + 1 + 1 + 1 + 1 + 1,4,none⟩ (.bool false))) :
  U.heap[D]?=some (.deferred (some []))∧∀ o,((U.putObj D o).cell? ⟨w.heap.size + 1 + 1 + 1 + 1,0,none⟩=some (.bool f)∧(U.putObj D o).cell? ⟨w.heap.size + 1 + 1 + 1 + 1 + 1,0,none⟩=some (.string ⟨#[]⟩)∧(U.putObj D o).cell? ⟨w.heap.size + 1 + 1 + 1 + 1 + 1,1,none⟩=some (.int .i64 0) ∧
   (U.putObj D o).cell? ⟨w.heap.size + 1 + 1 + 1 + 1 + 1,2,none⟩=some (.int .i64 0)∧(U.putObj D o).cell? ⟨w.heap.size + 1 + 1 + 1 + 1 + 1,3,none⟩=some (.string ⟨#[]⟩)∧(U.putObj D o).cell? ⟨w.heap.size + 1 + 1 + 1 + 1 + 1,4,none⟩=some (.bool false))∧Bl w (U.putObj D o):=by
 have h1:=m.l1;have h2:=m.l2;have h3:=m.l3;have h4:=m.l4
 have ot:∀ (V:World) (x o:Nat) (u:Value) (y:Nat),y≠x→(V.setCell ⟨x,o,none⟩ u).heap[y]?=V.heap[y]?:=fun V x o u y hy=>Below.heap_setCell _ _ _ _ (fun e=>hy e)
 have s0:=m.bl.set' ⟨w.heap.size + 1 + 1 + 1 + 1,0,none⟩ (by show w.heap.size≤w.heap.size + 1 + 1 + 1 + 1;omega) (.bool f)
 have a0:(W'.setCell ⟨w.heap.size + 1 + 1 + 1 + 1,0,none⟩ (.bool f)).heap[w.heap.size + 1 + 1 + 1 + 1]?=some (.cells #[.bool f] 4 (0,0)):=by rw [heap_setCell_same W' _ 0 _ _ _ m.q4];rfl
 have e0:(W'.setCell ⟨w.heap.size + 1 + 1 + 1 + 1,0,none⟩ (.bool f)).heap[w.heap.size + 1 + 1 + 1 + 1 + 1]?=some (.cells Exc.nil.ca 71 (0,0)):=(ot _ _ _ _ _ (by omega)).trans m.q5
 have d0:(W'.setCell ⟨w.heap.size + 1 + 1 + 1 + 1,0,none⟩ (.bool f)).heap[D]?=some (.deferred (some [])):=(ot _ _ _ _ _ (by omega)).trans hD
 have step:∀ (V:World) (o:Nat) (u:Value),Exc.nil.ca.setIfInBounds o u=Exc.nil.ca→(Bl w V∧V.heap[w.heap.size + 1 + 1 + 1 + 1]?=some (.cells #[.bool f] 4 (0,0))∧V.heap[w.heap.size + 1 + 1 + 1 + 1 + 1]?=some (.cells Exc.nil.ca 71 (0,0))∧V.heap[D]?=some (.deferred (some []))) →
   (Bl w (V.setCell ⟨w.heap.size + 1 + 1 + 1 + 1 + 1,o,none⟩ u)∧(V.setCell ⟨w.heap.size + 1 + 1 + 1 + 1 + 1,o,none⟩ u).heap[w.heap.size + 1 + 1 + 1 + 1]?=some (.cells #[.bool f] 4 (0,0))∧(V.setCell ⟨w.heap.size + 1 + 1 + 1 + 1 + 1,o,none⟩ u).heap[w.heap.size + 1 + 1 + 1 + 1 + 1]?=some (.cells Exc.nil.ca 71 (0,0))∧(V.setCell ⟨w.heap.size + 1 + 1 + 1 + 1 + 1,o,none⟩ u).heap[D]?=some (.deferred (some []))) :=
  fun V o u hu ⟨k1,k2,k3,k4⟩=>⟨k1.set' _ (by show w.heap.size≤w.heap.size + 1 + 1 + 1 + 1 + 1;omega) _,(ot _ _ _ _ _ (by omega)).trans k2,by rw [heap_setCell_same V _ o _ _ _ k3,hu],(ot _ _ _ _ _ (by omega)).trans k4⟩
 obtain ⟨b,x,y,z⟩:=step _ 4 (.bool false) rfl (step _ 3 (.string ⟨#[]⟩) rfl (step _ 2 (.int .i64 0) rfl (step _ 1 (.int .i64 0) rfl (step _ 0 (.string ⟨#[]⟩) rfl ⟨s0,a0,e0,d0⟩))))
 rw [← hU] at b x y z
 have hw:=m.lt
 refine ⟨z,fun o=>⟨?_,b.put (by omega) _⟩⟩
 have x':=(World.putObj_heap_other (w:=U) (o:=o) (show w.heap.size + 1 + 1 + 1 + 1≠D by omega)).trans x
 have y':=(World.putObj_heap_other (w:=U) (o:=o) (show w.heap.size + 1 + 1 + 1 + 1 + 1≠D by omega)).trans y
 refine ⟨by rw [cell_of x'];rfl,by rw [cell_of y'];rfl,by rw [cell_of y'];rfl,by rw [cell_of y'];rfl,by rw [cell_of y'];rfl,by rw [cell_of y'];rfl⟩
set_option maxRecDepth 100000 in
set_option maxHeartbeats 8000000 in
theorem matchO_any (w:World) (hp:Nat) (h:Hp) (F:Foot) (r:HR w hp h F) (bt v c:V) (hc:(h.candO c).all (h.ftIsClass bt)=true) :
  Calls Tryz.prog 139 #[.pointer (some ⟨hp,0,none⟩),bt.agg,v.agg,c.agg] w fun e w'=>e=.returned (.tuple #[.bool (h.matchO bt v c),Exc.nil.agg])∧Bl w w':=by
 obtain ⟨l,hl⟩:∃ l,l=h.candO c:=⟨_,rfl⟩
 have hseq:=fun bh bc=>cand_seqR hp h F bh bc c (r.few c)
 have co:∀ W,Bl w W→_:=fun W hb=>ofO_any W hp h F (r.bl hb) v
 have ci:∀ W x,Bl w W→_:=fun W x hb=>ftIsClass_any W hp h F (r.bl hb) bt x
 unfold Hp.matchO
 rw [← hl] at hseq hc ⊢
 generalize (h.ofI v).1=a at co ⊢
 have csb:∀ W x,Bl w W→_:=fun W x hb=>subO_any W hp h F (r.bl hb) a x
 have cia:=fun W hb=>ci W a hb
 generalize h.ftIsClass bt a=i at cia ⊢
 generalize (h.ofI v).2=u at co ⊢
 have HRR:=zH r
 have HCS:=zH csb
 have HC:=zH hc
 have HCI:=zH ci
 have HSQ:=zH hseq
 clear hseq hl ci r csb hc
 refine (callsIn_wide (n:=3)).1 ?_
 refine callsIn_of_wp_marks Tryz.func139 rfl trivial ?_ rfl
 simp only [Tryz.ntmps139,zS,Nat.reduceAdd,Nat.reduceSub]
 cases u
 case' true =>
  gi_wp2_with (first | (refine ⟨trivial,?_⟩;gi_at_call 71;refine named (p:=fun W=>CallsIn _ _ _ _ _ W _) (fun W hW=>?_);have HO:=zH (show MatO w hp bt v c W from mat_open hW);clear hW;refine (callsIn_wide.2 (co _ HO.out.1)).mono ?_;rintro e W1 ⟨rfl,hb1⟩;have HB1:=zH hb1;clear hb1;obtain ⟨hbl1,hsz1,d0,⟨g0,g1,g2⟩,c0,c1,c2⟩:=mat_cells HO.out HB1.out;have m2:¬ w.heap.size=W1.heap.size:=(by omega);have m3:¬ w.heap.size=W1.heap.size + 1:=(by omega);have m5:¬ w.heap.size + 1=W1.heap.size:=(by omega);have m1:w.heap.size < W1.heap.size:=(by omega);have m4:w.heap.size + 1 < W1.heap.size:=(by omega)) | (refine ⟨trivial,?_⟩;gi_at_call 137;refine named (p:=fun W=>CallsIn _ _ _ _ _ W _) (fun W2 hW2=>?_);refine (callsIn_wide.2 (cia _ (hbl1.trans (mat_two hW2).1))).mono ?_;rintro e W3 ⟨rfl,hb3⟩;obtain ⟨hb13,hsz3,qt3,s1,s2,s3⟩:=mat_three (i:=i) hW2 hb3;have HS3:=zH (And.intro s1 (And.intro s2 s3));clear s1 s2 s3 hW2 hb3 d0 g0 g1 g2 c0 c1 c2;obtain ⟨-,-,d0,-,c0,c1,c2⟩:=mat_cells HO.out (HB1.out.trans hb13);have k0:W3.cell? ⟨W1.heap.size + 1,0,none⟩=some (.bool true):=(by rw [cell_of qt3];rfl);have kf:W3.frozen? ⟨W1.heap.size + 1,0,none⟩=false:=(by simp [World.frozen?,qt3]);have n1:w.heap.size < W3.heap.size:=(by omega);have n2:¬ w.heap.size=W3.heap.size:=(by omega);have n3:¬ w.heap.size + 1 + 1 + 1=W3.heap.size:=(by omega);have n4:¬ w.heap.size + 1 + 1 + 1=W1.heap.size + 1:=(by omega);have n5:w.heap.size + 1 + 1 + 1 < W3.heap.size:=(by omega);have n6:¬ w.heap.size + 1 + 1=W1.heap.size:=(by omega)) | (refine ⟨trivial,?_⟩;gi_at_call 218;refine named (p:=fun W=>CallsIn _ _ _ _ _ W _) (fun Wc hWc=>?_);refine (callsIn_wide.2 (cand_mk Wc hp c)).mono ?_;rintro e W0 ⟨rfl,hW0⟩;have HM:=zH (mat_rel (a:=a) (t:=(true && i)) (bf:=W3.heap.size) (bh:=Wc.heap.size) HO.out HB1.out HS3.out.1 HS3.out.2.1 HS3.out.2.2 (World.size_setCell _ _ _).symm rfl hWc hW0);clear hW0 hWc))
  generalize Wc.heap.size=bh at HM ⊢
  generalize W3.heap.size=bf at HM ⊢
  generalize W1.heap.size + 1=bk at HM ⊢
  generalize W1.heap.size=ba at HM ⊢
  obtain ⟨T,hT⟩:∃ T,T=(true && i):=⟨_,rfl⟩
  rw [← hT] at HM
  have HT:=zH hT
  clear hT
 case' false =>
  gi_wp2_with (first | (refine ⟨trivial,?_⟩;gi_at_call 71;refine named (p:=fun W=>CallsIn _ _ _ _ _ W _) (fun W hW=>?_);have HO:=zH (show MatO w hp bt v c W from mat_open hW);clear hW;refine (callsIn_wide.2 (co _ HO.out.1)).mono ?_;rintro e W1 ⟨rfl,hb1⟩;have HB1:=zH hb1;clear hb1;obtain ⟨hbl1,hsz1,d0,⟨g0,g1,g2⟩,c0,c1,c2⟩:=mat_cells HO.out HB1.out;have m2:¬ w.heap.size=W1.heap.size:=(by omega);have m3:¬ w.heap.size=W1.heap.size + 1:=(by omega);have m5:¬ w.heap.size + 1=W1.heap.size:=(by omega);have m1:w.heap.size < W1.heap.size:=(by omega);have m4:w.heap.size + 1 + 1 + 1 < W1.heap.size:=(by omega);have m6:¬ w.heap.size + 1 + 1 + 1=W1.heap.size:=(by omega);have m7:¬ w.heap.size + 1 + 1 + 1=W1.heap.size + 1:=(by omega);have m8:¬ w.heap.size + 1 + 1=W1.heap.size:=(by omega);have m9:¬ w.heap.size + 1 + 1 + 1=W1.heap.size + 1 + 1:=(by omega);have m10:¬ w.heap.size=W1.heap.size + 1 + 1:=(by omega);have m11:w.heap.size < W1.heap.size + 1:=(by omega);have m12:w.heap.size < W1.heap.size + 1 + 1:=(by omega);have m13:w.heap.size + 1 + 1 + 1 < W1.heap.size + 1:=(by omega);have m14:w.heap.size + 1 + 1 + 1 < W1.heap.size + 1 + 1:=(by omega);have m15:¬ w.heap.size + 1 + 1=W1.heap.size + 1:=(by omega)) | (refine ⟨trivial,?_⟩;gi_at_call 218;refine named (p:=fun W=>CallsIn _ _ _ _ _ W _) (fun Wc hWc=>?_);refine (callsIn_wide.2 (cand_mk Wc hp c)).mono ?_;rintro e W0 ⟨rfl,hW0⟩;have HM:=zH (mat_rel (a:=a) (t:=(false && i)) (bf:=(W1.heap.size + 1 + 1)) (bh:=Wc.heap.size) (Wk:=(W1.alloc (.cells a.ca 28)).alloc (.cells #[.bool false] 4)) HO.out HB1.out (mat_two (t:=false) rfl).1 (mat_two (t:=false) rfl).2.1 (mat_two (t:=false) rfl).2.2.1 (mat_two (a:=a) (t:=false) rfl).2.2.2.symm rfl hWc hW0);clear hW0 hWc) | refine ⟨trivial,?_⟩)
  generalize Wc.heap.size=bh at HM ⊢
  generalize W1.heap.size + 1 + 1=bf at HM ⊢
  generalize W1.heap.size + 1=bk at HM ⊢
  generalize W1.heap.size=ba at HM ⊢
  obtain ⟨T,hT⟩:∃ T,T=(false && i):=⟨_,rfl⟩
  rw [← hT] at HM
  have HT:=zH hT
  clear hT
 all_goals
  clear co cia
  refine range_fnR (gf:=273) (lb:=#[.pointer (some ⟨bh,0,none⟩),.pointer (some ⟨bh + 1,0,none⟩)]) rfl (enters_of Tryz.func273 (by kernel_rfl) rfl) (HSQ.out bh (bh + 1)) ?_
   (MatI w hp bt c a T ba bk bf bh (fun x=>h.subO a x) l) (fun _ _ _=>False) ?stI ?stX ?ltI ?hR (fun b=>b < bh + 2) ?h0 ?hround ?hdone ?hstop
  ·intro x hx
   obtain ⟨p,-,rfl⟩:=List.mem_map.1 hx
   rfl
  case stI=>rintro k F' A B ⟨h1,h2,h3⟩ hk;exact ⟨h1.keep hk.os hk.tape hk.output hk.size (fun b hb=>hk.block b (h2 b hb)),h2,fun b hb=>Nat.lt_of_lt_of_le (h3 b hb) hk.size⟩
  case stX=>rintro _ F' A B hx hk;exact hx
  case ltI=>rintro k F' A ⟨-,-,h3⟩;exact h3
  case hR=>rintro k F' A ⟨h1,-,-⟩;exact ⟨HRR.out.bl h1.bl,h1.qh,h1.qc⟩
  case h0=>exact ⟨HM.out.1,fun b hb=>hb,fun b hb=>by rw [HM.out.2];exact hb⟩
  case hround =>
   rintro lp k x F' A K hx ⟨hm,hF1,hF2⟩ hnl hll hK
   obtain ⟨p,hp2,rfl⟩:∃ p,l[k]?=some p∧x=#[p.agg]:=by
    unfold valArgs at hx
    rw [List.getElem?_map] at hx
    cases hp:l[k]? with
    | none=>rw [hp] at hx;cases hx
    | some p=>rw [hp] at hx;injection hx with hx;exact ⟨p,rfl,hx.symm⟩
   have hcp:=List.all_eq_true.1 HC.out p (List.mem_of_getElem? hp2)
   have HK:=zH hK
   have HS:=zH (And.intro hm (And.intro hF1 hF2))
   have HNL:=zH hnl
   have HCP:=zH hcp
   have HP2:=zH hp2
   clear hK hx hm hF1 hF2 hp2 hnl hcp
   gi_wp2
   refine HK.out _ _ (by (repeat (first | exact qA _ | assumption | refine qB ?_ _ | refine qC ?_ | refine qD ?_ _ | refine qE ?_ _ (by simp<;>omega) _))) ?_
   intro Wb hWb hsb hos htp hou
   rw [zL] at hsb
   have hWl:A.heap.size≠lp:=by omega
   have hold:∀ b,F' b→Wb.heap[b]?=A.heap[b]?:=fun b hb=>by
    rw [hWb b (fun e=>HNL.out (by rw [← e];exact hb)),Below.heap_alloc _ _ _ (HS.out.2.2 b hb)]
   obtain ⟨f,hf⟩:∃ f,f=hitM (fun x=>h.subO a x) T (l.take k):=⟨_,rfl⟩
   have m:MRel w hp bt c a T ba bk bf bh f Wb:=by
    rw [hf]
    exact HS.out.1.keep hos htp hou (by omega) fun b hb=>hold b (HS.out.2.1 b hb)
   have hpb:Wb.heap[A.heap.size]?=some (.cells p.ca 28 (0,0)):=by
    rw [hWb _ hWl];exact (MapKept.heap_alloc A (.cells p.ca 28 (0,0))).1
   have hlt:∀ b,F' b→b < Wb.heap.size:=fun b hb=>by have:=HS.out.2.2 b hb;omega
   have d0:Wb.cell? ⟨w.heap.size,0,none⟩=some (.pointer (some ⟨hp,0,none⟩)):=by rw [cell_of m.q0];rfl
   obtain ⟨g0,g1,g2,-⟩:=(Bl.refl Wb).three m.q1
   obtain ⟨a0,a1,a2,-⟩:=(Bl.refl Wb).three m.qa
   obtain ⟨p0,p1,p2,-⟩:=(Bl.refl Wb).three hpb
   have t0:Wb.cell? ⟨bk,0,none⟩=some (.bool T):=by rw [cell_of m.qt];rfl
   have f0:Wb.cell? ⟨bf,0,none⟩=some (.bool f):=by rw [cell_of m.qf];rfl
   have ci:=HCI.out Wb p m.bl
   rw [HCP.out] at ci
   have HX:=zH (And.intro m (And.intro HS.out.2.1 (And.intro hlt hf)))
   clear hWb hold hpb hos htp hou hsb hlt hf m hWl
   cases f<;>cases T
   all_goals
    gi_wp2_with (first | (refine ⟨trivial,?_⟩;gi_at_call 137;refine ((callsIn_wide.2 ci).inRound lp).mono ?_;rintro e W5 ⟨rfl,hb5⟩;have x0:=hb5.sm d0;have x1:=hb5.sm p0;have x2:=hb5.sm p1;have x3:=hb5.sm p2;have x4:=hb5.sm a0;have x5:=hb5.sm a1;have x6:=hb5.sm a2;have x7:=hb5.sm t0;have x8:=hb5.sm f0;have m5:=HX.out.1.blw hb5;have xf:W5.frozen? ⟨bf,0,none⟩=false:=(by simp [World.frozen?,m5.qf]);have HB5:=zH (And.intro hb5 m5.bl);clear hb5 m5 d0 g0 g1 g2 a0 a1 a2 p0 p1 p2 t0 f0) | (refine ⟨trivial,?_⟩;gi_at_call 217;refine ((callsIn_wide.2 (HCS.out _ p HB5.out.2)).inRound lp).mono ?_;rintro e W6 ⟨rfl,hb6⟩;have z8:=hb6.sm x8;have m6:=HX.out.1.blw (HB5.out.1.trans hb6);have zf:W6.frozen? ⟨bf,0,none⟩=false:=(by simp [World.frozen?,m6.qf]);have HB6:=zH (HB5.out.1.trans hb6);clear hb6 m6) | refine ⟨trivial,?_⟩)
   all_goals first | exact mat_step HX.out.1 HX.out.2.1 HX.out.2.2.1 HB5.out.1 HX.out.2.2.2 HP2.out rfl | exact mat_step HX.out.1 HX.out.2.1 HX.out.2.2.1 HB6.out HX.out.2.2.2 HP2.out rfl
  case hdone =>
   rintro F' W' hst ⟨hm,hF1,hF2⟩ hD hnD
   have e:(valArgs l).length=l.length:=by simp [valArgs]
   rw [e,List.take_length] at hm
   obtain ⟨f,hf⟩:∃ f,f=hitM (fun x=>h.subO a x) T l:=⟨_,rfl⟩
   rw [← hf] at hm
   have HFF:=zH hf
   clear hf
   have f0:W'.cell? ⟨bf,0,none⟩=some (.bool f):=by rw [cell_of hm.qf];rfl
   have r0:W'.cell? ⟨w.heap.size + 1 + 1 + 1 + 1,0,none⟩=some (.bool false):=by rw [cell_of hm.q4];rfl
   have rf:W'.frozen? ⟨w.heap.size + 1 + 1 + 1 + 1,0,none⟩=false:=by simp [World.frozen?,hm.q4]
   have x0:W'.cell? ⟨w.heap.size + 1 + 1 + 1 + 1 + 1,0,none⟩=some (.string ⟨#[]⟩):=by rw [cell_of hm.q5];rfl
   have x1:W'.cell? ⟨w.heap.size + 1 + 1 + 1 + 1 + 1,1,none⟩=some (.int .i64 0):=by rw [cell_of hm.q5];rfl
   have x2:W'.cell? ⟨w.heap.size + 1 + 1 + 1 + 1 + 1,2,none⟩=some (.int .i64 0):=by rw [cell_of hm.q5];rfl
   have x3:W'.cell? ⟨w.heap.size + 1 + 1 + 1 + 1 + 1,3,none⟩=some (.string ⟨#[]⟩):=by rw [cell_of hm.q5];rfl
   have x4:W'.cell? ⟨w.heap.size + 1 + 1 + 1 + 1 + 1,4,none⟩=some (.bool false):=by rw [cell_of hm.q5];rfl
   have xf:∀ o,W'.frozen? ⟨w.heap.size + 1 + 1 + 1 + 1 + 1,o,none⟩=false:=fun o=>by simp [World.frozen?,hm.q5]
   have HMM:=zH (And.intro hm hD)
   clear hst hm hF1 hF2 hD hnD e
   gi_wp2
   refine named (p:=fun U=>bodyPostM _ _ _ _ _ _ _ U) (fun U hU=>?_)
   have HE:=zH (mat_end HMM.out.1 HMM.out.2 (Nat.le_of_eq HM.out.2.symm) hU)
   clear hU
   refine ⟨by simp,.inl ⟨_,_,rfl,run_takeDeferred HE.out.1,?_⟩⟩
   obtain ⟨⟨s0,s1,s2,s3,s4,s5⟩,hbl⟩:=HE.out.2 (.deferred none)
   refine ⟨_,by simp [results,Tryz.results139,go_sem,s0,s1,s2,s3,s4,s5];rfl,?_⟩
   exact ⟨by rw [HFF.out,HT.out],hbl⟩
  case hstop=>rintro _ F' W' hst hx;exact hx.elim
end
end Go.Proofs.YtildnolfgdcndaaGreatDoor.W
