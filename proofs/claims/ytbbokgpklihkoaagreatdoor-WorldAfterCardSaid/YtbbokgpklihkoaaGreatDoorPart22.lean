/- FtT ObjC -/
import Derived.Test.YtbbokgpklihkoaaGreatDoorPart20
import Derived.Test.YtbbokgpklihkoaaGreatDoorPart21
set_option linter.unusedVariables false
set_option linter.unusedSimpArgs false
namespace Go.Proofs.YtbbokgpklihkoaaGreatDoor.W
section
open Go Go.RowKit
def ftText (nm:List UInt8):V :=
 vstr nm
set_option maxRecDepth 100000 in
set_option maxHeartbeats 4000000 in
theorem ftText_any (w:World) (nm:List UInt8):Calls Tryz.prog 100 #[.string (bs nm)] w fun e_ w'=>e_=.returned (V.agg (ftText nm))∧Bl w w':=by
 refine calls_of_wp Tryz.func100 rfl ?_
 simp only [Tryz.ntmps100,zS,Nat.reduceAdd,Nat.reduceSub]
 refine (wpIn_wide (n:=1)).1 ?_
 have hS:SW RNo w noF [] [] [] w:=SW.start (RNo.ok w) (RNo.start w) (by nofun) (by nofun)
 skip
 refine wpIn_seq_k fun K1 hK1=>?_
 refine wpL.enter hS ?_
 intro ops hops
 refine wpL.alloc (RNo.ok w) (fun b=>.pointer (some ⟨b,0,none⟩)) (obj:=Obj.cells #[.int .i64 0,.int .i64 0,.string (bs [])] 23 (0,0)) rfl (by nofun) (by nofun) (by intro w;go_simp) ?_
 intro b2
 simp only [qP]
 intro W3 hS4
 refine hK1 _ _ ?_
 (try clear hns);clear hS hops ops
 try clear hK1 K1
 refine wpIn_seq_k fun K5 hK5=>?_
 refine wpL.enter hS4 ?_
 intro ops hops
 refine wpL.take (v:=.string (bs nm)) (SW.stab (RNo.ok w)) (fun _ h=>h.sb) (YB.move _ rfl rfl rfl) ?_
 simp only [qP]
 refine wpL.take (v:=V.agg (vstr nm)) (SW.stab (RNo.ok w)) (fun _ h=>h.sb) (YB.run (by nofun) (by nofun) rfl (by intro w _;go_simp)) ?_
 simp only [qP]
 refine wpL.store (RNo.ok w) _ _ _ 0 (off:=0) (arr':=#[.int .i64 3,.int .i64 0,.string (bs nm)]) (u:=V.agg (vstr nm)) (L':=[(b2,Obj.cells #[.int .i64 3,.int .i64 0,.string (bs nm)] 23 (0,0))]) rfl (by rfl) (by rfl) (by rfl) (by rfl) (by kernel_rfl) (zB rfl) (by rfl) (by rfl) (by rfl) ?_
 simp only [qP]
 intro W6 hS7
 refine hK5 _ _ ?_
 (try clear hns);clear hS4 hops ops
 try clear hK5 K5
 refine wpIn_ret ?_
 refine bodyPost_ret (v:=V.agg (vstr nm)) (results1 Tryz.results100 (⟨_,rfl,load_whole Tryz.underlying23 rfl (by kernel_rfl) (hS7.sb.box 0 rfl)⟩)) rfl ?_
 have em:ftText nm=vstr nm:=by simp only [ftText,if_true,Bool.false_eq_true,if_false,Bool.not_true,Bool.not_false]
 rw [em]
 exact ⟨rfl,hS7.finBl⟩
end
section
open Go Go.RowKit
def numbersO (l:List V):List Int:=l.map (·.n)
set_option maxRecDepth 100000 in
set_option maxHeartbeats 4000000 in
theorem numbers_any (w:World) (al:Option Addr) (cl:Nat) (l:List V) (hl:Vx noF w (.slice al l.length cl) l) (hll:l.length≤4194304):Calls Tryz.prog 230 #[.slice al l.length cl] w (NewR nCs 2 1 w (numbersO l)):=by
 refine calls_of_wp Tryz.func230 rfl ?_
 simp only [Tryz.ntmps230,zS,Nat.reduceAdd,Nat.reduceSub]
 refine (wpIn_wide (n:=1)).1 ?_
 have hS:SW RNo w noF [] [] [vsF (.slice al l.length cl) l false] w:=SW.start (RNo.ok w) (RNo.start w) (by nofun) (start_cons hl.vs.noF.fact start_nil)
 have hol:=hl.out
 clear hl
 refine wpIn_seq_k fun K1 hK1=>?_
 refine wpL.enter hS ?_
 intro ops hops
 refine wpL.take (v:=.slice none 0 0) (SW.stab (RNo.ok w)) (fun _ h=>h.sb) (YB.assign _ rfl rfl rfl) ?_
 simp only [qP]
 intro W2 hS3
 refine hK1 _ _ ?_
 (try clear hns);clear hS hops ops
 try clear hK1 K1
 refine wpIn_seq_k fun K4 hK4=>?_
 refine wpL.enter hS3 ?_
 intro ops hops
 refine wpL.take (v:=.slice al l.length cl) (SW.stab (RNo.ok w)) (fun _ h=>h.sb) (YB.move _ rfl rfl rfl) ?_
 simp only [qP]
 refine wpL.take (v:=.int .i64 (l.length:Int)) (SW.stab (RNo.ok w)) (fun _ h=>h.sb) (YB.lenRow FWide.wide _ Tryz.underlying30 rfl rfl rfl) ?_
 simp only [qP]
 refine wpL.make (m:=l.length) (e:=2) (z:=.int .i64 0) (sz:=1) (bytes:=8) nCs (RNo.ok w) _ _ rfl rfl Tryz.underlying114 (by kernel_rfl) rfl (by decide) rfl rfl (by first | assumption | omega) ?_
 intro b5
 simp only [qP]
 refine wpL.take (v:=.slice (some ⟨b5,0,none⟩) 0 l.length) (SW.stab (RNo.ok w)) (fun _ h=>h.sb) (YB.assign _ rfl rfl rfl) ?_
 simp only [qP]
 intro W6 hS7
 refine hK4 _ _ ?_
 (try clear hns);clear hS3 hops ops
 try clear hK4 K4
 refine wpIn_seq_k fun K8 hK8=>?_
 refine wpIn_seq_k fun K9 hK9=>?_
 refine wpL.enter hS7 ?_
 intro ops hops
 refine wpL.take (v:=.slice al l.length cl) (SW.stab (RNo.ok w)) (fun _ h=>h.sb) (YB.move _ rfl rfl rfl) ?_
 simp only [qP]
 refine wpL.take (v:=.int .i64 (l.length:Int)) (SW.stab (RNo.ok w)) (fun _ h=>h.sb) (YB.lenRow FWide.wide _ Tryz.underlying30 rfl rfl rfl) ?_
 simp only [qP]
 refine wpL.take (v:=.int .i64 0) (SW.stab (RNo.ok w)) (fun _ h=>h.sb) (YB.move _ rfl rfl rfl) ?_
 simp only [qP]
 intro W10 hS11
 refine hK9 _ _ ?_
 (try clear hns);clear hS7 hops ops
 try clear hK9 K9
 refine wpIn_block ?_
 refine wpIn_loopN (l.length) (fun (i:Nat) (a:Go.Act) (W:World)=>∃ (ys:List Int) (p12:Sp) (u5:Value) (u12:Value) (u13:Value) (u14:Value) (u15:Value) (u16:Value) (u17:Value) (u18:Value) (u19:Value) (u20:Value),(ys=(l.take i).map (·.n))∧a={ tmps:=#[.slice al l.length cl,undef,.slice none 0 0,slN p12 ys.length,undef,u5,.slice al l.length cl,.int .i64 (l.length:Int),.slice (some ⟨b5,0,none⟩) 0 l.length,.slice al l.length cl,.int .i64 (l.length:Int),.int .i64 (i:Int),u12,u13,u14,u15,u16,u17,u18,u19,u20,undef],defers:=[] }∧SW RNo w noF [] [] [rowF nCs 2 1 (slN p12 ys.length) ys,vsF (.slice al l.length cl) l false] W) ?_ ?_
 ·exact ⟨[],(some ⟨b5,0,none⟩,l.length),_,_,_,_,_,_,_,_,_,_,rfl,rfl,hS11⟩
 clear hS11
 rintro i hi16 _ W13 ⟨ys,p12,u5,u12,u13,u14,u15,u16,u17,u18,u19,u20,hp15,rfl,hS14⟩
 have hN:l.length≤9223372036854775807:=(by first | omega | (simp;omega))
 refine wpIn_seq_k fun K17 hK17=>?_
 refine wpL.enter hS14 ?_
 intro ops hops
 refine wpL.take (v:=.bool (decide ((i:Int) < (l.length:Int)))) (SW.stab (RNo.ok w)) (fun _ h=>h.sb) (YB.bin_lss _ _ _ _ rfl rfl rfl rfl) ?_
 simp only [qP]
 intro W18 hS19
 refine hK17 _ _ ?_
 (try clear hns);clear hS14 hops ops
 try clear hK17 K17
 refine wpIn_seq_k fun K20 hK20=>?_
 rcases Bool.eq_false_or_eq_true (decide ((i:Int) < (l.length:Int))) with hc21 | hc21
 ·refine wpIn_cond_true (by show Value.bool (decide ((i:Int) < (l.length:Int)))=_;rw [hc21];try rfl) ?_
  have hlt:i < l.length:=by have:=of_decide_eq_true hc21;omega
  refine wpIn_skip ?_
  refine hK20 _ _ ?_
  try clear hK20 K20
  refine wpIn_seq_k fun K22 hK22=>?_
  refine wpIn_block ?_
  refine wpIn_seq_k fun K23 hK23=>?_
  refine wpL.enter hS19 ?_
  intro ops hops
  refine wpL.take (v:=.pointer (some ⟨rb (al,cl),ro (al,cl) + i * 3,none⟩)) (SW.stab (RNo.ok w)) (fun _ h=>h.sb) (YB.index (p:=(al,cl)) (m:=l.length) (i:=i) _ 23 _ _ 3 rfl rfl rfl rfl (by first | assumption | omega | (simp;omega)) Tryz.underlying30 (by kernel_rfl) (fun wz hw=>((show Rd V.cs wz (slN (al,cl) l.length) l from hw.fact 1 rfl).addr (by first | assumption | omega | (simp;omega))).1)) ?_
  simp only [qP]
  refine wpL.take (v:=V.agg (l.getD i V.nil)) (SW.stab (RNo.ok w)) (fun _ h=>h.sb) (YB.load (p:=.pointer (some ⟨rb (al,cl),ro (al,cl) + i * 3,none⟩)) _ _ rfl rfl rfl (fun wz hw=>(Rd.vs (show Rd V.cs wz (slN (al,cl) l.length) l from hw.fact 1 rfl)).loadV Tryz.underlying23 rfl (by kernel_rfl) (by first | assumption | omega | (simp;omega)))) ?_
  simp only [qP]
  refine wpL.alloc (RNo.ok w) (fun b=>.pointer (some ⟨b,0,none⟩)) (obj:=Obj.cells #[.int .i64 0,.int .i64 0,.string (bs [])] 23 (0,0)) rfl (by nofun) (by nofun) (by intro w;go_simp) ?_
  intro b24
  simp only [qP]
  refine wpL.store (RNo.ok w) _ _ _ 0 (off:=0) (arr':=#[.int .i64 ((l.getD i V.nil).k),.int .i64 ((l.getD i V.nil).n),.string (bs ((l.getD i V.nil).s))]) (u:=V.agg (l.getD i V.nil)) (L':=[(b24,Obj.cells #[.int .i64 ((l.getD i V.nil).k),.int .i64 ((l.getD i V.nil).n),.string (bs ((l.getD i V.nil).s))] 23 (0,0))]) rfl (by rfl) (by rfl) (by rfl) (by rfl) (by kernel_rfl) (zB rfl) (by rfl) (by rfl) (by rfl) ?_
  simp only [qP]
  intro W25 hS26
  refine hK23 _ _ ?_
  (try clear hns);clear hS19 hops ops
  try clear hK23 K23
  refine wpL.enter hS26 ?_
  intro ops hops
  refine wpL.take (v:=slN p12 ys.length) (SW.stab (RNo.ok w)) (fun _ h=>h.sb) (YB.move _ rfl rfl rfl) ?_
  simp only [qP]
  refine wpL.take (v:=.pointer (some ⟨b24,1,none⟩)) (SW.stab (RNo.ok w)) (fun _ h=>h.sb) (YB.run (by nofun) (by nofun) rfl (by intro w _;go_simp)) ?_
  simp only [qP]
  refine wpL.take (v:=.int .i64 ((l.getD i V.nil).n)) (SW.stab (RNo.ok w)) (fun _ h=>h.sb) (YB.load (p:=.pointer (some ⟨b24,1,none⟩)) _ _ rfl rfl rfl (fun w hw=>load_one Tryz.underlying2 rfl (hw.box 0 rfl) rfl)) ?_
  simp only [qP]
  refine wpL.alloc (RNo.ok w) (fun b=>.slice (some ⟨b,0,none⟩) 1 1) (obj:=Obj.cells #[.int .i64 ((l.getD i V.nil).n)] 2 (0,0)) rfl (by nofun) (by nofun) (by intro w;go_simp) ?_
  intro b27
  simp only [qP]
  refine wpL.append (enc:=nCs) (l:=ys) (xv:=(slN p12 ys.length)) (m:=1) (e:=2) (z:=.int .i64 0) (sz:=1) (bytes:=8)  FWide.wide (RNo.ok w) _ _ rfl rfl Tryz.underlying114 (by kernel_rfl) rfl (by decide) (by decide) (fun _=>rfl) (by intro x u hu;simp at hu;first | (subst hu;rfl) | (rcases hu with rfl | rfl | rfl<;>rfl)) 0 rfl [(l.getD i V.nil).n] rfl (by rfl) (by rfl) (fun wz hw=>srcBox (hw.sb.box 0 rfl) rfl) (by have hq:=congrArg List.length hp15;simp at hq;omega) ?_
  intro p28
  simp only [List.set_cons_zero,List.set_cons_succ]
  simp only [qP]
  refine wpL.take (v:=slN p28 (ys++[(l.getD i V.nil).n]).length) (SW.stab (RNo.ok w)) (fun _ h=>h.sb) (YB.assign _ rfl rfl rfl) ?_
  simp only [qP]
  intro W29 hS30
  refine hK22 _ _ ?_
  (try clear hns);clear hS26 hops ops
  try clear hK22 K22
  refine wpL.enter hS30 ?_
  intro ops hops
  refine wpL.take (v:=.int .i64 ((i + 1:Nat):Int)) (SW.stab (RNo.ok w)) (fun _ h=>h.sb) (YB.bin_addN (i:=i) _ _ _ _ rfl rfl rfl rfl (by omega)) ?_
  simp only [qP]
  refine wpL.take (v:=.int .i64 ((i + 1:Nat):Int)) (SW.stab (RNo.ok w)) (fun _ h=>h.sb) (YB.move _ rfl rfl rfl) ?_
  simp only [qP]
  intro W31 hS32
  exact ⟨hlt,(ys++[(l.getD i V.nil).n]),p28,_,_,_,_,_,_,_,_,_,_,(by rw [hp15,List.take_add_one,List.map_append,List.getD_eq_getElem?_getD,List.getElem?_eq_getElem hlt];rfl),rfl,hS32.dropL 2⟩
 ·refine wpIn_cond_false (by show Value.bool (decide ((i:Int) < (l.length:Int)))=_;rw [hc21];try rfl) ?_
  have hge0:i=l.length:=by have:=of_decide_eq_false hc21;omega
  refine wpIn_exit ?_
  refine hK8 _ _ ?_
  try clear hK8 K8
  refine wpIn_seq_k fun K33 hK33=>?_
  refine wpL.enter hS19 ?_
  intro ops hops
  refine wpL.take (v:=slN p12 ys.length) (SW.stab (RNo.ok w)) (fun _ h=>h.sb) (YB.move _ rfl rfl rfl) ?_
  simp only [qP]
  refine wpL.take (v:=slN p12 ys.length) (SW.stab (RNo.ok w)) (fun _ h=>h.sb) (YB.assign _ rfl rfl rfl) ?_
  simp only [qP]
  intro W34 hS35
  refine hK33 _ _ ?_
  (try clear hns);clear hS19 hops ops
  try clear hK33 K33
  refine wpIn_ret ?_
  refine bodyPost_ret (v:=slN p12 ys.length) (results1 Tryz.results230 (rfl)) rfl ?_
  have e:ys=numbersO l:=by unfold numbersO;rw [hp15,hge0,List.take_length]
  rw [← e]
  exact hS35.handR 0 rfl
end
end Go.Proofs.YtbbokgpklihkoaaGreatDoor.W
