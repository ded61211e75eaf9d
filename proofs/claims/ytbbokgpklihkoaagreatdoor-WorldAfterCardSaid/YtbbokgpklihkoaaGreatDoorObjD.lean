/- ObjD -/
import Derived.Test.YtbbokgpklihkoaaGreatDoorPart22
set_option linter.unusedVariables false
set_option linter.unusedSimpArgs false
namespace Go.Proofs.YtbbokgpklihkoaaGreatDoor.W
section
open Go Go.RowKit
abbrev tyErr:Exc:=⟨[84,121,112,101,69,114,114,111,114],V.nil,false⟩
def copyK (cl sp:V):Hp→List V→Hp
 | hh,[]=>hh
 | hh,k :: t=>copyK cl sp (hh.put cl k (hh.get sp k).1).1 t
theorem copyK_snoc (cl sp k:V) (l:List V):∀ hh,copyK cl sp hh (l++[k])=((copyK cl sp hh l).put cl k ((copyK cl sp hh l).get sp k).1).1:=by
 induction l with
 | nil=>intro hh;rfl
 | cons a t ih=>intro hh;exact ih _
def Hp.ordersO (h:Hp) (bases:List V):List (List Int):=bases.map fun b=>numbersO (h.orderO b)
def Hp.classO (h:Hp) (nm:List UInt8) (bases:List V) (sp:V):Hp × V × Exc :=
 if bases.all h.isClass=true then
  match orderF 0 (numbersO bases) (h.ordersO bases) with
  | some l=>if h.kind sp=3 then (copyK (h.make 5 nm 0 ((l.drop 1).map fun n=>vref n)).2 sp (h.make 5 nm 0 ((l.drop 1).map fun n=>vref n)).1 ((h.make 5 nm 0 ((l.drop 1).map fun n=>vref n)).1.keys sp),(h.make 5 nm 0 ((l.drop 1).map fun n=>vref n)).2,Exc.nil) else (h,V.nil,tyErr)
  | none=>(h,V.nil,tyErr)
 else (h,V.nil,tyErr)
theorem getD_mem {α:Type} {l:List α} {i:Nat} {d:α} (hi:i < l.length):l.getD i d∈l:=by
 rw [List.getD_eq_getElem?_getD,List.getElem?_eq_getElem hi];exact List.getElem_mem hi
theorem take_succ_getD {α:Type} {l:List α} {i:Nat} {d:α} (hi:i < l.length):l.take (i + 1)=l.take i++[l.getD i d]:=by
 rw [List.take_add_one,List.getD_eq_getElem?_getD,List.getElem?_eq_getElem hi];rfl
theorem classO_no {h:Hp} {nm:List UInt8} {bases:List V} {sp:V} {i:Nat} (hi:i < bases.length) (hc:h.isClass (bases.getD i V.nil)=false):h.classO nm bases sp=(h,V.nil,tyErr):=by
 unfold Hp.classO
 rw [if_neg]
 intro ha
 have:=List.all_eq_true.1 ha _ (getD_mem (d:=V.nil) hi)
 rw [hc] at this;cases this
theorem classO_none {h:Hp} {nm:List UInt8} {bases:List V} {sp:V} (ha:∀ b∈bases,h.isClass b=true) (ho:orderF 0 (numbersO bases) (h.ordersO bases)=none):h.classO nm bases sp=(h,V.nil,tyErr):=by
 unfold Hp.classO;rw [if_pos (List.all_eq_true.2 ha),ho]
theorem classO_kind {h:Hp} {nm:List UInt8} {bases:List V} {sp:V} {l:List Int} (ha:∀ b∈bases,h.isClass b=true) (ho:orderF 0 (numbersO bases) (h.ordersO bases)=some l) (hk:¬ h.kind sp=3):h.classO nm bases sp=(h,V.nil,tyErr):=by
 unfold Hp.classO;rw [if_pos (List.all_eq_true.2 ha),ho];simp only;rw [if_neg hk]
theorem classO_ok {h:Hp} {nm:List UInt8} {bases:List V} {sp:V} {l:List Int} (ha:∀ b∈bases,h.isClass b=true) (ho:orderF 0 (numbersO bases) (h.ordersO bases)=some l) (hk:h.kind sp=3) {ys:List V} (hy:ys=(l.drop 1).map fun n=>vref n) {hh:Hp}
  (hc:hh=copyK (h.make 5 nm 0 ys).2 sp (h.make 5 nm 0 ys).1 ((h.make 5 nm 0 ys).1.keys sp)):h.classO nm bases sp=(hh,(h.make 5 nm 0 ys).2,Exc.nil):=by
 subst hy hc
 unfold Hp.classO;rw [if_pos (List.all_eq_true.2 ha),ho];simp only;rw [if_pos hk]
set_option maxRecDepth 100000 in
set_option maxHeartbeats 4000000 in
theorem classO_any (w:World) (hp:Nat) (h:Hp) (F:Foot) (r:HR w hp h F) (nm:List UInt8) (abases:Option Addr) (cbases:Nat) (bases:List V) (sp:V) (hbases:Vx F w (.slice abases bases.length cbases) bases) (hlbases:bases.length≤1048576) (hb0:bases.length < 1048576) (ht:total (h.ordersO bases) + bases.length≤1048576) (hq:∀ l,orderF 0 (numbersO bases) (h.ordersO bases)=some l→l≠[]∧l.length≤1048576):Calls Tryz.prog 98 #[.pointer (some ⟨hp,0,none⟩),.string (bs nm),.slice abases bases.length cbases,V.agg sp] w fun e_ w'=>e_=.returned (.tuple #[V.agg (Hp.classO h nm bases sp).2.1,Exc.agg (Hp.classO h nm bases sp).2.2])∧HStep w hp F (Hp.classO h nm bases sp).1 w':=by
 refine calls_of_wp Tryz.func98 rfl ?_
 simp only [Tryz.ntmps98,zS,Nat.reduceAdd,Nat.reduceSub]
 refine (wpIn_wide (n:=1)).1 ?_
 have hS:SW (RH hp h) w F [] [] [vsF (.slice abases bases.length cbases) bases false] w:=SW.start (RH.ok w hp _) r (by nofun) (start_cons hbases.fact start_nil)
 clear r hbases
 refine wpIn_seq_k fun K1 hK1=>?_
 refine wpL.enter hS ?_
 intro ops hops
 refine wpL.alloc (RH.ok w hp _) (fun b=>.pointer (some ⟨b,0,none⟩)) (obj:=Obj.cells #[.int .i64 sp.k,.int .i64 sp.n,.string (bs sp.s)] 23 (0,0)) rfl (by nofun) (by nofun) (by intro w;go_simp) ?_
 intro b2
 simp only [qP]
 refine wpL.alloc (RH.ok w hp _) (fun b=>.pointer (some ⟨b,0,none⟩)) (obj:=Obj.cells #[.int .i64 0,.int .i64 0,.string (bs [])] 23 (0,0)) rfl (by nofun) (by nofun) (by intro w;go_simp) ?_
 intro b3
 simp only [qP]
 refine wpL.alloc (RH.ok w hp _) (fun b=>.pointer (some ⟨b,0,none⟩)) (obj:=Obj.cells #[.string (bs []),.int .i64 0,.int .i64 0,.string (bs []),.bool false] 66 (0,0)) rfl (by nofun) (by nofun) (by intro w;go_simp) ?_
 intro b4
 simp only [qP]
 intro W5 hS6
 refine hK1 _ _ ?_
 (try clear hns);clear hS hops ops
 try clear hK1 K1
 refine wpIn_seq_k fun K7 hK7=>?_
 refine wpL.enter hS6 ?_
 intro ops hops
 refine wpL.take (v:=Exc.agg (⟨[84,121,112,101,69,114,114,111,114],V.nil,false⟩:Exc)) (SW.stab (RH.ok w hp _)) (fun _ h=>h.sb) (YB.run (by nofun) (by nofun) rfl (by intro w _;go_simp)) ?_
 simp only [qP]
 refine wpL.alloc (RH.ok w hp _) (fun b=>.pointer (some ⟨b,0,none⟩)) (obj:=Obj.cells #[.string (bs []),.int .i64 0,.int .i64 0,.string (bs []),.bool false] 66 (0,0)) rfl (by nofun) (by nofun) (by intro w;go_simp) ?_
 intro b8
 simp only [qP]
 refine wpL.store (RH.ok w hp _) _ _ _ 0 (off:=0) (arr':=#[.string (bs [84,121,112,101,69,114,114,111,114]),.int .i64 0,.int .i64 0,.string (bs []),.bool false]) (u:=Exc.agg (⟨[84,121,112,101,69,114,114,111,114],V.nil,false⟩:Exc)) (L':=[(b8,Obj.cells #[.string (bs [84,121,112,101,69,114,114,111,114]),.int .i64 0,.int .i64 0,.string (bs []),.bool false] 66 (0,0)),(b4,Obj.cells #[.string (bs []),.int .i64 0,.int .i64 0,.string (bs []),.bool false] 66 (0,0)),(b3,Obj.cells #[.int .i64 0,.int .i64 0,.string (bs [])] 23 (0,0)),(b2,Obj.cells #[.int .i64 sp.k,.int .i64 sp.n,.string (bs sp.s)] 23 (0,0))]) rfl (by rfl) (by rfl) (by rfl) (by rfl) (by kernel_rfl) (zB rfl) (by rfl) (by rfl) (by rfl) ?_
 simp only [qP]
 intro W9 hS10
 refine hK7 _ _ ?_
 (try clear hns);clear hS6 hops ops
 try clear hK7 K7
 refine wpIn_seq_k fun K11 hK11=>?_
 refine wpL.enter hS10 ?_
 intro ops hops
 refine wpL.take (v:=.slice none 0 0) (SW.stab (RH.ok w hp _)) (fun _ h=>h.sb) (YB.assign _ rfl rfl rfl) ?_
 simp only [qP]
 intro W12 hS13
 refine hK11 _ _ ?_
 (try clear hns);clear hS10 hops ops
 try clear hK11 K11
 refine wpIn_seq_k fun K14 hK14=>?_
 refine wpIn_seq_k fun K15 hK15=>?_
 refine wpL.enter hS13 ?_
 intro ops hops
 refine wpL.take (v:=.slice abases bases.length cbases) (SW.stab (RH.ok w hp _)) (fun _ h=>h.sb) (YB.move _ rfl rfl rfl) ?_
 simp only [qP]
 refine wpL.take (v:=.int .i64 (bases.length:Int)) (SW.stab (RH.ok w hp _)) (fun _ h=>h.sb) (YB.lenRow FWide.wide _ Tryz.underlying30 rfl rfl rfl) ?_
 simp only [qP]
 refine wpL.take (v:=.int .i64 0) (SW.stab (RH.ok w hp _)) (fun _ h=>h.sb) (YB.move _ rfl rfl rfl) ?_
 simp only [qP]
 intro W16 hS17
 refine hK15 _ _ ?_
 (try clear hns);clear hS13 hops ops
 try clear hK15 K15
 refine wpIn_block ?_
 have hS18:=SW.nilRow pCs 114 1 hS17
 clear hS17
 have hS20:=SW.nilIns hS18
 clear hS18
 refine wpIn_loopN (bases.length) (fun (i:Nat) (a:Go.Act) (W:World)=>∃ (ps:List (Sp × List Int)) (p22:Sp) (u13:Value) (u28:Value) (u29:Value) (u30:Value) (u31:Value) (u32:Value) (u33:Value) (u34:Value) (u35:Value) (u36:Value) (u37:Value) (u38:Value) (u39:Value) (u40:Value) (u41:Value) (u42:Value) (u43:Value) (u44:Value),(ps.map (·.2)=(bases.take i).map (fun b=>numbersO (h.orderO b))∧∀ b∈bases.take i,h.isClass b=true)∧a={ tmps:=#[.pointer (some ⟨hp,0,none⟩),.string (bs nm),.slice abases bases.length cbases,V.agg sp,undef,undef,undef,.pointer (some ⟨b2,0,none⟩),.pointer (some ⟨b3,0,none⟩),.pointer (some ⟨b4,0,none⟩),.pointer (some ⟨b8,0,none⟩),slN p22 ps.length,undef,u13,undef,undef,undef,undef,undef,undef,undef,undef,undef,undef,Exc.agg (⟨[84,121,112,101,69,114,114,111,114],V.nil,false⟩:Exc),.slice abases bases.length cbases,.int .i64 (bases.length:Int),.int .i64 (i:Int),u28,u29,u30,u31,u32,u33,u34,u35,u36,u37,u38,u39,u40,u41,u42,u43,u44,undef,undef,undef,undef,undef,undef,undef,undef,undef,undef,undef,undef,undef,undef,undef,undef,undef,undef,undef,undef,undef,undef,undef,undef,undef,undef,undef,undef,undef,undef,undef,undef,undef,undef,undef,undef,undef,undef,undef,undef,undef,undef,undef,undef,undef,undef,undef,undef,undef,undef,undef,undef,undef,undef,undef,undef,undef],defers:=[] }∧SW (RH hp h) w F [] [(b8,Obj.cells #[.string (bs [84,121,112,101,69,114,114,111,114]),.int .i64 0,.int .i64 0,.string (bs []),.bool false] 66 (0,0)),(b4,Obj.cells #[.string (bs []),.int .i64 0,.int .i64 0,.string (bs []),.bool false] 66 (0,0)),(b3,Obj.cells #[.int .i64 0,.int .i64 0,.string (bs [])] 23 (0,0)),(b2,Obj.cells #[.int .i64 sp.k,.int .i64 sp.n,.string (bs sp.s)] 23 (0,0))] [insF ps,rowF pCs 114 1 (slN p22 ps.length) ps,vsF (.slice abases bases.length cbases) bases false] W) ?_ ?_
 ·exact ⟨[],(none,0),_,_,_,_,_,_,_,_,_,_,_,_,_,_,_,_,_,_,⟨rfl,fun b hb=>by cases hb⟩,rfl,hS20⟩
 clear hS20
 rintro i hi26 _ W23 ⟨ps,p22,u13,u28,u29,u30,u31,u32,u33,u34,u35,u36,u37,u38,u39,u40,u41,u42,u43,u44,hp25,rfl,hS24⟩
 have hN:bases.length≤9223372036854775807:=(by first | omega | (simp;omega))
 refine wpIn_seq_k fun K27 hK27=>?_
 refine wpL.enter hS24 ?_
 intro ops hops
 refine wpL.take (v:=.bool (decide ((i:Int) < (bases.length:Int)))) (SW.stab (RH.ok w hp _)) (fun _ h=>h.sb) (YB.bin_lss _ _ _ _ rfl rfl rfl rfl) ?_
 simp only [qP]
 intro W28 hS29
 refine hK27 _ _ ?_
 (try clear hns);clear hS24 hops ops
 try clear hK27 K27
 refine wpIn_seq_k fun K30 hK30=>?_
 rcases Bool.eq_false_or_eq_true (decide ((i:Int) < (bases.length:Int))) with hc31 | hc31
 ·refine wpIn_cond_true (by show Value.bool (decide ((i:Int) < (bases.length:Int)))=_;rw [hc31];try rfl) ?_
  have hlt:i < bases.length:=by have:=of_decide_eq_true hc31;omega
  refine wpIn_skip ?_
  refine hK30 _ _ ?_
  try clear hK30 K30
  refine wpIn_seq_k fun K32 hK32=>?_
  refine wpIn_block ?_
  refine wpIn_seq_k fun K33 hK33=>?_
  refine wpL.enter hS29 ?_
  intro ops hops
  refine wpL.take (v:=.pointer (some ⟨rb (abases,cbases),ro (abases,cbases) + i * 3,none⟩)) (SW.stab (RH.ok w hp _)) (fun _ h=>h.sb) (YB.index (p:=(abases,cbases)) (m:=bases.length) (i:=i) _ 23 _ _ 3 rfl rfl rfl rfl (by first | assumption | omega | (simp;omega)) Tryz.underlying30 (by kernel_rfl) (fun wz hw=>((show Rd V.cs wz (slN (abases,cbases) bases.length) bases from hw.fact 2 rfl).addr (by first | assumption | omega | (simp;omega))).1)) ?_
  simp only [qP]
  refine wpL.take (v:=V.agg (bases.getD i V.nil)) (SW.stab (RH.ok w hp _)) (fun _ h=>h.sb) (YB.load (p:=.pointer (some ⟨rb (abases,cbases),ro (abases,cbases) + i * 3,none⟩)) _ _ rfl rfl rfl (fun wz hw=>(Rd.vs (show Rd V.cs wz (slN (abases,cbases) bases.length) bases from hw.fact 2 rfl)).loadV Tryz.underlying23 rfl (by kernel_rfl) (by first | assumption | omega | (simp;omega)))) ?_
  simp only [qP]
  refine wpL.alloc (RH.ok w hp _) (fun b=>.pointer (some ⟨b,0,none⟩)) (obj:=Obj.cells #[.int .i64 0,.int .i64 0,.string (bs [])] 23 (0,0)) rfl (by nofun) (by nofun) (by intro w;go_simp) ?_
  intro b34
  simp only [qP]
  refine wpL.store (RH.ok w hp _) _ _ _ 0 (off:=0) (arr':=#[.int .i64 ((bases.getD i V.nil).k),.int .i64 ((bases.getD i V.nil).n),.string (bs ((bases.getD i V.nil).s))]) (u:=V.agg (bases.getD i V.nil)) (L':=[(b34,Obj.cells #[.int .i64 ((bases.getD i V.nil).k),.int .i64 ((bases.getD i V.nil).n),.string (bs ((bases.getD i V.nil).s))] 23 (0,0)),(b8,Obj.cells #[.string (bs [84,121,112,101,69,114,114,111,114]),.int .i64 0,.int .i64 0,.string (bs []),.bool false] 66 (0,0)),(b4,Obj.cells #[.string (bs []),.int .i64 0,.int .i64 0,.string (bs []),.bool false] 66 (0,0)),(b3,Obj.cells #[.int .i64 0,.int .i64 0,.string (bs [])] 23 (0,0)),(b2,Obj.cells #[.int .i64 sp.k,.int .i64 sp.n,.string (bs sp.s)] 23 (0,0))]) rfl (by rfl) (by rfl) (by rfl) (by rfl) (by kernel_rfl) (zB rfl) (by rfl) (by rfl) (by rfl) ?_
  simp only [qP]
  intro W35 hS36
  refine hK33 _ _ ?_
  (try clear hns);clear hS29 hops ops
  try clear hK33 K33
  refine wpIn_seq_k fun K37 hK37=>?_
  refine wpIn_seq_k fun K38 hK38=>?_
  refine wpL.enter hS36 ?_
  intro ops hops
  refine wpL.take (v:=.pointer (some ⟨hp,0,none⟩)) (SW.stab (RH.ok w hp _)) (fun _ h=>h.sb) (YB.move _ rfl rfl rfl) ?_
  simp only [qP]
  refine wpL.take (v:=V.agg (bases.getD i V.nil)) (SW.stab (RH.ok w hp _)) (fun _ h=>h.sb) (YB.load (p:=.pointer (some ⟨b34,0,none⟩)) _ _ rfl rfl rfl (fun w hw=>load_whole Tryz.underlying23 rfl (by kernel_rfl) (hw.box 0 rfl))) ?_
  simp only [qP]
  refine wpL.take (v:=.bool (h.isClass (bases.getD i V.nil))) (SW.stab (RH.ok w hp _)) (fun _ h=>h.sb) (YB.call FWide.wide _ 219 rfl rfl rfl (args:=#[.pointer (some ⟨hp,0,none⟩),V.agg (bases.getD i V.nil)]) (by simp only [List.map_toArray,List.map_cons,List.map_nil];rfl) (enters_of Tryz.func219 (by kernel_rfl) rfl) (fun wz hw=>hw.elim fun G hG=>isClass_any wz hp h G hG.res (bases.getD i V.nil))) ?_
  simp only [qP]
  refine wpL.take (v:=.bool (!(h.isClass (bases.getD i V.nil)))) (SW.stab (RH.ok w hp _)) (fun _ h=>h.sb) (YB.not _ _ rfl rfl rfl) ?_
  simp only [qP]
  intro W39 hS40
  refine hK38 _ _ ?_
  (try clear hns);clear hS36 hops ops
  try clear hK38 K38
  rcases Bool.eq_false_or_eq_true (h.isClass (bases.getD i V.nil)) with hc41 | hc41
  ·refine wpIn_cond_false (by show Value.bool (!(h.isClass (bases.getD i V.nil)))=_;rw [hc41];try rfl) ?_
   refine wpIn_skip ?_
   refine hK37 _ _ ?_
   try clear hK37 K37
   refine wpL.enter hS40 ?_
   intro ops hops
   refine wpL.take (v:=slN p22 ps.length) (SW.stab (RH.ok w hp _)) (fun _ h=>h.sb) (YB.move _ rfl rfl rfl) ?_
   simp only [qP]
   refine wpL.take (v:=.pointer (some ⟨hp,0,none⟩)) (SW.stab (RH.ok w hp _)) (fun _ h=>h.sb) (YB.move _ rfl rfl rfl) ?_
   simp only [qP]
   refine wpL.take (v:=V.agg (bases.getD i V.nil)) (SW.stab (RH.ok w hp _)) (fun _ h=>h.sb) (YB.load (p:=.pointer (some ⟨b34,0,none⟩)) _ _ rfl rfl rfl (fun w hw=>load_whole Tryz.underlying23 rfl (by kernel_rfl) (hw.box 0 rfl))) ?_
   simp only [qP]
   have fwx42:((h.orderO (bases.getD i V.nil))).length≤4194304:=hS40.sb.elim fun G hG=>Nat.le_trans (orderO_len (HR.few hG.res (bases.getD i V.nil))) (by decide)
   refine wpL.callX FWide.wide (α:=Sp) (args:=#[.pointer (some ⟨hp,0,none⟩),V.agg (bases.getD i V.nil)]) _ 231 (fun x=>sl x (h.orderO (bases.getD i V.nil))) (fun x=>SW (RH hp h) w F [] [(b34,Obj.cells #[.int .i64 ((bases.getD i V.nil).k),.int .i64 ((bases.getD i V.nil).n),.string (bs ((bases.getD i V.nil).s))] 23 (0,0)),(b8,Obj.cells #[.string (bs [84,121,112,101,69,114,114,111,114]),.int .i64 0,.int .i64 0,.string (bs []),.bool false] 66 (0,0)),(b4,Obj.cells #[.string (bs []),.int .i64 0,.int .i64 0,.string (bs []),.bool false] 66 (0,0)),(b3,Obj.cells #[.int .i64 0,.int .i64 0,.string (bs [])] 23 (0,0)),(b2,Obj.cells #[.int .i64 sp.k,.int .i64 sp.n,.string (bs sp.s)] 23 (0,0))] [vsF (sl x (h.orderO (bases.getD i V.nil))) (h.orderO (bases.getD i V.nil)) true,insF ps,rowF pCs 114 1 (slN p22 ps.length) ps,vsF (.slice abases bases.length cbases) bases false]) rfl (by rfl) (by rfl) (by simp only [List.map_toArray,List.map_cons,List.map_nil];rfl) (enters_of Tryz.func231 (by kernel_rfl) rfl) (fun wz hw=>hw.sb.elim fun G hG=>newRow (RH.ok w hp _) hw (orderO_any wz hp h G hG.res (bases.getD i V.nil))) ?_
   intro x42
   simp only [qP]
   refine wpL.callX FWide.wide (α:=Sp) (args:=#[sl x42 (h.orderO (bases.getD i V.nil))]) _ 230 (fun x=>slN x (numbersO (h.orderO (bases.getD i V.nil))).length) (fun x=>SW (RH hp h) w F [] [(b34,Obj.cells #[.int .i64 ((bases.getD i V.nil).k),.int .i64 ((bases.getD i V.nil).n),.string (bs ((bases.getD i V.nil).s))] 23 (0,0)),(b8,Obj.cells #[.string (bs [84,121,112,101,69,114,114,111,114]),.int .i64 0,.int .i64 0,.string (bs []),.bool false] 66 (0,0)),(b4,Obj.cells #[.string (bs []),.int .i64 0,.int .i64 0,.string (bs []),.bool false] 66 (0,0)),(b3,Obj.cells #[.int .i64 0,.int .i64 0,.string (bs [])] 23 (0,0)),(b2,Obj.cells #[.int .i64 sp.k,.int .i64 sp.n,.string (bs sp.s)] 23 (0,0))] [rowF nCs 2 1 (slN x (numbersO (h.orderO (bases.getD i V.nil))).length) (numbersO (h.orderO (bases.getD i V.nil))),vsF (sl x42 (h.orderO (bases.getD i V.nil))) (h.orderO (bases.getD i V.nil)) true,insF ps,rowF pCs 114 1 (slN p22 ps.length) ps,vsF (.slice abases bases.length cbases) bases false]) rfl (by rfl) (by rfl) (by simp only [List.map_toArray,List.map_cons,List.map_nil];rfl) (enters_of Tryz.func230 (by kernel_rfl) rfl) (fun wz hw=>hw.sb.elim fun G hG=>newRowR (RH.ok w hp _) hw (numbers_any wz _ _ (h.orderO (bases.getD i V.nil)) (hG.vs 0 rfl).noF (Nat.le_trans fwx42 (by decide)))) ?_
   intro x43
   simp only [qP]
   refine wpL.alloc (RH.ok w hp _) (fun b=>.slice (some ⟨b,0,none⟩) 1 1) (obj:=Obj.cells #[slN x43 (numbersO (h.orderO (bases.getD i V.nil))).length] 114 (0,0)) rfl (by nofun) (by nofun) (by intro w;go_simp) ?_
   intro b44
   simp only [qP]
   refine wpL.append (enc:=pCs) (l:=ps) (xv:=(slN p22 ps.length)) (m:=1) (e:=114) (z:=.slice none 0 0) (sz:=1) (bytes:=24)  FWide.wide (RH.ok w hp _) _ _ rfl rfl Tryz.underlying217 (by kernel_rfl) rfl (by decide) (by decide) (fun _=>rfl) (by intro x u hu;simp at hu;first | (subst hu;rfl) | (rcases hu with rfl | rfl | rfl<;>rfl)) 3 rfl [(x43,(numbersO (h.orderO (bases.getD i V.nil))))] rfl (by rfl) (by rfl) (fun wz hw=>srcBox (hw.sb.box 0 rfl) rfl) (by have hw:=congrArg List.length hp25.1;simp at hw;omega) ?_
   intro p45
   simp only [List.set_cons_zero,List.set_cons_succ]
   refine SW.joinInsL 1 rfl ?_
   simp only [List.set_cons_zero,List.set_cons_succ]
   simp only [qP]
   refine wpL.take (v:=slN p45 (ps++[(x43,(numbersO (h.orderO (bases.getD i V.nil))))]).length) (SW.stab (RH.ok w hp _)) (fun _ h=>h.sb) (YB.assign _ rfl rfl rfl) ?_
   simp only [qP]
   intro W46 hS47
   refine hK32 _ _ ?_
   (try clear hns);clear hS40 hops ops
   try clear hK32 K32
   refine wpL.enter hS47 ?_
   intro ops hops
   refine wpL.take (v:=.int .i64 ((i + 1:Nat):Int)) (SW.stab (RH.ok w hp _)) (fun _ h=>h.sb) (YB.bin_addN (i:=i) _ _ _ _ rfl rfl rfl rfl (by omega)) ?_
   simp only [qP]
   refine wpL.take (v:=.int .i64 ((i + 1:Nat):Int)) (SW.stab (RH.ok w hp _)) (fun _ h=>h.sb) (YB.move _ rfl rfl rfl) ?_
   simp only [qP]
   intro W48 hS49
   exact ⟨hlt,(ps++[(x43,(numbersO (h.orderO (bases.getD i V.nil))))]),p45,_,_,_,_,_,_,_,_,_,_,_,_,_,_,_,_,_,_,⟨by rw [List.map_append,hp25.1,take_succ_getD (d:=V.nil) hlt,List.map_append];rfl,fun b hb=>by rw [take_succ_getD (d:=V.nil) hlt] at hb;rcases List.mem_append.1 hb with hb | hb;exact hp25.2 b hb;simp at hb;subst hb;assumption⟩,rfl,(hS49.dropL 2).dropX 1⟩
  ·refine wpIn_cond_true (by show Value.bool (!(h.isClass (bases.getD i V.nil)))=_;rw [hc41];try rfl) ?_
   refine wpIn_seq_k fun K50 hK50=>?_
   refine wpS.enter (B:=(SB (RH hp h) w F [] [(b34,Obj.cells #[.int .i64 ((bases.getD i V.nil).k),.int .i64 ((bases.getD i V.nil).n),.string (bs ((bases.getD i V.nil).s))] 23 (0,0)),(b8,Obj.cells #[.string (bs [84,121,112,101,69,114,114,111,114]),.int .i64 0,.int .i64 0,.string (bs []),.bool false] 66 (0,0)),(b2,Obj.cells #[.int .i64 sp.k,.int .i64 sp.n,.string (bs sp.s)] 23 (0,0))] [insF ps,rowF pCs 114 1 (slN p22 ps.length) ps,vsF (.slice abases bases.length cbases) bases false])) 4 (by kernel_rfl) (by kernel_rfl) hS40 ?_
   intro ops hops
   have hns:Region.noSelect ops=true:=by rw [hops];kernel_rfl
   refine wpS.takeP (i:=0) (v:=V.agg V.nil) (by subst hops;simp only [zG];try rfl) hns (by rw [hops];kernel_rfl) (by rw [hops];kernel_rfl) (by intro _ _ _ h;exact h) (YB.run (by nofun) (by nofun) (by rfl) (by intro w _;go_simp)) ?_
   simp only [qP]
   refine wpS.take (i:=1) (v:=Exc.agg (⟨[84,121,112,101,69,114,114,111,114],V.nil,false⟩:Exc)) (T':=[]) (by subst hops;simp only [zG];try rfl) hns (by rw [hops];kernel_rfl) (by rw [hops];kernel_rfl) (by intro _ _ _ h;exact h) (by subst hops;kernel_rfl) (YB.load (p:=.pointer (some ⟨b8,0,none⟩)) _ _ (by rfl) (by rfl) (by rfl) (fun w hw=>load_whole Tryz.underlying66 rfl (by kernel_rfl) (hw.box 1 rfl))) ?_
   simp only [qP]
   refine wpS.store (RH.ok w hp _) (i:=2) (T':=[1]) _ _ _ 3 (off:=0) (arr':=#[.int .i64 0,.int .i64 0,.string (bs [])]) (u:=V.agg V.nil) (L':=[(b34,Obj.cells #[.int .i64 ((bases.getD i V.nil).k),.int .i64 ((bases.getD i V.nil).n),.string (bs ((bases.getD i V.nil).s))] 23 (0,0)),(b8,Obj.cells #[.string (bs [84,121,112,101,69,114,114,111,114]),.int .i64 0,.int .i64 0,.string (bs []),.bool false] 66 (0,0)),(b4,Obj.cells #[.string (bs []),.int .i64 0,.int .i64 0,.string (bs []),.bool false] 66 (0,0)),(b3,Obj.cells #[.int .i64 0,.int .i64 0,.string (bs [])] 23 (0,0)),(b2,Obj.cells #[.int .i64 sp.k,.int .i64 sp.n,.string (bs sp.s)] 23 (0,0))]) (by subst hops;simp only [zG];try rfl) (by rw [hops];kernel_rfl) (Good.some_ (RH.ok w hp _) 0 [0,1,4] rfl rfl rfl) (by subst hops;kernel_rfl) (by rfl) (by rfl) (by rfl) (by rfl) (by rfl) (by kernel_rfl) (zB rfl) (by rfl) (by rfl) (by rfl) ?_
   simp only [qP]
   refine wpS.store (RH.ok w hp _) (i:=3) (T':=[]) _ _ _ 2 (off:=0) (arr':=#[.string (bs [84,121,112,101,69,114,114,111,114]),.int .i64 0,.int .i64 0,.string (bs []),.bool false]) (u:=Exc.agg (⟨[84,121,112,101,69,114,114,111,114],V.nil,false⟩:Exc)) (L':=[(b34,Obj.cells #[.int .i64 ((bases.getD i V.nil).k),.int .i64 ((bases.getD i V.nil).n),.string (bs ((bases.getD i V.nil).s))] 23 (0,0)),(b8,Obj.cells #[.string (bs [84,121,112,101,69,114,114,111,114]),.int .i64 0,.int .i64 0,.string (bs []),.bool false] 66 (0,0)),(b4,Obj.cells #[.string (bs [84,121,112,101,69,114,114,111,114]),.int .i64 0,.int .i64 0,.string (bs []),.bool false] 66 (0,0)),(b3,Obj.cells #[.int .i64 0,.int .i64 0,.string (bs [])] 23 (0,0)),(b2,Obj.cells #[.int .i64 sp.k,.int .i64 sp.n,.string (bs sp.s)] 23 (0,0))]) (by subst hops;simp only [zG];try rfl) (by rw [hops];kernel_rfl) (Good.some_ (RH.ok w hp _) 0 [0,1,4] rfl rfl rfl) (by subst hops;kernel_rfl) (by rfl) (by rfl) (by rfl) (by rfl) (by rfl) (by kernel_rfl) (zB rfl) (by rfl) (by rfl) (by rfl) ?_
   simp only [qP]
   refine wpS.done ?_ ?_ ?_ _
   ·rw [hops];kernel_rfl
   ·exact (Good.nil (RH.ok w hp _))
   intro W51 hS52
   refine hK50 _ _ ?_
   (try clear hns);clear hS40 hops ops
   try clear hK50 K50
   refine wpIn_ret ?_
   refine then_ret ?_
   refine block_ret ?_
   refine then_ret ?_
   refine then_ret ?_
   refine block_ret ?_
   refine then_ret ?_
   refine bodyPost_ret (v:=.tuple #[V.agg V.nil,Exc.agg (⟨[84,121,112,101,69,114,114,111,114],V.nil,false⟩:Exc)]) (results2 Tryz.results98 (⟨_,rfl,load_whole Tryz.underlying23 rfl (by kernel_rfl) (hS52.sb.box 3 rfl)⟩) (⟨_,rfl,load_whole Tryz.underlying66 rfl (by kernel_rfl) (hS52.sb.box 2 rfl)⟩)) rfl ?_
   rw [classO_no hlt hc41]
   exact ⟨rfl,hS52.fin⟩
 ·refine wpIn_cond_false (by show Value.bool (decide ((i:Int) < (bases.length:Int)))=_;rw [hc31];try rfl) ?_
  have hge0:i=bases.length:=by have:=of_decide_eq_false hc31;omega
  refine wpIn_exit ?_
  refine hK14 _ _ ?_
  try clear hK14 K14
  refine wpIn_seq_k fun K53 hK53=>?_
  refine wpL.enter hS29 ?_
  intro ops hops
  refine wpL.take (v:=.slice abases bases.length cbases) (SW.stab (RH.ok w hp _)) (fun _ h=>h.sb) (YB.move _ rfl rfl rfl) ?_
  simp only [qP]
  refine wpL.callX FWide.wide (α:=Sp) (args:=#[.slice abases bases.length cbases]) _ 230 (fun x=>slN x (numbersO bases).length) (fun x=>SW (RH hp h) w F [] [(b8,Obj.cells #[.string (bs [84,121,112,101,69,114,114,111,114]),.int .i64 0,.int .i64 0,.string (bs []),.bool false] 66 (0,0)),(b4,Obj.cells #[.string (bs []),.int .i64 0,.int .i64 0,.string (bs []),.bool false] 66 (0,0)),(b3,Obj.cells #[.int .i64 0,.int .i64 0,.string (bs [])] 23 (0,0)),(b2,Obj.cells #[.int .i64 sp.k,.int .i64 sp.n,.string (bs sp.s)] 23 (0,0))] [rowF nCs 2 1 (slN x (numbersO bases).length) (numbersO bases),insF ps,rowF pCs 114 1 (slN p22 ps.length) ps,vsF (.slice abases bases.length cbases) bases false]) rfl (by rfl) (by rfl) (by simp only [List.map_toArray,List.map_cons,List.map_nil];rfl) (enters_of Tryz.func230 (by kernel_rfl) rfl) (fun wz hw=>hw.sb.elim fun G hG=>newRowR (RH.ok w hp _) hw (numbers_any wz _ _ bases (hG.vs 2 rfl).noF (Nat.le_trans hlbases (by decide)))) ?_
  intro x54
  simp only [qP]
  refine wpL.take (v:=slN p22 ps.length) (SW.stab (RH.ok w hp _)) (fun _ h=>h.sb) (YB.move _ rfl rfl rfl) ?_
  simp only [qP]
  cases hof:orderF 0 (numbersO bases) (ps.map (·.2)) with
  | none =>
   refine wpL.take (v:=.tuple #[.slice none 0 0,.bool false]) (SW.stab (RH.ok w hp _)) (fun _ h=>h.sb) (YB.call FWide.wide _ 232 rfl rfl rfl (args:=#[.int .i64 0,slN x54 (numbersO bases).length,slN p22 ps.length]) (by simp only [List.map_toArray,List.map_cons,List.map_nil];rfl) (enters_of Tryz.func232 (by kernel_rfl) rfl) (linOrder_none 0 0 2 1 rfl rfl rfl (by have hw:=congrArg List.length hp25.1;simp [hge0] at hw;omega) (by have e:ps.map (·.2)=h.ordersO bases:=(by rw [hp25.1,hge0,List.take_length];rfl);have e2:(numbersO bases).length=bases.length:=(by simp [numbersO]);rw [e,e2];exact ht) hof)) ?_
   simp only [qP]
   refine wpL.take (v:=.tuple #[.slice none 0 0,.bool false]) (SW.stab (RH.ok w hp _)) (fun _ h=>h.sb) (YB.move _ rfl rfl rfl) ?_
   simp only [qP]
   refine wpL.take (v:=.slice none 0 0) (SW.stab (RH.ok w hp _)) (fun _ h=>h.sb) (YB.extract (vs:=#[.slice none 0 0,.bool false]) _ _ rfl rfl rfl rfl) ?_
   simp only [qP]
   refine wpL.take (v:=.bool false) (SW.stab (RH.ok w hp _)) (fun _ h=>h.sb) (YB.extract (vs:=#[.slice none 0 0,.bool false]) _ _ rfl rfl rfl rfl) ?_
   simp only [qP]
   refine wpL.take (v:=.slice none 0 0) (SW.stab (RH.ok w hp _)) (fun _ h=>h.sb) (YB.assign _ rfl rfl rfl) ?_
   simp only [qP]
   refine wpL.take (v:=.bool false) (SW.stab (RH.ok w hp _)) (fun _ h=>h.sb) (YB.assign _ rfl rfl rfl) ?_
   simp only [qP]
   intro W57 hS58
   refine hK53 _ _ ?_
   (try clear hns);clear hS29 hops ops
   try clear hK53 K53
   refine wpIn_seq_k fun K59 hK59=>?_
   refine wpIn_seq_k fun K60 hK60=>?_
   refine wpL.enter hS58 ?_
   intro ops hops
   refine wpL.take (v:=.bool false) (SW.stab (RH.ok w hp _)) (fun _ h=>h.sb) (YB.move _ rfl rfl rfl) ?_
   simp only [qP]
   refine wpL.take (v:=.bool true) (SW.stab (RH.ok w hp _)) (fun _ h=>h.sb) (YB.run (by nofun) (by nofun) rfl (by intro w _;go_simp)) ?_
   simp only [qP]
   refine wpL.take (v:=.bool true) (SW.stab (RH.ok w hp _)) (fun _ h=>h.sb) (YB.move _ rfl rfl rfl) ?_
   simp only [qP]
   refine wpL.take (v:=undef) (SW.stab (RH.ok w hp _)) (fun _ h=>h.sb) (YB.pass FWide.wide (by rw [hops];rfl)) ?_
   simp only [qP]
   refine wpL.take (v:=undef) (SW.stab (RH.ok w hp _)) (fun _ h=>h.sb) (YB.pass FWide.wide (by rw [hops];rfl)) ?_
   simp only [qP]
   refine wpL.take (v:=undef) (SW.stab (RH.ok w hp _)) (fun _ h=>h.sb) (YB.pass FWide.wide (by rw [hops];rfl)) ?_
   simp only [qP]
   refine wpL.take (v:=undef) (SW.stab (RH.ok w hp _)) (fun _ h=>h.sb) (YB.pass FWide.wide (by rw [hops];rfl)) ?_
   simp only [qP]
   refine wpL.take (v:=.bool true) (SW.stab (RH.ok w hp _)) (fun _ h=>h.sb) (YB.run (by nofun) (by nofun) rfl (by intro w _;go_simp)) ?_
   simp only [qP]
   intro W61 hS62
   refine hK60 _ _ ?_
   (try clear hns);clear hS58 hops ops
   try clear hK60 K60
   refine wpIn_cond_true rfl ?_
   refine wpIn_seq_k fun K63 hK63=>?_
   refine wpS.enter (B:=(SB (RH hp h) w F [] [(b8,Obj.cells #[.string (bs [84,121,112,101,69,114,114,111,114]),.int .i64 0,.int .i64 0,.string (bs []),.bool false] 66 (0,0)),(b2,Obj.cells #[.int .i64 sp.k,.int .i64 sp.n,.string (bs sp.s)] 23 (0,0))] [rowF nCs 2 1 (slN x54 (numbersO bases).length) (numbersO bases),insF ps,rowF pCs 114 1 (slN p22 ps.length) ps,vsF (.slice abases bases.length cbases) bases false])) 4 (by kernel_rfl) (by kernel_rfl) hS62 ?_
   intro ops hops
   have hns:Region.noSelect ops=true:=by rw [hops];kernel_rfl
   refine wpS.takeP (i:=0) (v:=V.agg V.nil) (by subst hops;simp only [zG];try rfl) hns (by rw [hops];kernel_rfl) (by rw [hops];kernel_rfl) (by intro _ _ _ h;exact h) (YB.run (by nofun) (by nofun) (by rfl) (by intro w _;go_simp)) ?_
   simp only [qP]
   refine wpS.take (i:=1) (v:=Exc.agg (⟨[84,121,112,101,69,114,114,111,114],V.nil,false⟩:Exc)) (T':=[]) (by subst hops;simp only [zG];try rfl) hns (by rw [hops];kernel_rfl) (by rw [hops];kernel_rfl) (by intro _ _ _ h;exact h) (by subst hops;kernel_rfl) (YB.load (p:=.pointer (some ⟨b8,0,none⟩)) _ _ (by rfl) (by rfl) (by rfl) (fun w hw=>load_whole Tryz.underlying66 rfl (by kernel_rfl) (hw.box 0 rfl))) ?_
   simp only [qP]
   refine wpS.store (RH.ok w hp _) (i:=2) (T':=[1]) _ _ _ 2 (off:=0) (arr':=#[.int .i64 0,.int .i64 0,.string (bs [])]) (u:=V.agg V.nil) (L':=[(b8,Obj.cells #[.string (bs [84,121,112,101,69,114,114,111,114]),.int .i64 0,.int .i64 0,.string (bs []),.bool false] 66 (0,0)),(b4,Obj.cells #[.string (bs []),.int .i64 0,.int .i64 0,.string (bs []),.bool false] 66 (0,0)),(b3,Obj.cells #[.int .i64 0,.int .i64 0,.string (bs [])] 23 (0,0)),(b2,Obj.cells #[.int .i64 sp.k,.int .i64 sp.n,.string (bs sp.s)] 23 (0,0))]) (by subst hops;simp only [zG];try rfl) (by rw [hops];kernel_rfl) (Good.some_ (RH.ok w hp _) 0 [0,3] rfl rfl rfl) (by subst hops;kernel_rfl) (by rfl) (by rfl) (by rfl) (by rfl) (by rfl) (by kernel_rfl) (zB rfl) (by rfl) (by rfl) (by rfl) ?_
   simp only [qP]
   refine wpS.store (RH.ok w hp _) (i:=3) (T':=[]) _ _ _ 1 (off:=0) (arr':=#[.string (bs [84,121,112,101,69,114,114,111,114]),.int .i64 0,.int .i64 0,.string (bs []),.bool false]) (u:=Exc.agg (⟨[84,121,112,101,69,114,114,111,114],V.nil,false⟩:Exc)) (L':=[(b8,Obj.cells #[.string (bs [84,121,112,101,69,114,114,111,114]),.int .i64 0,.int .i64 0,.string (bs []),.bool false] 66 (0,0)),(b4,Obj.cells #[.string (bs [84,121,112,101,69,114,114,111,114]),.int .i64 0,.int .i64 0,.string (bs []),.bool false] 66 (0,0)),(b3,Obj.cells #[.int .i64 0,.int .i64 0,.string (bs [])] 23 (0,0)),(b2,Obj.cells #[.int .i64 sp.k,.int .i64 sp.n,.string (bs sp.s)] 23 (0,0))]) (by subst hops;simp only [zG];try rfl) (by rw [hops];kernel_rfl) (Good.some_ (RH.ok w hp _) 0 [0,3] rfl rfl rfl) (by subst hops;kernel_rfl) (by rfl) (by rfl) (by rfl) (by rfl) (by rfl) (by kernel_rfl) (zB rfl) (by rfl) (by rfl) (by rfl) ?_
   simp only [qP]
   refine wpS.done ?_ ?_ ?_ _
   ·rw [hops];kernel_rfl
   ·exact (Good.nil (RH.ok w hp _))
   intro W64 hS65
   refine hK63 _ _ ?_
   (try clear hns);clear hS62 hops ops
   try clear hK63 K63
   refine wpIn_ret ?_
   refine then_ret ?_
   refine bodyPost_ret (v:=.tuple #[V.agg V.nil,Exc.agg (⟨[84,121,112,101,69,114,114,111,114],V.nil,false⟩:Exc)]) (results2 Tryz.results98 (⟨_,rfl,load_whole Tryz.underlying23 rfl (by kernel_rfl) (hS65.sb.box 2 rfl)⟩) (⟨_,rfl,load_whole Tryz.underlying66 rfl (by kernel_rfl) (hS65.sb.box 1 rfl)⟩)) rfl ?_
   rw [classO_none (h:=h) (bases:=bases) (fun b hb=>hp25.2 b (by rw [hge0,List.take_length];exact hb)) (by rw [← hof,hp25.1,hge0,List.take_length];rfl)]
   exact ⟨rfl,hS65.fin⟩
  | some l56 =>
   refine wpL.callX FWide.wide (α:=Sp) (args:=#[.int .i64 0,slN x54 (numbersO bases).length,slN p22 ps.length]) _ 232 (fun x=>.tuple #[slN x l56.length,.bool true]) (fun x=>SW (RH hp h) w F [] [(b8,Obj.cells #[.string (bs [84,121,112,101,69,114,114,111,114]),.int .i64 0,.int .i64 0,.string (bs []),.bool false] 66 (0,0)),(b4,Obj.cells #[.string (bs []),.int .i64 0,.int .i64 0,.string (bs []),.bool false] 66 (0,0)),(b3,Obj.cells #[.int .i64 0,.int .i64 0,.string (bs [])] 23 (0,0)),(b2,Obj.cells #[.int .i64 sp.k,.int .i64 sp.n,.string (bs sp.s)] 23 (0,0))] [rdF nCs (slN x l56.length) l56 true,rowF nCs 2 1 (slN x54 (numbersO bases).length) (numbersO bases),insF ps,rowF pCs 114 1 (slN p22 ps.length) ps,vsF (.slice abases bases.length cbases) bases false]) rfl (by rfl) (by rfl) (by simp only [List.map_toArray,List.map_cons,List.map_nil];rfl) (enters_of Tryz.func232 (by kernel_rfl) rfl) (linOrder_some (RH.ok w hp _) 0 0 2 1 rfl rfl rfl (by have hw:=congrArg List.length hp25.1;simp [hge0] at hw;omega) (by have e:ps.map (·.2)=h.ordersO bases:=(by rw [hp25.1,hge0,List.take_length];rfl);have e2:(numbersO bases).length=bases.length:=(by simp [numbersO]);rw [e,e2];exact ht) hof) ?_
   intro x55
   simp only [qP]
   refine wpL.take (v:=.tuple #[slN x55 l56.length,.bool true]) (SW.stab (RH.ok w hp _)) (fun _ h=>h.sb) (YB.move _ rfl rfl rfl) ?_
   simp only [qP]
   refine wpL.take (v:=slN x55 l56.length) (SW.stab (RH.ok w hp _)) (fun _ h=>h.sb) (YB.extract (vs:=#[slN x55 l56.length,.bool true]) _ _ rfl rfl rfl rfl) ?_
   simp only [qP]
   refine wpL.take (v:=.bool true) (SW.stab (RH.ok w hp _)) (fun _ h=>h.sb) (YB.extract (vs:=#[slN x55 l56.length,.bool true]) _ _ rfl rfl rfl rfl) ?_
   simp only [qP]
   refine wpL.take (v:=slN x55 l56.length) (SW.stab (RH.ok w hp _)) (fun _ h=>h.sb) (YB.assign _ rfl rfl rfl) ?_
   simp only [qP]
   refine wpL.take (v:=.bool true) (SW.stab (RH.ok w hp _)) (fun _ h=>h.sb) (YB.assign _ rfl rfl rfl) ?_
   simp only [qP]
   intro W66 hS67
   refine hK53 _ _ ?_
   (try clear hns);clear hS29 hops ops
   try clear hK53 K53
   refine wpIn_seq_k fun K68 hK68=>?_
   refine wpIn_seq_k fun K69 hK69=>?_
   refine wpL.enter hS67 ?_
   intro ops hops
   refine wpL.take (v:=.bool true) (SW.stab (RH.ok w hp _)) (fun _ h=>h.sb) (YB.move _ rfl rfl rfl) ?_
   simp only [qP]
   refine wpL.take (v:=.bool false) (SW.stab (RH.ok w hp _)) (fun _ h=>h.sb) (YB.run (by nofun) (by nofun) rfl (by intro w _;go_simp)) ?_
   simp only [qP]
   refine wpL.take (v:=.bool false) (SW.stab (RH.ok w hp _)) (fun _ h=>h.sb) (YB.move _ rfl rfl rfl) ?_
   simp only [qP]
   refine wpL.take (v:=.pointer (some ⟨hp,0,none⟩)) (SW.stab (RH.ok w hp _)) (fun _ h=>h.sb) (YB.move _ rfl (by rw [hops];rfl) rfl) ?_
   simp only [qP]
   refine wpL.take (v:=V.agg sp) (SW.stab (RH.ok w hp _)) (fun _ h=>h.sb) (YB.load (p:=.pointer (some ⟨b2,0,none⟩)) _ _ rfl (by rw [hops];rfl) rfl (fun w hw=>load_whole Tryz.underlying23 rfl (by kernel_rfl) (hw.box 3 rfl))) ?_
   simp only [qP]
   refine wpL.take (v:=.int .i64 (h.kind sp)) (SW.stab (RH.ok w hp _)) (fun _ h=>h.sb) (YB.call FWide.wide _ 92 rfl rfl (by rw [hops];rfl) (args:=#[.pointer (some ⟨hp,0,none⟩),V.agg sp]) (by simp only [List.map_toArray,List.map_cons,List.map_nil];rfl) (enters_of Tryz.func92 (by kernel_rfl) rfl) (fun wz hw=>hw.elim fun G hG=>kind_any wz hp h G hG.res sp)) ?_
   simp only [qP]
   refine wpL.take (v:=.bool (!decide ((h.kind sp)=3))) (SW.stab (RH.ok w hp _)) (fun _ h=>h.sb) (YB.bin_neq _ _ _ _ rfl (by rw [hops];rfl) rfl rfl) ?_
   simp only [qP]
   refine wpL.take (v:=.bool (!decide ((h.kind sp)=3))) (SW.stab (RH.ok w hp _)) (fun _ h=>h.sb) (YB.run (by nofun) (by nofun) rfl (by intro w _;go_simp)) ?_
   simp only [qP]
   intro W70 hS71
   refine hK69 _ _ ?_
   (try clear hns);clear hS67 hops ops
   try clear hK69 K69
   rcases Bool.eq_false_or_eq_true (decide ((h.kind sp)=3)) with hc72 | hc72
   ·refine wpIn_cond_false (by show Value.bool (!decide ((h.kind sp)=3))=_;rw [hc72];try rfl) ?_
    refine wpIn_skip ?_
    refine hK68 _ _ ?_
    try clear hK68 K68
    refine wpIn_seq_k fun K73 hK73=>?_
    refine wpL.enter hS71 ?_
    intro ops hops
    refine wpL.take (v:=.slice none 0 0) (SW.stab (RH.ok w hp _)) (fun _ h=>h.sb) (YB.assign _ rfl rfl rfl) ?_
    simp only [qP]
    intro W74 hS75
    refine hK73 _ _ ?_
    (try clear hns);clear hS71 hops ops
    try clear hK73 K73
    refine wpIn_seq_k fun K76 hK76=>?_
    refine wpIn_seq_k fun K77 hK77=>?_
    refine wpL.enter hS75 ?_
    intro ops hops
    refine wpL.take (v:=slN x55 l56.length) (SW.stab (RH.ok w hp _)) (fun _ h=>h.sb) (YB.move _ rfl rfl rfl) ?_
    simp only [qP]
    refine wpL.take (v:=slN (cutP x55 1 x55.2 1) (l56.drop 1).length) (SW.stab (RH.ok w hp _)) (fun _ h=>h.sb) (YB.cutFrom (sz:=1) (lo:=1) (p:=x55) (l:=l56) _ _ Tryz.underlying114 (by kernel_rfl) rfl rfl rfl rfl (by have hw:=(hq _ (by rw [← hof,show ps.map (·.2)=h.ordersO bases from (by rw [hp25.1,hge0,List.take_length];rfl)])).1;exact List.length_pos_iff.2 hw)) ?_
    refine SW.cutFromL (enc:=nCs) (sz:=1) (nw:=true) (p:=x55) (l:=l56) (fun _=>rfl) 0 rfl 1 (by have hw:=(hq _ (by rw [← hof,show ps.map (·.2)=h.ordersO bases from (by rw [hp25.1,hge0,List.take_length];rfl)])).1;exact List.length_pos_iff.2 hw) ?_
    simp only [qP]
    refine wpL.take (v:=.int .i64 ((l56.drop 1).length:Int)) (SW.stab (RH.ok w hp _)) (fun _ h=>h.sb) (YB.lenRow FWide.wide _ Tryz.underlying114 rfl rfl rfl) ?_
    simp only [qP]
    refine wpL.take (v:=.int .i64 0) (SW.stab (RH.ok w hp _)) (fun _ h=>h.sb) (YB.move _ rfl rfl rfl) ?_
    simp only [qP]
    intro W79 hS80
    refine hK77 _ _ ?_
    (try clear hns);clear hS75 hops ops
    try clear hK77 K77
    refine wpIn_block ?_
    have hS81:=SW.nilRow V.cs 23 3 hS80
    clear hS80
    refine wpIn_loopN ((l56.drop 1).length) (fun (j:Nat) (a:Go.Act) (W:World)=>∃ (ys:List V) (p83:Sp) (u18:Value) (u66:Value) (u67:Value) (u68:Value) (u69:Value) (u70:Value) (u71:Value) (u72:Value) (u73:Value) (u74:Value),(ys=((l56.drop 1).take j).map (fun n=>vref n))∧a={ tmps:=#[.pointer (some ⟨hp,0,none⟩),.string (bs nm),.slice abases bases.length cbases,V.agg sp,undef,undef,undef,.pointer (some ⟨b2,0,none⟩),.pointer (some ⟨b3,0,none⟩),.pointer (some ⟨b4,0,none⟩),.pointer (some ⟨b8,0,none⟩),slN p22 ps.length,undef,u13,slN x55 l56.length,.bool true,slN p83 ys.length,undef,u18,undef,undef,undef,undef,undef,Exc.agg (⟨[84,121,112,101,69,114,114,111,114],V.nil,false⟩:Exc),.slice abases bases.length cbases,.int .i64 (bases.length:Int),.int .i64 (i:Int),.bool (decide ((i:Int) < (bases.length:Int))),u29,u30,u31,u32,u33,u34,u35,u36,u37,u38,u39,u40,u41,u42,u43,u44,.tuple #[slN x55 l56.length,.bool true],.slice abases bases.length cbases,slN x54 (numbersO bases).length,slN p22 ps.length,.tuple #[slN x55 l56.length,.bool true],slN x55 l56.length,.bool true,.bool true,.bool false,.bool false,.pointer (some ⟨hp,0,none⟩),V.agg sp,.int .i64 (h.kind sp),.bool (!decide ((h.kind sp)=3)),.bool (!decide ((h.kind sp)=3)),undef,undef,slN x55 l56.length,slN (cutP x55 1 x55.2 1) (l56.drop 1).length,.int .i64 ((l56.drop 1).length:Int),.int .i64 (j:Int),u66,u67,u68,u69,u70,u71,u72,u73,u74,undef,undef,undef,undef,undef,undef,undef,undef,undef,undef,undef,undef,undef,undef,undef,undef,undef,undef,undef,undef,undef,undef,undef,undef,undef,undef,undef],defers:=[] }∧SW (RH hp h) w F [] [(b8,Obj.cells #[.string (bs [84,121,112,101,69,114,114,111,114]),.int .i64 0,.int .i64 0,.string (bs []),.bool false] 66 (0,0)),(b4,Obj.cells #[.string (bs []),.int .i64 0,.int .i64 0,.string (bs []),.bool false] 66 (0,0)),(b3,Obj.cells #[.int .i64 0,.int .i64 0,.string (bs [])] 23 (0,0)),(b2,Obj.cells #[.int .i64 sp.k,.int .i64 sp.n,.string (bs sp.s)] 23 (0,0))] [rowF V.cs 23 3 (slN p83 ys.length) ys,rdF nCs (slN (cutP x55 1 x55.2 1) (l56.drop 1).length) (l56.drop 1) true,rdF nCs (slN x55 l56.length) l56 true,rowF nCs 2 1 (slN x54 (numbersO bases).length) (numbersO bases),insF ps,rowF pCs 114 1 (slN p22 ps.length) ps,vsF (.slice abases bases.length cbases) bases false] W) ?_ ?_
    ·exact ⟨[],(none,0),_,_,_,_,_,_,_,_,_,_,rfl,rfl,hS81⟩
    clear hS81
    rintro j hi87 _ W84 ⟨ys,p83,u18,u66,u67,u68,u69,u70,u71,u72,u73,u74,hp86,rfl,hS85⟩
    have hN:(l56.drop 1).length≤9223372036854775807:=(by have hv:=(hq _ (by rw [← hof,show ps.map (·.2)=h.ordersO bases from (by rw [hp25.1,hge0,List.take_length];rfl)])).2;simp;omega)
    refine wpIn_seq_k fun K88 hK88=>?_
    refine wpL.enter hS85 ?_
    intro ops hops
    refine wpL.take (v:=.bool (decide ((j:Int) < ((l56.drop 1).length:Int)))) (SW.stab (RH.ok w hp _)) (fun _ h=>h.sb) (YB.bin_lss _ _ _ _ rfl rfl rfl rfl) ?_
    simp only [qP]
    intro W89 hS90
    refine hK88 _ _ ?_
    (try clear hns);clear hS85 hops ops
    try clear hK88 K88
    refine wpIn_seq_k fun K91 hK91=>?_
    rcases Bool.eq_false_or_eq_true (decide ((j:Int) < ((l56.drop 1).length:Int))) with hc92 | hc92
    ·refine wpIn_cond_true (by show Value.bool (decide ((j:Int) < ((l56.drop 1).length:Int)))=_;rw [hc92];try rfl) ?_
     have hlt:j < (l56.drop 1).length:=by have:=of_decide_eq_true hc92;omega
     refine wpIn_skip ?_
     refine hK91 _ _ ?_
     try clear hK91 K91
     refine wpIn_seq_k fun K93 hK93=>?_
     refine wpIn_block ?_
     refine wpIn_seq_k fun K94 hK94=>?_
     refine wpL.enter hS90 ?_
     intro ops hops
     refine wpL.take (v:=.pointer (some ⟨rb (cutP x55 1 x55.2 1),ro (cutP x55 1 x55.2 1) + j * 1,none⟩)) (SW.stab (RH.ok w hp _)) (fun _ h=>h.sb) (YB.index (p:=(cutP x55 1 x55.2 1)) (m:=(l56.drop 1).length) (i:=j) _ 2 _ _ 1 rfl rfl rfl rfl (by first | assumption | omega | (simp;omega)) Tryz.underlying114 (by kernel_rfl) (fun wz hw=>((show Rd nCs wz (slN (cutP x55 1 x55.2 1) (l56.drop 1).length) (l56.drop 1) from hw.fact 1 rfl).addr (by first | assumption | omega | (simp;omega))).1)) ?_
     simp only [qP]
     refine wpL.take (v:=.int .i64 ((l56.drop 1).getD j 0)) (SW.stab (RH.ok w hp _)) (fun _ h=>h.sb) (YB.load (p:=.pointer (some ⟨rb (cutP x55 1 x55.2 1),ro (cutP x55 1 x55.2 1) + j * 1,none⟩)) _ _ rfl rfl rfl (fun wz hw=>load_cell Tryz.underlying2 rfl ((show Rd nCs wz (slN (cutP x55 1 x55.2 1) (l56.drop 1).length) (l56.drop 1) from hw.fact 1 rfl).elemN (by first | assumption | omega | (simp;omega))))) ?_
     simp only [qP]
     refine wpL.take (v:=.int .i64 ((l56.drop 1).getD j 0)) (SW.stab (RH.ok w hp _)) (fun _ h=>h.sb) (YB.assign _ rfl rfl rfl) ?_
     simp only [qP]
     intro W95 hS96
     refine hK94 _ _ ?_
     (try clear hns);clear hS90 hops ops
     try clear hK94 K94
     refine wpL.enter hS96 ?_
     intro ops hops
     refine wpL.take (v:=slN p83 ys.length) (SW.stab (RH.ok w hp _)) (fun _ h=>h.sb) (YB.move _ rfl rfl rfl) ?_
     simp only [qP]
     refine wpL.take (v:=.int .i64 ((l56.drop 1).getD j 0)) (SW.stab (RH.ok w hp _)) (fun _ h=>h.sb) (YB.move _ rfl rfl rfl) ?_
     simp only [qP]
     refine wpL.take (v:=V.agg (vref ((l56.drop 1).getD j 0))) (SW.stab (RH.ok w hp _)) (fun _ h=>h.sb) (YB.run (by nofun) (by nofun) rfl (by intro w _;go_simp)) ?_
     simp only [qP]
     refine wpL.alloc (RH.ok w hp _) (fun b=>.slice (some ⟨b,0,none⟩) 1 1) (obj:=Obj.cells #[.int .i64 4,.int .i64 ((l56.drop 1).getD j 0),.string (bs [])] 23 (0,0)) rfl (by nofun) (by nofun) (by intro w;go_simp) ?_
     intro b97
     simp only [qP]
     refine wpL.append (enc:=V.cs) (l:=ys) (xv:=(slN p83 ys.length)) (m:=1) (e:=23) (z:=.agg #[.int .i64 0,.int .i64 0,.string ⟨#[]⟩]) (sz:=3) (bytes:=32)  FWide.wide (RH.ok w hp _) _ _ rfl rfl Tryz.underlying30 (by kernel_rfl) rfl (by decide) (by decide) (fun _=>rfl) (by intro x u hu;simp at hu;first | (subst hu;rfl) | (rcases hu with rfl | rfl | rfl<;>rfl)) 0 rfl [vref ((l56.drop 1).getD j 0)] rfl (by rfl) (by rfl) (fun wz hw=>srcBox (hw.sb.box 0 rfl) rfl) (by have hw:=congrArg List.length hp86;have hv:=(hq _ (by rw [← hof,show ps.map (·.2)=h.ordersO bases from (by rw [hp25.1,hge0,List.take_length];rfl)])).2;simp at hw;omega) ?_
     intro p98
     simp only [List.set_cons_zero,List.set_cons_succ]
     simp only [qP]
     refine wpL.take (v:=slN p98 (ys++[vref ((l56.drop 1).getD j 0)]).length) (SW.stab (RH.ok w hp _)) (fun _ h=>h.sb) (YB.assign _ rfl rfl rfl) ?_
     simp only [qP]
     intro W99 hS100
     refine hK93 _ _ ?_
     (try clear hns);clear hS96 hops ops
     try clear hK93 K93
     refine wpL.enter hS100 ?_
     intro ops hops
     refine wpL.take (v:=.int .i64 ((j + 1:Nat):Int)) (SW.stab (RH.ok w hp _)) (fun _ h=>h.sb) (YB.bin_addN (i:=j) _ _ _ _ rfl rfl rfl rfl (by omega)) ?_
     simp only [qP]
     refine wpL.take (v:=.int .i64 ((j + 1:Nat):Int)) (SW.stab (RH.ok w hp _)) (fun _ h=>h.sb) (YB.move _ rfl rfl rfl) ?_
     simp only [qP]
     intro W101 hS102
     exact ⟨hlt,(ys++[vref ((l56.drop 1).getD j 0)]),p98,_,_,_,_,_,_,_,_,_,_,(by rw [hp86,take_succ_getD (d:=0) hlt,List.map_append];rfl),rfl,hS102.dropL 1⟩
    ·refine wpIn_cond_false (by show Value.bool (decide ((j:Int) < ((l56.drop 1).length:Int)))=_;rw [hc92];try rfl) ?_
     have hge2:j=(l56.drop 1).length:=by have:=of_decide_eq_false hc92;omega
     refine wpIn_exit ?_
     refine hK76 _ _ ?_
     try clear hK76 K76
     refine wpIn_seq_k fun K103 hK103=>?_
     refine wpL.enter hS90 ?_
     intro ops hops
     refine wpL.take (v:=.pointer (some ⟨hp,0,none⟩)) (SW.stab (RH.ok w hp _)) (fun _ h=>h.sb) (YB.move _ rfl rfl rfl) ?_
     simp only [qP]
     refine wpL.take (v:=.string (bs nm)) (SW.stab (RH.ok w hp _)) (fun _ h=>h.sb) (YB.move _ rfl rfl rfl) ?_
     simp only [qP]
     refine wpL.take (v:=slN p83 ys.length) (SW.stab (RH.ok w hp _)) (fun _ h=>h.sb) (YB.move _ rfl rfl rfl) ?_
     simp only [qP]
     refine wpL.call FWide.wide (v:=V.agg ((h.make 5 nm 0 ys).2)) (R':=(RH hp ((h.make 5 nm 0 ys).1))) (args:=#[.pointer (some ⟨hp,0,none⟩),.int .i64 5,.string (bs nm),.int .i64 0,slN p83 ys.length]) _ 18 rfl (by rfl) (by rfl) (by simp only [List.map_toArray,List.map_cons,List.map_nil];rfl) (enters_of Tryz.func18 (by kernel_rfl) rfl) (fun wz G hG=>wr (make_any wz hp h G hG.res 5 nm 0 _ ys (hG.vxOwn 0 rfl) (Nat.le_trans (show ys.length≤1048576 from (by have hw:=congrArg List.length hp86;have hv:=(hq _ (by rw [← hof,show ps.map (·.2)=h.ordersO bases from (by rw [hp25.1,hge0,List.take_length];rfl)])).2;rw [hge2] at hw;simp at hw;omega)) (by decide)))) ?_
     simp only [qP]
     refine wpL.alloc (RH.ok w hp _) (fun b=>.pointer (some ⟨b,0,none⟩)) (obj:=Obj.cells #[.int .i64 0,.int .i64 0,.string (bs [])] 23 (0,0)) rfl (by nofun) (by nofun) (by intro w;go_simp) ?_
     intro b104
     simp only [qP]
     refine wpL.store (RH.ok w hp _) _ _ _ 0 (off:=0) (arr':=#[.int .i64 (((h.make 5 nm 0 ys).2).k),.int .i64 (((h.make 5 nm 0 ys).2).n),.string (bs (((h.make 5 nm 0 ys).2).s))]) (u:=V.agg ((h.make 5 nm 0 ys).2)) (L':=[(b104,Obj.cells #[.int .i64 (((h.make 5 nm 0 ys).2).k),.int .i64 (((h.make 5 nm 0 ys).2).n),.string (bs (((h.make 5 nm 0 ys).2).s))] 23 (0,0)),(b8,Obj.cells #[.string (bs [84,121,112,101,69,114,114,111,114]),.int .i64 0,.int .i64 0,.string (bs []),.bool false] 66 (0,0)),(b4,Obj.cells #[.string (bs []),.int .i64 0,.int .i64 0,.string (bs []),.bool false] 66 (0,0)),(b3,Obj.cells #[.int .i64 0,.int .i64 0,.string (bs [])] 23 (0,0)),(b2,Obj.cells #[.int .i64 sp.k,.int .i64 sp.n,.string (bs sp.s)] 23 (0,0))]) rfl (by rfl) (by rfl) (by rfl) (by rfl) (by kernel_rfl) (zB rfl) (by rfl) (by rfl) (by rfl) ?_
     simp only [qP]
     intro W105 hS106
     refine hK103 _ _ ?_
     (try clear hns);clear hS90 hops ops
     try clear hK103 K103
     refine wpIn_seq_k fun K107 hK107=>?_
     refine wpIn_seq_k fun K108 hK108=>?_
     refine wpL.enter hS106 ?_
     intro ops hops
     refine wpL.take (v:=.pointer (some ⟨hp,0,none⟩)) (SW.stab (RH.ok w hp _)) (fun _ h=>h.sb) (YB.move _ rfl rfl rfl) ?_
     simp only [qP]
     refine wpL.take (v:=V.agg sp) (SW.stab (RH.ok w hp _)) (fun _ h=>h.sb) (YB.load (p:=.pointer (some ⟨b2,0,none⟩)) _ _ rfl rfl rfl (fun w hw=>load_whole Tryz.underlying23 rfl (by kernel_rfl) (hw.box 4 rfl))) ?_
     simp only [qP]
     refine wpL.callX FWide.wide (α:=Sp) (args:=#[.pointer (some ⟨hp,0,none⟩),V.agg sp]) _ 233 (fun x=>sl x (((h.make 5 nm 0 ys).1).keys sp)) (fun x=>SW (RH hp ((h.make 5 nm 0 ys).1)) w F [] [(b104,Obj.cells #[.int .i64 (((h.make 5 nm 0 ys).2).k),.int .i64 (((h.make 5 nm 0 ys).2).n),.string (bs (((h.make 5 nm 0 ys).2).s))] 23 (0,0)),(b8,Obj.cells #[.string (bs [84,121,112,101,69,114,114,111,114]),.int .i64 0,.int .i64 0,.string (bs []),.bool false] 66 (0,0)),(b4,Obj.cells #[.string (bs []),.int .i64 0,.int .i64 0,.string (bs []),.bool false] 66 (0,0)),(b3,Obj.cells #[.int .i64 0,.int .i64 0,.string (bs [])] 23 (0,0)),(b2,Obj.cells #[.int .i64 sp.k,.int .i64 sp.n,.string (bs sp.s)] 23 (0,0))] [vsF (sl x (((h.make 5 nm 0 ys).1).keys sp)) (((h.make 5 nm 0 ys).1).keys sp) true,rowF V.cs 23 3 (slN p83 ys.length) ys,rdF nCs (slN (cutP x55 1 x55.2 1) (l56.drop 1).length) (l56.drop 1) true,rdF nCs (slN x55 l56.length) l56 true,rowF nCs 2 1 (slN x54 (numbersO bases).length) (numbersO bases),insF ps,rowF pCs 114 1 (slN p22 ps.length) ps,vsF (.slice abases bases.length cbases) bases false]) rfl (by rfl) (by rfl) (by simp only [List.map_toArray,List.map_cons,List.map_nil];rfl) (enters_of Tryz.func233 (by kernel_rfl) rfl) (fun wz hw=>hw.sb.elim fun G hG=>newRow (RH.ok w hp _) hw (keysH_any wz hp ((h.make 5 nm 0 ys).1) G hG.res sp)) ?_
     intro x109
     simp only [qP]
     refine wpL.take (v:=.int .i64 ((((h.make 5 nm 0 ys).1).keys sp).length:Int)) (SW.stab (RH.ok w hp _)) (fun _ h=>h.sb) (YB.lenRow FWide.wide _ Tryz.underlying30 rfl rfl rfl) ?_
     simp only [qP]
     refine wpL.take (v:=.int .i64 0) (SW.stab (RH.ok w hp _)) (fun _ h=>h.sb) (YB.move _ rfl rfl rfl) ?_
     simp only [qP]
     intro W110 hS111
     refine hK108 _ _ ?_
     (try clear hns);clear hS106 hops ops
     try clear hK108 K108
     refine wpIn_block ?_
     refine wpIn_loopN ((Hp.keys ((h.make 5 nm 0 ys).1) sp).length) (fun (k:Nat) (a:Go.Act) (W:World)=>∃ (hh:Hp) (u21:Value) (u22:Value) (u23:Value) (u84:Value) (u85:Value) (u86:Value) (u87:Value) (u88:Value) (u89:Value) (u90:Value) (u91:Value) (u92:Value) (u93:Value) (u94:Value) (u95:Value) (u96:Value) (u97:Value) (u98:Value) (u99:Value),(hh=copyK (h.make 5 nm 0 ys).2 sp (h.make 5 nm 0 ys).1 (((h.make 5 nm 0 ys).1.keys sp).take k))∧a={ tmps:=#[.pointer (some ⟨hp,0,none⟩),.string (bs nm),.slice abases bases.length cbases,V.agg sp,undef,undef,undef,.pointer (some ⟨b2,0,none⟩),.pointer (some ⟨b3,0,none⟩),.pointer (some ⟨b4,0,none⟩),.pointer (some ⟨b8,0,none⟩),slN p22 ps.length,undef,u13,slN x55 l56.length,.bool true,slN p83 ys.length,undef,u18,.pointer (some ⟨b104,0,none⟩),undef,u21,u22,u23,Exc.agg (⟨[84,121,112,101,69,114,114,111,114],V.nil,false⟩:Exc),.slice abases bases.length cbases,.int .i64 (bases.length:Int),.int .i64 (i:Int),.bool (decide ((i:Int) < (bases.length:Int))),u29,u30,u31,u32,u33,u34,u35,u36,u37,u38,u39,u40,u41,u42,u43,u44,.tuple #[slN x55 l56.length,.bool true],.slice abases bases.length cbases,slN x54 (numbersO bases).length,slN p22 ps.length,.tuple #[slN x55 l56.length,.bool true],slN x55 l56.length,.bool true,.bool true,.bool false,.bool false,.pointer (some ⟨hp,0,none⟩),V.agg sp,.int .i64 (h.kind sp),.bool (!decide ((h.kind sp)=3)),.bool (!decide ((h.kind sp)=3)),undef,undef,slN x55 l56.length,slN (cutP x55 1 x55.2 1) (l56.drop 1).length,.int .i64 ((l56.drop 1).length:Int),.int .i64 (j:Int),.bool (decide ((j:Int) < ((l56.drop 1).length:Int))),u67,u68,u69,u70,u71,u72,u73,u74,.pointer (some ⟨hp,0,none⟩),.string (bs nm),slN p83 ys.length,V.agg ((h.make 5 nm 0 ys).2),.pointer (some ⟨hp,0,none⟩),V.agg sp,sl x109 (((h.make 5 nm 0 ys).1).keys sp),.int .i64 ((((h.make 5 nm 0 ys).1).keys sp).length:Int),.int .i64 (k:Int),u84,u85,u86,u87,u88,u89,u90,u91,u92,u93,u94,u95,u96,u97,u98,u99,undef,undef],defers:=[] }∧SW (RH hp hh) w F [] [(b104,Obj.cells #[.int .i64 (((h.make 5 nm 0 ys).2).k),.int .i64 (((h.make 5 nm 0 ys).2).n),.string (bs (((h.make 5 nm 0 ys).2).s))] 23 (0,0)),(b8,Obj.cells #[.string (bs [84,121,112,101,69,114,114,111,114]),.int .i64 0,.int .i64 0,.string (bs []),.bool false] 66 (0,0)),(b4,Obj.cells #[.string (bs []),.int .i64 0,.int .i64 0,.string (bs []),.bool false] 66 (0,0)),(b3,Obj.cells #[.int .i64 0,.int .i64 0,.string (bs [])] 23 (0,0)),(b2,Obj.cells #[.int .i64 sp.k,.int .i64 sp.n,.string (bs sp.s)] 23 (0,0))] [vsF (sl x109 (((h.make 5 nm 0 ys).1).keys sp)) (((h.make 5 nm 0 ys).1).keys sp) true,rowF V.cs 23 3 (slN p83 ys.length) ys,rdF nCs (slN (cutP x55 1 x55.2 1) (l56.drop 1).length) (l56.drop 1) true,rdF nCs (slN x55 l56.length) l56 true,rowF nCs 2 1 (slN x54 (numbersO bases).length) (numbersO bases),insF ps,rowF pCs 114 1 (slN p22 ps.length) ps,vsF (.slice abases bases.length cbases) bases false] W) ?_ ?_
     ·exact ⟨((h.make 5 nm 0 ys).1),_,_,_,_,_,_,_,_,_,_,_,_,_,_,_,_,_,_,_,rfl,rfl,hS111⟩
     clear hS111
     rintro k hi115 _ W112 ⟨hh,u21,u22,u23,u84,u85,u86,u87,u88,u89,u90,u91,u92,u93,u94,u95,u96,u97,u98,u99,hp114,rfl,hS113⟩
     have hN:(Hp.keys ((h.make 5 nm 0 ys).1) sp).length≤9223372036854775807:=SW.lenLe (enc:=V.cs) (nw:=true) hS113 0 rfl
     refine wpIn_seq_k fun K116 hK116=>?_
     refine wpL.enter hS113 ?_
     intro ops hops
     refine wpL.take (v:=.bool (decide ((k:Int) < ((((h.make 5 nm 0 ys).1).keys sp).length:Int)))) (SW.stab (RH.ok w hp _)) (fun _ h=>h.sb) (YB.bin_lss _ _ _ _ rfl rfl rfl rfl) ?_
     simp only [qP]
     intro W117 hS118
     refine hK116 _ _ ?_
     (try clear hns);clear hS113 hops ops
     try clear hK116 K116
     refine wpIn_seq_k fun K119 hK119=>?_
     rcases Bool.eq_false_or_eq_true (decide ((k:Int) < ((((h.make 5 nm 0 ys).1).keys sp).length:Int))) with hc120 | hc120
     ·refine wpIn_cond_true (by show Value.bool (decide ((k:Int) < ((((h.make 5 nm 0 ys).1).keys sp).length:Int)))=_;rw [hc120];try rfl) ?_
      have hlt:k < (Hp.keys ((h.make 5 nm 0 ys).1) sp).length:=by have:=of_decide_eq_true hc120;omega
      refine wpIn_skip ?_
      refine hK119 _ _ ?_
      try clear hK119 K119
      refine wpIn_seq_k fun K121 hK121=>?_
      refine wpIn_block ?_
      refine wpIn_seq_k fun K122 hK122=>?_
      refine wpL.enter hS118 ?_
      intro ops hops
      refine wpL.take (v:=.pointer (some ⟨rb x109,ro x109 + k * 3,none⟩)) (SW.stab (RH.ok w hp _)) (fun _ h=>h.sb) (YB.index (p:=x109) (m:=(((h.make 5 nm 0 ys).1).keys sp).length) (i:=k) _ 23 _ _ 3 rfl rfl rfl rfl (by first | assumption | omega | (simp;omega)) Tryz.underlying30 (by kernel_rfl) (fun wz hw=>((show Rd V.cs wz (slN x109 (((h.make 5 nm 0 ys).1).keys sp).length) (((h.make 5 nm 0 ys).1).keys sp) from hw.fact 0 rfl).addr (by first | assumption | omega | (simp;omega))).1)) ?_
      simp only [qP]
      refine wpL.take (v:=V.agg ((((h.make 5 nm 0 ys).1).keys sp).getD k V.nil)) (SW.stab (RH.ok w hp _)) (fun _ h=>h.sb) (YB.load (p:=.pointer (some ⟨rb x109,ro x109 + k * 3,none⟩)) _ _ rfl rfl rfl (fun wz hw=>(Rd.vs (show Rd V.cs wz (slN x109 (((h.make 5 nm 0 ys).1).keys sp).length) (((h.make 5 nm 0 ys).1).keys sp) from hw.fact 0 rfl)).loadV Tryz.underlying23 rfl (by kernel_rfl) (by first | assumption | omega | (simp;omega)))) ?_
      simp only [qP]
      refine wpL.alloc (RH.ok w hp _) (fun b=>.pointer (some ⟨b,0,none⟩)) (obj:=Obj.cells #[.int .i64 0,.int .i64 0,.string (bs [])] 23 (0,0)) rfl (by nofun) (by nofun) (by intro w;go_simp) ?_
      intro b123
      simp only [qP]
      refine wpL.store (RH.ok w hp _) _ _ _ 0 (off:=0) (arr':=#[.int .i64 (((((h.make 5 nm 0 ys).1).keys sp).getD k V.nil).k),.int .i64 (((((h.make 5 nm 0 ys).1).keys sp).getD k V.nil).n),.string (bs (((((h.make 5 nm 0 ys).1).keys sp).getD k V.nil).s))]) (u:=V.agg ((((h.make 5 nm 0 ys).1).keys sp).getD k V.nil)) (L':=[(b123,Obj.cells #[.int .i64 (((((h.make 5 nm 0 ys).1).keys sp).getD k V.nil).k),.int .i64 (((((h.make 5 nm 0 ys).1).keys sp).getD k V.nil).n),.string (bs (((((h.make 5 nm 0 ys).1).keys sp).getD k V.nil).s))] 23 (0,0)),(b104,Obj.cells #[.int .i64 (((h.make 5 nm 0 ys).2).k),.int .i64 (((h.make 5 nm 0 ys).2).n),.string (bs (((h.make 5 nm 0 ys).2).s))] 23 (0,0)),(b8,Obj.cells #[.string (bs [84,121,112,101,69,114,114,111,114]),.int .i64 0,.int .i64 0,.string (bs []),.bool false] 66 (0,0)),(b4,Obj.cells #[.string (bs []),.int .i64 0,.int .i64 0,.string (bs []),.bool false] 66 (0,0)),(b3,Obj.cells #[.int .i64 0,.int .i64 0,.string (bs [])] 23 (0,0)),(b2,Obj.cells #[.int .i64 sp.k,.int .i64 sp.n,.string (bs sp.s)] 23 (0,0))]) rfl (by rfl) (by rfl) (by rfl) (by rfl) (by kernel_rfl) (zB rfl) (by rfl) (by rfl) (by rfl) ?_
      simp only [qP]
      intro W124 hS125
      refine hK122 _ _ ?_
      (try clear hns);clear hS118 hops ops
      try clear hK122 K122
      refine wpIn_seq_k fun K126 hK126=>?_
      refine wpL.enter hS125 ?_
      intro ops hops
      refine wpL.take (v:=.pointer (some ⟨hp,0,none⟩)) (SW.stab (RH.ok w hp _)) (fun _ h=>h.sb) (YB.move _ rfl rfl rfl) ?_
      simp only [qP]
      refine wpL.take (v:=V.agg sp) (SW.stab (RH.ok w hp _)) (fun _ h=>h.sb) (YB.load (p:=.pointer (some ⟨b2,0,none⟩)) _ _ rfl rfl rfl (fun w hw=>load_whole Tryz.underlying23 rfl (by kernel_rfl) (hw.box 5 rfl))) ?_
      simp only [qP]
      refine wpL.take (v:=V.agg ((((h.make 5 nm 0 ys).1).keys sp).getD k V.nil)) (SW.stab (RH.ok w hp _)) (fun _ h=>h.sb) (YB.load (p:=.pointer (some ⟨b123,0,none⟩)) _ _ rfl rfl rfl (fun w hw=>load_whole Tryz.underlying23 rfl (by kernel_rfl) (hw.box 0 rfl))) ?_
      simp only [qP]
      refine wpL.take (v:=.tuple #[V.agg ((hh.get sp ((((h.make 5 nm 0 ys).1).keys sp).getD k V.nil)).1),.bool ((hh.get sp ((((h.make 5 nm 0 ys).1).keys sp).getD k V.nil)).2)]) (SW.stab (RH.ok w hp _)) (fun _ h=>h.sb) (YB.call FWide.wide _ 89 rfl rfl rfl (args:=#[.pointer (some ⟨hp,0,none⟩),V.agg sp,V.agg ((((h.make 5 nm 0 ys).1).keys sp).getD k V.nil)]) (by simp only [List.map_toArray,List.map_cons,List.map_nil];rfl) (enters_of Tryz.func89 (by kernel_rfl) rfl) (fun wz hw=>hw.elim fun G hG=>getH_any wz hp hh G hG.res sp ((((h.make 5 nm 0 ys).1).keys sp).getD k V.nil))) ?_
      simp only [qP]
      refine wpL.take (v:=.tuple #[V.agg ((hh.get sp ((((h.make 5 nm 0 ys).1).keys sp).getD k V.nil)).1),.bool ((hh.get sp ((((h.make 5 nm 0 ys).1).keys sp).getD k V.nil)).2)]) (SW.stab (RH.ok w hp _)) (fun _ h=>h.sb) (YB.move _ rfl rfl rfl) ?_
      simp only [qP]
      refine wpL.take (v:=V.agg ((hh.get sp ((((h.make 5 nm 0 ys).1).keys sp).getD k V.nil)).1)) (SW.stab (RH.ok w hp _)) (fun _ h=>h.sb) (YB.extract (vs:=#[V.agg ((hh.get sp ((((h.make 5 nm 0 ys).1).keys sp).getD k V.nil)).1),.bool ((hh.get sp ((((h.make 5 nm 0 ys).1).keys sp).getD k V.nil)).2)]) _ _ rfl rfl rfl rfl) ?_
      simp only [qP]
      refine wpL.take (v:=.bool ((hh.get sp ((((h.make 5 nm 0 ys).1).keys sp).getD k V.nil)).2)) (SW.stab (RH.ok w hp _)) (fun _ h=>h.sb) (YB.extract (vs:=#[V.agg ((hh.get sp ((((h.make 5 nm 0 ys).1).keys sp).getD k V.nil)).1),.bool ((hh.get sp ((((h.make 5 nm 0 ys).1).keys sp).getD k V.nil)).2)]) _ _ rfl rfl rfl rfl) ?_
      simp only [qP]
      refine wpL.alloc (RH.ok w hp _) (fun b=>.pointer (some ⟨b,0,none⟩)) (obj:=Obj.cells #[.int .i64 0,.int .i64 0,.string (bs [])] 23 (0,0)) rfl (by nofun) (by nofun) (by intro w;go_simp) ?_
      intro b127
      simp only [qP]
      refine wpL.store (RH.ok w hp _) _ _ _ 0 (off:=0) (arr':=#[.int .i64 (((hh.get sp ((((h.make 5 nm 0 ys).1).keys sp).getD k V.nil)).1).k),.int .i64 (((hh.get sp ((((h.make 5 nm 0 ys).1).keys sp).getD k V.nil)).1).n),.string (bs (((hh.get sp ((((h.make 5 nm 0 ys).1).keys sp).getD k V.nil)).1).s))]) (u:=V.agg ((hh.get sp ((((h.make 5 nm 0 ys).1).keys sp).getD k V.nil)).1)) (L':=[(b127,Obj.cells #[.int .i64 (((hh.get sp ((((h.make 5 nm 0 ys).1).keys sp).getD k V.nil)).1).k),.int .i64 (((hh.get sp ((((h.make 5 nm 0 ys).1).keys sp).getD k V.nil)).1).n),.string (bs (((hh.get sp ((((h.make 5 nm 0 ys).1).keys sp).getD k V.nil)).1).s))] 23 (0,0)),(b123,Obj.cells #[.int .i64 (((((h.make 5 nm 0 ys).1).keys sp).getD k V.nil).k),.int .i64 (((((h.make 5 nm 0 ys).1).keys sp).getD k V.nil).n),.string (bs (((((h.make 5 nm 0 ys).1).keys sp).getD k V.nil).s))] 23 (0,0)),(b104,Obj.cells #[.int .i64 (((h.make 5 nm 0 ys).2).k),.int .i64 (((h.make 5 nm 0 ys).2).n),.string (bs (((h.make 5 nm 0 ys).2).s))] 23 (0,0)),(b8,Obj.cells #[.string (bs [84,121,112,101,69,114,114,111,114]),.int .i64 0,.int .i64 0,.string (bs []),.bool false] 66 (0,0)),(b4,Obj.cells #[.string (bs []),.int .i64 0,.int .i64 0,.string (bs []),.bool false] 66 (0,0)),(b3,Obj.cells #[.int .i64 0,.int .i64 0,.string (bs [])] 23 (0,0)),(b2,Obj.cells #[.int .i64 sp.k,.int .i64 sp.n,.string (bs sp.s)] 23 (0,0))]) rfl (by rfl) (by rfl) (by rfl) (by rfl) (by kernel_rfl) (zB rfl) (by rfl) (by rfl) (by rfl) ?_
      simp only [qP]
      refine wpL.take (v:=.bool ((hh.get sp ((((h.make 5 nm 0 ys).1).keys sp).getD k V.nil)).2)) (SW.stab (RH.ok w hp _)) (fun _ h=>h.sb) (YB.assign _ rfl rfl rfl) ?_
      simp only [qP]
      intro W128 hS129
      refine hK126 _ _ ?_
      (try clear hns);clear hS125 hops ops
      try clear hK126 K126
      refine wpL.enter hS129 ?_
      intro ops hops
      refine wpL.take (v:=.pointer (some ⟨hp,0,none⟩)) (SW.stab (RH.ok w hp _)) (fun _ h=>h.sb) (YB.move _ rfl rfl rfl) ?_
      simp only [qP]
      refine wpL.take (v:=V.agg ((h.make 5 nm 0 ys).2)) (SW.stab (RH.ok w hp _)) (fun _ h=>h.sb) (YB.load (p:=.pointer (some ⟨b104,0,none⟩)) _ _ rfl rfl rfl (fun w hw=>load_whole Tryz.underlying23 rfl (by kernel_rfl) (hw.box 2 rfl))) ?_
      simp only [qP]
      refine wpL.take (v:=V.agg ((((h.make 5 nm 0 ys).1).keys sp).getD k V.nil)) (SW.stab (RH.ok w hp _)) (fun _ h=>h.sb) (YB.load (p:=.pointer (some ⟨b123,0,none⟩)) _ _ rfl rfl rfl (fun w hw=>load_whole Tryz.underlying23 rfl (by kernel_rfl) (hw.box 1 rfl))) ?_
      simp only [qP]
      refine wpL.take (v:=V.agg ((hh.get sp ((((h.make 5 nm 0 ys).1).keys sp).getD k V.nil)).1)) (SW.stab (RH.ok w hp _)) (fun _ h=>h.sb) (YB.load (p:=.pointer (some ⟨b127,0,none⟩)) _ _ rfl rfl rfl (fun w hw=>load_whole Tryz.underlying23 rfl (by kernel_rfl) (hw.box 0 rfl))) ?_
      simp only [qP]
      refine wpL.call FWide.wide (v:=.bool ((hh.put ((h.make 5 nm 0 ys).2) ((((h.make 5 nm 0 ys).1).keys sp).getD k V.nil) ((hh.get sp ((((h.make 5 nm 0 ys).1).keys sp).getD k V.nil)).1)).2)) (R':=(RH hp ((hh.put ((h.make 5 nm 0 ys).2) ((((h.make 5 nm 0 ys).1).keys sp).getD k V.nil) ((hh.get sp ((((h.make 5 nm 0 ys).1).keys sp).getD k V.nil)).1)).1))) (args:=#[.pointer (some ⟨hp,0,none⟩),V.agg ((h.make 5 nm 0 ys).2),V.agg ((((h.make 5 nm 0 ys).1).keys sp).getD k V.nil),V.agg ((hh.get sp ((((h.make 5 nm 0 ys).1).keys sp).getD k V.nil)).1)]) _ 99 rfl (by rfl) (by rfl) (by simp only [List.map_toArray,List.map_cons,List.map_nil];rfl) (enters_of Tryz.func99 (by kernel_rfl) rfl) (fun wz G hG=>wr (putH_any wz hp hh G hG.res ((h.make 5 nm 0 ys).2) ((((h.make 5 nm 0 ys).1).keys sp).getD k V.nil) ((hh.get sp ((((h.make 5 nm 0 ys).1).keys sp).getD k V.nil)).1))) ?_
      simp only [qP]
      intro W130 hS131
      refine hK121 _ _ ?_
      (try clear hns);clear hS129 hops ops
      try clear hK121 K121
      refine wpL.enter hS131 ?_
      intro ops hops
      refine wpL.take (v:=.int .i64 ((k + 1:Nat):Int)) (SW.stab (RH.ok w hp _)) (fun _ h=>h.sb) (YB.bin_addN (i:=k) _ _ _ _ rfl rfl rfl rfl (by omega)) ?_
      simp only [qP]
      refine wpL.take (v:=.int .i64 ((k + 1:Nat):Int)) (SW.stab (RH.ok w hp _)) (fun _ h=>h.sb) (YB.move _ rfl rfl rfl) ?_
      simp only [qP]
      intro W132 hS133
      exact ⟨hlt,((hh.put ((h.make 5 nm 0 ys).2) ((((h.make 5 nm 0 ys).1).keys sp).getD k V.nil) ((hh.get sp ((((h.make 5 nm 0 ys).1).keys sp).getD k V.nil)).1)).1),_,_,_,_,_,_,_,_,_,_,_,_,_,_,_,_,_,_,_,(by rw [take_succ_getD (d:=V.nil) hlt,copyK_snoc,← hp114]),rfl,hS133.dropL 2⟩
     ·refine wpIn_cond_false (by show Value.bool (decide ((k:Int) < ((((h.make 5 nm 0 ys).1).keys sp).length:Int)))=_;rw [hc120];try rfl) ?_
      have hge4:k=(Hp.keys ((h.make 5 nm 0 ys).1) sp).length:=by have:=of_decide_eq_false hc120;omega
      refine wpIn_exit ?_
      refine hK107 _ _ ?_
      try clear hK107 K107
      refine wpIn_seq_k fun K134 hK134=>?_
      refine wpL.enter hS118 ?_
      intro ops hops
      refine wpL.take (v:=V.agg ((h.make 5 nm 0 ys).2)) (SW.stab (RH.ok w hp _)) (fun _ h=>h.sb) (YB.load (p:=.pointer (some ⟨b104,0,none⟩)) _ _ rfl rfl rfl (fun w hw=>load_whole Tryz.underlying23 rfl (by kernel_rfl) (hw.box 0 rfl))) ?_
      simp only [qP]
      refine wpL.take (v:=Exc.agg Exc.nil) (SW.stab (RH.ok w hp _)) (fun _ h=>h.sb) (YB.run (by nofun) (by nofun) rfl (by intro w _;go_simp)) ?_
      simp only [qP]
      refine wpL.store (RH.ok w hp _) _ _ _ 3 (off:=0) (arr':=#[.int .i64 (((h.make 5 nm 0 ys).2).k),.int .i64 (((h.make 5 nm 0 ys).2).n),.string (bs (((h.make 5 nm 0 ys).2).s))]) (u:=V.agg ((h.make 5 nm 0 ys).2)) (L':=[(b104,Obj.cells #[.int .i64 (((h.make 5 nm 0 ys).2).k),.int .i64 (((h.make 5 nm 0 ys).2).n),.string (bs (((h.make 5 nm 0 ys).2).s))] 23 (0,0)),(b8,Obj.cells #[.string (bs [84,121,112,101,69,114,114,111,114]),.int .i64 0,.int .i64 0,.string (bs []),.bool false] 66 (0,0)),(b4,Obj.cells #[.string (bs []),.int .i64 0,.int .i64 0,.string (bs []),.bool false] 66 (0,0)),(b3,Obj.cells #[.int .i64 (((h.make 5 nm 0 ys).2).k),.int .i64 (((h.make 5 nm 0 ys).2).n),.string (bs (((h.make 5 nm 0 ys).2).s))] 23 (0,0)),(b2,Obj.cells #[.int .i64 sp.k,.int .i64 sp.n,.string (bs sp.s)] 23 (0,0))]) rfl (by rfl) (by rfl) (by rfl) (by rfl) (by kernel_rfl) (zB rfl) (by rfl) (by rfl) (by rfl) ?_
      simp only [qP]
      refine wpL.store (RH.ok w hp _) _ _ _ 2 (off:=0) (arr':=#[.string (bs []),.int .i64 0,.int .i64 0,.string (bs []),.bool false]) (u:=Exc.agg Exc.nil) (L':=[(b104,Obj.cells #[.int .i64 (((h.make 5 nm 0 ys).2).k),.int .i64 (((h.make 5 nm 0 ys).2).n),.string (bs (((h.make 5 nm 0 ys).2).s))] 23 (0,0)),(b8,Obj.cells #[.string (bs [84,121,112,101,69,114,114,111,114]),.int .i64 0,.int .i64 0,.string (bs []),.bool false] 66 (0,0)),(b4,Obj.cells #[.string (bs []),.int .i64 0,.int .i64 0,.string (bs []),.bool false] 66 (0,0)),(b3,Obj.cells #[.int .i64 (((h.make 5 nm 0 ys).2).k),.int .i64 (((h.make 5 nm 0 ys).2).n),.string (bs (((h.make 5 nm 0 ys).2).s))] 23 (0,0)),(b2,Obj.cells #[.int .i64 sp.k,.int .i64 sp.n,.string (bs sp.s)] 23 (0,0))]) rfl (by rfl) (by rfl) (by rfl) (by rfl) (by kernel_rfl) (zB rfl) (by rfl) (by rfl) (by rfl) ?_
      simp only [qP]
      intro W135 hS136
      refine hK134 _ _ ?_
      (try clear hns);clear hS118 hops ops
      try clear hK134 K134
      refine wpIn_ret ?_
      refine bodyPost_ret (v:=.tuple #[V.agg ((h.make 5 nm 0 ys).2),Exc.agg Exc.nil]) (results2 Tryz.results98 (⟨_,rfl,load_whole Tryz.underlying23 rfl (by kernel_rfl) (hS136.sb.box 3 rfl)⟩) (⟨_,rfl,load_whole Tryz.underlying66 rfl (by kernel_rfl) (hS136.sb.box 2 rfl)⟩)) rfl ?_
      rw [classO_ok (h:=h) (bases:=bases) (hh:=hh) (ys:=ys) (fun b hb=>hp25.2 b (by rw [hge0,List.take_length];exact hb)) (by rw [← hof,hp25.1,hge0,List.take_length];rfl) (of_decide_eq_true hc72) (by rw [hp86,hge2,List.take_length]) (by rw [hp114,hge4,List.take_length])]
      exact ⟨rfl,hS136.fin⟩
   ·refine wpIn_cond_true (by show Value.bool (!decide ((h.kind sp)=3))=_;rw [hc72];try rfl) ?_
    refine wpIn_seq_k fun K137 hK137=>?_
    refine wpS.enter (B:=(SB (RH hp h) w F [] [(b8,Obj.cells #[.string (bs [84,121,112,101,69,114,114,111,114]),.int .i64 0,.int .i64 0,.string (bs []),.bool false] 66 (0,0)),(b2,Obj.cells #[.int .i64 sp.k,.int .i64 sp.n,.string (bs sp.s)] 23 (0,0))] [rdF nCs (slN x55 l56.length) l56 true,rowF nCs 2 1 (slN x54 (numbersO bases).length) (numbersO bases),insF ps,rowF pCs 114 1 (slN p22 ps.length) ps,vsF (.slice abases bases.length cbases) bases false])) 4 (by kernel_rfl) (by kernel_rfl) hS71 ?_
    intro ops hops
    have hns:Region.noSelect ops=true:=by rw [hops];kernel_rfl
    refine wpS.takeP (i:=0) (v:=V.agg V.nil) (by subst hops;simp only [zG];try rfl) hns (by rw [hops];kernel_rfl) (by rw [hops];kernel_rfl) (by intro _ _ _ h;exact h) (YB.run (by nofun) (by nofun) (by rfl) (by intro w _;go_simp)) ?_
    simp only [qP]
    refine wpS.take (i:=1) (v:=Exc.agg (⟨[84,121,112,101,69,114,114,111,114],V.nil,false⟩:Exc)) (T':=[]) (by subst hops;simp only [zG];try rfl) hns (by rw [hops];kernel_rfl) (by rw [hops];kernel_rfl) (by intro _ _ _ h;exact h) (by subst hops;kernel_rfl) (YB.load (p:=.pointer (some ⟨b8,0,none⟩)) _ _ (by rfl) (by rfl) (by rfl) (fun w hw=>load_whole Tryz.underlying66 rfl (by kernel_rfl) (hw.box 0 rfl))) ?_
    simp only [qP]
    refine wpS.store (RH.ok w hp _) (i:=2) (T':=[1]) _ _ _ 2 (off:=0) (arr':=#[.int .i64 0,.int .i64 0,.string (bs [])]) (u:=V.agg V.nil) (L':=[(b8,Obj.cells #[.string (bs [84,121,112,101,69,114,114,111,114]),.int .i64 0,.int .i64 0,.string (bs []),.bool false] 66 (0,0)),(b4,Obj.cells #[.string (bs []),.int .i64 0,.int .i64 0,.string (bs []),.bool false] 66 (0,0)),(b3,Obj.cells #[.int .i64 0,.int .i64 0,.string (bs [])] 23 (0,0)),(b2,Obj.cells #[.int .i64 sp.k,.int .i64 sp.n,.string (bs sp.s)] 23 (0,0))]) (by subst hops;simp only [zG];try rfl) (by rw [hops];kernel_rfl) (Good.some_ (RH.ok w hp _) 0 [0,3] rfl rfl rfl) (by subst hops;kernel_rfl) (by rfl) (by rfl) (by rfl) (by rfl) (by rfl) (by kernel_rfl) (zB rfl) (by rfl) (by rfl) (by rfl) ?_
    simp only [qP]
    refine wpS.store (RH.ok w hp _) (i:=3) (T':=[]) _ _ _ 1 (off:=0) (arr':=#[.string (bs [84,121,112,101,69,114,114,111,114]),.int .i64 0,.int .i64 0,.string (bs []),.bool false]) (u:=Exc.agg (⟨[84,121,112,101,69,114,114,111,114],V.nil,false⟩:Exc)) (L':=[(b8,Obj.cells #[.string (bs [84,121,112,101,69,114,114,111,114]),.int .i64 0,.int .i64 0,.string (bs []),.bool false] 66 (0,0)),(b4,Obj.cells #[.string (bs [84,121,112,101,69,114,114,111,114]),.int .i64 0,.int .i64 0,.string (bs []),.bool false] 66 (0,0)),(b3,Obj.cells #[.int .i64 0,.int .i64 0,.string (bs [])] 23 (0,0)),(b2,Obj.cells #[.int .i64 sp.k,.int .i64 sp.n,.string (bs sp.s)] 23 (0,0))]) (by subst hops;simp only [zG];try rfl) (by rw [hops];kernel_rfl) (Good.some_ (RH.ok w hp _) 0 [0,3] rfl rfl rfl) (by subst hops;kernel_rfl) (by rfl) (by rfl) (by rfl) (by rfl) (by rfl) (by kernel_rfl) (zB rfl) (by rfl) (by rfl) (by rfl) ?_
    simp only [qP]
    refine wpS.done ?_ ?_ ?_ _
    ·rw [hops];kernel_rfl
    ·exact (Good.nil (RH.ok w hp _))
    intro W138 hS139
    refine hK137 _ _ ?_
    (try clear hns);clear hS71 hops ops
    try clear hK137 K137
    refine wpIn_ret ?_
    refine then_ret ?_
    refine bodyPost_ret (v:=.tuple #[V.agg V.nil,Exc.agg (⟨[84,121,112,101,69,114,114,111,114],V.nil,false⟩:Exc)]) (results2 Tryz.results98 (⟨_,rfl,load_whole Tryz.underlying23 rfl (by kernel_rfl) (hS139.sb.box 2 rfl)⟩) (⟨_,rfl,load_whole Tryz.underlying66 rfl (by kernel_rfl) (hS139.sb.box 1 rfl)⟩)) rfl ?_
    rw [classO_kind (h:=h) (bases:=bases) (fun b hb=>hp25.2 b (by rw [hge0,List.take_length];exact hb)) (by rw [← hof,hp25.1,hge0,List.take_length];rfl) (of_decide_eq_false hc72)]
    exact ⟨rfl,hS139.fin⟩
end
end Go.Proofs.YtbbokgpklihkoaaGreatDoor.W
