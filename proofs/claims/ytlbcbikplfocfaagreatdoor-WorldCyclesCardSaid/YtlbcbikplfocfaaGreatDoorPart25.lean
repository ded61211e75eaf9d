/- ConO EvU2 EvD EvZ Lw -/
import Derived.Test.YtlbcbikplfocfaaGreatDoorPart10
import Derived.Test.YtlbcbikplfocfaaGreatDoorPart24
import Derived.Test.YtlbcbikplfocfaaGreatDoorPart6
set_option linter.unusedVariables false
set_option linter.unusedSimpArgs false
namespace Go.Proofs.YtlbcbikplfocfaaGreatDoor.W
section
open Go Go.RowKit
set_option maxRecDepth 100000 in
theorem grow_ops (w:World) (n:Nat) (hn:n≤big):Calls Tryz.prog 266 #[.slice none 0 0,.int .i64 n] w (Roomy w):=by
 obtain ⟨i0,hi,hz0,hz1,hz2⟩:=info_parts Tryz.infoV
 replace hn:n≤1048576:=hn
 by_cases h0:n=0
 ·subst h0
  go_enter Tryz.func266,Tryz.ntmps266
  go_wp2
  go_ret
  exact ⟨_,_,rfl,World.ownsRow_nil _ _ _ _,Bl.refl _⟩
 ·obtain ⟨cap,cur,h1,h2,h3,hap⟩:=run_app_zeros (P:=Tryz.prog) w 93 3 93 27 i0 _ Tryz.underlying93 Tryz.underlying3 hi hz0 (by rw [hz1];rfl) n (by omega) hn (by rw [hz2];omega)
  have HF:=zH (show Roomy w (.returned (.slice (some ⟨w.heap.size,0,none⟩) 0 cap)) (w.drew.alloc (.cells cur 27)) from
   ⟨_,_,rfl,⟨rfl,.inr ⟨w.heap.size,cap,cur,rfl,Nat.le_refl _,(MapKept.heap_alloc w.drew _).1,Nat.zero_le _,h2,by rw [h3,hz1],rfl⟩⟩,(Bl.refl w).dr'.al' _⟩)
  have hpos:0 < n:=by omega
  clear h3 hi hz0 hz1 hz2
  go_enter Tryz.func266,Tryz.ntmps266
  go_wp2_with (at_builtin;refine wpList_app2 rfl (.tmp 20) (.tmp 21) 93 3 rfl _ _ (by simp [Go.Act.eval]) (by simp [Go.Act.eval]) _ _ hap ?_)
  go_ret
  exact HF.out
set_option maxRecDepth 100000 in
set_option maxHeartbeats 4000000 in
theorem concat_ops (w:World) (x:Value) (ls:List (List V)) (hx:Sls w x ls) (hl:ls.flatten.length≤big) :
  Calls Tryz.prog 207 #[x] w (NewVs w ls.flatten):=by
 obtain ⟨b,o,xc,ys,rfl,hn1,hb,hyl,hcell,hvs⟩:=hx
 obtain ⟨i0,hi,hz0,hz1,hz2⟩:=info_parts Tryz.infoV
 obtain ⟨n,hn⟩:∃ n,n=ls.length:=⟨_,rfl⟩
 rw [← hn] at hyl hn1 ⊢
 replace hl:ls.flatten.length≤1048576:=hl
 have hpre:∀ k,(ls.take k).flatten.length≤ls.flatten.length:=fun k=>by
  conv=>rhs;rw [← List.take_append_drop k ls,List.flatten_append,List.length_append]
  omega
 have hsnoc:∀ k l,ls[k]?=some l→(ls.take (k + 1)).flatten=(ls.take k).flatten++l:=fun k l h=>by
  rw [List.take_add_one,h];simp
 have hrow:∀ k,k < n→∃ y l,ys[k]?=some y∧ls[k]?=some l∧w.cell? ⟨b,o + k,none⟩=some y∧Vs w y l:=fun k hk=>by
  have h1:k < ys.length:=by omega
  have h2:k < ls.length:=by omega
  have e1:=List.getElem?_eq_getElem h1
  have e2:=List.getElem?_eq_getElem h2
  exact ⟨_,_,e1,e2,hcell k _ e1,hvs k _ _ e1 e2⟩
 have HN:=zH hn
 have HL:=zH hl
 have HPRE:=zH hpre
 have HSN:=zH hsnoc
 have HROW:=zH hrow
 clear hyl hcell hvs hn hpre hsnoc hrow hl
 go_enter Tryz.func207,Tryz.ntmps207
 go_wp2
 go_loop [3,5,11] (fun s v i=>∃ k:Nat,k≤n∧i=.int .i64 k∧s=.int .i64 (tot ls k:Nat)) (fun _ _ i=>n - (intOf i).toNat)
 case atStart=>exact ⟨0,Nat.zero_le _,rfl,rfl⟩
 case round =>
  obtain ⟨k,hk,rfl,rfl⟩:=hrel
  by_cases hlt:k < n
  ·obtain ⟨y,l,hy,hll,hc,hv⟩:=HROW.out k hlt
   obtain ⟨ya,yc,rfl⟩:∃ a c,y=.slice a l.length c:=by
    rcases hv with ⟨rfl,rfl⟩ | ⟨b,o,c,rfl,-⟩
    ·exact ⟨_,_,rfl⟩
    ·exact ⟨_,_,rfl⟩
   have hs:=HSN.out k l hll
   have hs2:(tot ls (k + 1):Int)=(tot ls k:Int) + (l.length:Int):=by unfold tot;rw [hs,List.length_append];omega
   have hbd:tot ls (k + 1)≤1048576:=Nat.le_trans (HPRE.out _) HL.out
   have hbd2:tot ls k + l.length≤1048576:=by omega
   have HS:=zH hs2
   generalize hB:l.length=B at *
   clear hv hs hs2 hbd hB
   go_wp2
   go_round
   case rel=>exact ⟨k + 1,by omega,by go_num,by rw [HS.out]⟩
   case measure=>simp [intOf];omega
  ·obtain rfl:k=n:=by omega
   have hT:tot ls k=ls.flatten.length:=by unfold tot;rw [HN.out,List.take_length]
   have gw:=fun w':World=>grow_ops w' (tot ls k) (by rw [hT];exact HL.out)
   clear hT
   go_wp2_with fail
   refine (gw _).mono ?_
   rintro e W1 ⟨na,nc,rfl,ho,hb1⟩
   have HR0:=zH (show W1.ownsRow w.heap.size 27 3 (.slice na (tot ls 0) nc) (tot ls 0) ((ls.take 0).flatten.flatMap V.cs)∧Bl w W1 from ⟨ho,hb1⟩)
   clear ho hb1 gw
   go_wp2
   go_loopw [6,8,27] (fun nv v i wr=>∃ (j:Nat) (a:Option Addr) (c:Nat),j≤k∧i=.int .i64 j∧nv=.slice a (tot ls j) c∧wr.ownsRow w.heap.size 27 3 (.slice a (tot ls j) c) (tot ls j) ((ls.take j).flatten.flatMap V.cs)∧Bl w wr) (fun _ _ i _=>k - (intOf i).toNat)
   case atStart=>exact ⟨0,na,nc,Nat.zero_le _,rfl,rfl,HR0.out⟩
   case round =>
    obtain ⟨j,a,c,hj,rfl,rfl,ho,hbw⟩:=hrel
    by_cases hlt2:j < k
    ·obtain ⟨y,l,hy,hll,hc,hv⟩:=HROW.out j hlt2
     have hs:=HSN.out j l hll
     have hs2:tot ls (j + 1)=tot ls j + l.length:=by unfold tot;rw [hs,List.length_append]
     have hbd:tot ls (j + 1)≤1048576:=Nat.le_trans (HPRE.out _) HL.out
     have hcw:wr.cell? ⟨b,o + j,none⟩=some y:=(World.cell?_of_block (w:=w) (a:=⟨b,o + j,none⟩) (hbw.at hb)).trans hc
     have hbl:b < wr.heap.size:=Nat.lt_of_lt_of_le hb hbw.sz
     have hvw:=hv.bl hbw
     obtain ⟨a2,c2,w4,hap,ho4,hb4⟩:∃ a2 c2 w4,(Builtin.append_ #[93,93] 93 #[.slice a (tot ls j) c,y]).run Tryz.prog wr=.ok (.slice a2 (tot ls (j + 1)) c2) w4 ∧
       w4.ownsRow w.heap.size 27 3 (.slice a2 (tot ls (j + 1)) c2) (tot ls (j + 1)) ((ls.take (j + 1)).flatten.flatMap V.cs)∧Bl w w4:=by
      rcases hvw with ⟨rfl,rfl⟩ | ⟨b',o',c',rfl,q1,q2,q3,q4⟩
      ·have hle:tot ls j≤c:=by
        rcases ho.2 with ⟨e,h0⟩ | ⟨g,cap,cur,e,-,-,h1,-⟩
        ·rw [h0];exact Nat.zero_le _
        ·cases e;exact h1
       refine ⟨a,c,wr,?_,?_,hbw⟩
       ·rw [hs2];exact run_app_nil wr 93 93 27 i0 Tryz.underlying93 hi a (tot ls j) c hle
       ·rw [hs2,hs,List.append_nil];exact ho
      ·have hown:wr.ownsRow 0 27 3 (.slice a (tot ls j) c) (tot ls j) ((ls.take j).flatten.flatMap V.cs):=⟨ho.1,ho.2.elim .inl (fun ⟨g,cap,cur,e,_,r⟩=>.inr ⟨g,cap,cur,e,Nat.zero_le _,r⟩)⟩
       obtain ⟨v',w4,hap,ho4,hgrow,hblk⟩:=run_app (P:=Tryz.prog) wr 93 93 27 i0 _ 3 32 Tryz.underlying93 hi hz0 hz1 hz2 rfl (by decide) _ _ _ hown ⟨b',o',none⟩ l.length c' (l.flatMap V.cs) (flat_len l)
        (fun j u h=>by rw [Addr.add_lit];exact q4 j u h) (fun u hu=>by
         obtain ⟨p,-,hp⟩:=List.mem_flatMap.1 hu
         exact cs_one p u hp) (by unfold maxLen;omega) (by omega)
       rw [← hs2] at ho4
       obtain ⟨a2,c2,rfl,-⟩:=row_form ho4
       refine ⟨a2,c2,w4,hap,⟨?_,?_⟩,?_⟩
       ·rw [hs,List.flatMap_append];exact ho4.1
       ·rcases ho4.2 with e | ⟨g,cap,cur,e,h0,hg,r⟩
        ·exact .inl e
        ·refine .inr ⟨g,cap,cur,e,?_,hg,by rw [hs,List.flatMap_append];exact r⟩
         rcases hblk with e2 | ⟨g2,e2,h2⟩
         ·rw [e] at e2;exact (ho.lt g (e2.symm.trans rfl)).1
         ·rw [e] at e2;simp [Value.ownBlock] at e2;have:=hbw.sz;omega
       ·refine ⟨hgrow.os.trans hbw.os,hgrow.tape.trans hbw.tape,hgrow.output.trans hbw.output,Nat.le_trans hbw.sz hgrow.size,fun k hk=>?_⟩
        rw [hgrow.block k (Nat.lt_of_lt_of_le hk hbw.sz) (fun e=>by have:=(ho.lt k e.symm).1;omega)]
        exact hbw.at hk
     have HREL:=zH (And.intro ho4 hb4)
     clear ho hbw hc hv hs hs2 hbd hvw ho4 hb4 hy hll hi hz0 hz1 hz2
     go_wp2_with (at_builtin;refine wpList_app rfl (.tmp 31) (.tmp 32) 93 rfl _ _ (by simp [Go.Act.eval]) (by simp [Go.Act.eval]) _ _ hap ?_)
     go_roundw
     case rel=>first | exact ⟨j + 1,a2,c2,by omega,by go_num,rfl,HREL.out⟩ | ((repeat apply Exists.intro);exact ⟨⟨j + 1,a2,c2,by omega,by go_num,rfl,HREL.out⟩,rfl⟩)
     case measure=>simp [intOf];omega
    ·obtain rfl:j=k:=by omega
     have HF:=zH (show NewVs w ls.flatten (.returned (.slice a (tot ls j) c)) wr from by
      have e:tot ls j=ls.flatten.length:=by unfold tot;rw [HN.out,List.take_length]
      refine ⟨_,rfl,?_,hbw⟩
      have h:=ho
      rw [HN.out,List.take_length] at h
      rw [show tot ls ls.length=ls.flatten.length from by rw [← HN.out];exact e] at h
      rw [e];exact h)
     clear ho hbw
     go_wp2
     go_ret
     exact HF.out
end
end Go.Proofs.YtlbcbikplfocfaaGreatDoor.W
namespace Go.Proofs.YtlbcbikplfocfaaGreatDoor.W.E
section
set_option maxRecDepth 100000
open Go.RowKit
def toRows (m:T SB):List SV→Option (List (List V))
 | []=>some []
 | x :: t=>match rowV m x with
  | some l=>match toRows m t with
   | some ls=>some (l :: ls)
   | none=>none
  | none=>none
theorem toRows_ok {w0:B0} {e:Env} {st:St HX} {w:World} {F:FootE} (hR:Rl (HL w0) e st w F):∀ {xs:List SV} {ls:List (List V)} {us:List Value},toRows st.m xs=some ls→VRs e xs us→us.length=ls.length∧∀ (j:Nat) (y:Value) (l:List V),us[j]?=some y→ls[j]?=some l→Vs w y l
 | [],ls,us,h,hv=>by cases h;cases hv;exact ⟨rfl,fun j y l hy=>by simp at hy⟩
 | x :: t,ls,us,h,hv=>by
  unfold toRows at h
  split at h
  ·rename_i l hl
   split at h
   ·rename_i ls' hls
    cases h
    cases hv with
    | cons h1 h2 =>
     obtain ⟨a1,a2⟩:=toRows_ok hR hls h2
     refine ⟨by simp [a1],fun j y l' hy hl'=>?_⟩
     cases j with
     | zero=>simp at hy hl';subst hy hl';exact (rowV_ok hl hR h1).1.vs
     | succ j=>exact a2 j y l' (by simpa using hy) (by simpa using hl')
   ·cases h
  ·cases h
def rowsV (m:T SB) (x:SV):Option (List (List V)) :=
 match x with
 | .sl b off n esz _=>match m.get b with
  | some (.cells cs _ _ _)=>bif Nat.beq esz 1 && Nat.ble (off + n) cs.length && Nat.ble n 1000 && Nat.blt 0 n then toRows m ((cs.drop off).take n) else none
  | _=>none
 | _=>none
theorem rowsV_ok {w0:B0} {e:Env} {st:St HX} {w:World} {F:FootE} {x:SV} {ls:List (List V)} (h:rowsV st.m x=some ls) (hR:Rl (HL w0) e st w F) {u:Value} (hx:VR e x u):Sls w u ls:=by
 unfold rowsV at h
 split at h
 ·rename_i b off n esz ck
  split at h
  ·rename_i cs ro sib ty hm
   cases hc:Nat.beq esz 1 && Nat.ble (off + n) cs.length && Nat.ble n 1000 && Nat.blt 0 n with
   | false=>rw [hc] at h;cases h
   | true =>
    rw [hc,cond_true] at h
    simp only [Bool.and_eq_true,Nat.blt_eq] at hc
    obtain ⟨⟨⟨h1,h2⟩,h3⟩,h4⟩:=hc
    have h1:=Nat.eq_of_beq_eq_true h1
    have h2:=zB h2
    have h3:=zB h3
    cases hx with
    | sl hb hle hz hmx hck =>
     rename_i c o z cap
     obtain ⟨hnF,hB⟩:=hR.blk b _ c o z hm hb
     obtain ⟨us,k1,k2,k3⟩:=part_row hB off n
     obtain ⟨a1,a2⟩:=toRows_ok hR h k1
     have hlen:us.length=n:=by
      have:=k1.length
      simp at this;omega
     refine ⟨c,o + off,cap,us,by rw [← a1,hlen],by omega,hB.lt,a1,fun j y hj=>by rw [Nat.add_assoc];exact k2 j y hj,a2⟩
    | sle off' es o' hb=>omega
  ·cases h
 ·cases h
def xConc:ExtF:=fun vs st=>match vs with
 | [a0]=>(match rowsV st.m a0 with | some ls=>(bif Nat.blt st.nx TMax && Nat.ble ls.flatten.length 1048576 then some (st.row ls.flatten) else none) | none=>none)
 | _=>none
theorem xConc_any {f:Nat} (hf:∀ (w:World) (x:Value) (ls:List (List V)),Sls w x ls→ls.flatten.length≤big→Calls Tryz.prog f #[x] w (NewVs w ls.flatten)):ExtOk f xConc:=fun w0 vs st v st' h=>by
 unfold xConc at h
 split at h
 ·rename_i a0
  split at h
  ·rename_i ls hls
   cases hc:Nat.blt st.nx TMax && Nat.ble ls.flatten.length 1048576 with
   | false=>rw [hc] at h;cases h
   | true =>
    rw [hc,cond_true] at h
    simp only [Bool.and_eq_true,Nat.blt_eq] at hc
    have h1:=Option.some.inj h
    rw [show v=(st.row ls.flatten).1 from (congrArg Prod.fst h1).symm,show st'=(st.row ls.flatten).2 from (congrArg Prod.snd h1).symm]
    refine ext_row hc.1 fun e w F us hR hvs=>?_
    obtain ⟨u0,us,rfl,q0,hvs⟩:=vrs_cons hvs
    cases vrs_nil hvs
    exact hf w u0 ls (rowsV_ok hls hR q0) (zB hc.2)
  ·cases h
 ·cases h
def xConcV:ExtF:=xConc
def xConcO:ExtF:=xConc
theorem xConcV_ok:ExtOk 155 xConcV:=xConc_any concat_vals
theorem xConcO_ok:ExtOk 207 xConcO:=xConc_any concat_ops
end
section
set_option maxRecDepth 100000
open Go.RowKit
def pl3:T (List Nat):=(.n (.n (.n .e none (.n .e none (.n .e (some [0,2,4,6,14,9,11,13,17]) .e))) none .e) none .e)
def pl4:T (List Nat):=(.n (.n (.n (.n .e none (.n .e (some [0,2,5,7,9,11,13]) .e)) none (.n (.n .e (some [0,2,5,7,9,11,13]) .e) none .e)) none (.n (.n .e none (.n .e (some [0,4,3,7,9,11,13]) .e)) none (.n (.n .e (some [0,2,5,7,9,11,13]) (.n .e (some [0,2,10,5,7,9,13]) .e)) none .e))) none (.n (.n (.n .e none (.n .e (some [0,2,5,7,9,11,13]) (.n .e (some [1,3,5,7,9,11,12,14,16,18,21,23,25,27,29,30,32,34,36,39,41,43,45,47,49,50,52,54,56,58,61,63,65,67,68,70,72,74,76,78,81,83,85,87]) .e))) none (.n (.n .e none (.n .e (some [0,2,5,7,9,11,13,15,17,19,20,23,25,27,29]) .e)) none .e)) none (.n (.n .e none (.n .e none (.n .e (some [0,2,4,6,8,11,13,15,17,19,20,22,24,27,29,31,33]) .e))) none (.n (.n .e (some [0,4,3,7,9,11,13]) (.n .e (some [0,2,10,5,7,9,13]) .e)) none .e))))
def pl5:T (List Nat):=(.n .e none (.n .e none (.n .e none (.n .e none (.n .e (some [0,2,4,6,8,10,12,14,16,18,20,23,25,27,29,31,33,35]) .e)))))
def pl6:T (List Nat):=(.n (.n (.n .e none (.n (.n .e (some [1,3,4,6,9,11,13,15,16,18,21,23,25,27,29]) .e) none (.n .e (some [0,2,5,7,9]) .e))) none (.n .e none (.n .e none (.n .e (some [0,2,4,6,8,10,12,14,17,19,21,23,25,27]) .e)))) none (.n .e none (.n (.n (.n .e (some [1,3,4,6,9,11,13,15,17,18,20,23,25,27,29,31,33,35,37,39]) .e) none .e) none .e)))
def pl7:T (List Nat):=(.n .e none (.n (.n (.n .e (some [1,3,5,7,8,10,13,15,17,19,21,23,25,27,29,30,33,35,37,39,41,43,44,46,49,51,53,55,57,59,61,63,65,66,69,71,73,75,77,79,80,82,85,87,89,91,93,95,97,99,101,103,105,107,109,111]) .e) none .e) none .e))
def pl12:T (List Nat):=(.n (.n (.n .e (some [0,2,4,6,8,20,11,13,15,16,18,23,25]) (.n .e (some [0,2,4,6,8,18,11,13,14,16,21,23]) .e)) (some [0,2,4,6,8,18,11,13,14,16,21,23]) (.n .e (some [0,2,4,6,8,18,11,13,14,16,21,23]) (.n .e (some [1,3,5,6,8,10,12,15,17,19,21]) .e))) none (.n (.n .e (some [0,2,4,6,9,11,13]) .e) (some [0,2,4,6,8,10,12,14,17,19,21]) (.n .e none (.n .e (some [0,2,4,6,8,18,11,13,14,16,21,23]) .e))))
def pl14:T (List Nat):=(.n (.n (.n .e (some [0,2,4,6,8,11,13,15,17]) .e) none .e) none .e)
def pl15:T (List Nat):=(.n (.n (.n .e (some [0,2,4,6,12,9,11,15,17,19,21]) .e) none .e) none (.n (.n .e (some [0,2,4,6,8,10,12,14,16,19,21,23,25]) .e) none .e))
def pl20:T (List Nat):=(.n .e none (.n .e (some [0,2,4,6,8,11,13,15]) .e))
def pl22:T (List Nat):=(.n .e none (.n .e none (.n (.n .e (some [0,2,4,6,8,11,13,15,16,18,21]) .e) none (.n .e none (.n .e (some [0,2,4,8,10,12,7,15]) .e)))))
def pl23:T (List Nat):=(.n (.n .e none (.n .e (some [0,2,4,6,8,10,12,14,16,18,20,23,25,27,29]) .e)) none .e)
def pl24:T (List Nat):=(.n .e none (.n .e (some [0,2,4,6,9,11,13,15,17,19]) .e))
def pl25:T (List Nat):=(.n .e none (.n .e (some [0,2,4,6,8,11,13,15,16,19,21,23]) .e))
def pl26:T (List Nat):=(.n (.n .e none (.n .e (some [0,2,4,6,8,10,12,16,15,19,21,22,25,27,29]) .e)) none (.n .e none (.n .e (some [0,2,4,8,7,11,13,15,17]) .e)))
def pl27:T (List Nat):=(.n (.n .e none (.n .e (some [0,2,4,6,8,10,12,16,15,19,21,22,25,27,29]) .e)) none (.n .e none (.n .e (some [0,2,4,8,7,11,13,15,17]) .e)))
def pl30:T (List Nat):=(.n .e none (.n (.n .e (some [0,2,4,6,8,10,12,16,18,20,26,15,23,25,29]) .e) none .e))
def pl31:T (List Nat):=(.n (.n (.n .e (some [0,2,4,6,8,10,13,15,16,19,21,23]) .e) none .e) none (.n (.n .e (some [0,2,4,6,8,10,13,15,17,19,21,23]) .e) none .e))
def pl32:T (List Nat):=(.n .e none (.n .e (some [0,2,4,6,8,10,14,16,13,19,21,23,25]) .e))
def pl33:T (List Nat):=(.n .e none (.n .e (some [0,2,4,6,8,10,14,13,17,19,21]) .e))
def pl34:T (List Nat):=(.n (.n .e none (.n .e (some [0,2,4,6,8,10,14,13,17,19,20,23,25,27]) .e)) none (.n .e none (.n .e (some [0,2,4,8,7,11,13,15,17]) .e)))
def pl35:T (List Nat):=(.n .e none (.n .e (some [0,2,4,6,8,10,14,18,13,17,21,23,25,27]) .e))
def pl36:T (List Nat):=(.n .e none (.n .e (some [0,2,4,6,8,10,14,13,17,19,21,23]) .e))
def pl37:T (List Nat):=(.n .e none (.n .e (some [0,2,4,6,8,10,14,18,13,17,21,23,24,27,29,31]) .e))
def pl38:T (List Nat):=(.n (.n .e none (.n .e (some [0,2,4,6,8,10,22,13,15,17,18,20,25,27]) .e)) none (.n .e (some [0,2,4,6,8,10,12,14,16,18,21]) .e))
def pl39:T (List Nat):=(.n .e none (.n .e (some [0,2,4,6,8,10,13,15,17,19]) .e))
def pl40:T (List Nat):=(.n .e none (.n .e (some [0,2,4,6,8,10,12,14,17,19,21,23]) .e))
def pl41:T (List Nat):=(.n .e none (.n .e (some [0,2,4,6,8,10,16,13,14,19,21,23,25]) .e))
def pl42:T (List Nat):=(.n .e none (.n .e (some [0,2,4,6,8,11,13,15,17,19,21,23]) .e))
def pl43:T (List Nat):=(.n (.n .e (some [1,3,5,6,8,10,12,15,17,19,21,23]) .e) none (.n .e (some [0,2,4,6,8,20,11,13,15,16,18,23,25]) .e))
def pl46:T (List Nat):=(.n .e none (.n .e (some [0,2,4,6,8,11,13,15,17,19,21]) .e))
def pl49:T (List Nat):=(.n .e none (.n .e (some [0,2,4,6,8,12,24,11,15,17,19,20,22,27,29]) .e))
def pl51:T (List Nat):=(.n .e none (.n .e (some [0,2,4,6,8,12,11,15,17,19]) .e))
def pl52:T (List Nat):=(.n .e none (.n .e (some [0,2,4,6,9,11,13,15]) (.n .e (some [0,2,4,6,8,10,12,14,16,18,20,26,23,25,29,31,32,35,37,39]) .e)))
def pl53:T (List Nat):=(.n (.n (.n (.n .e (some [0,2,4,7,9,11,13]) .e) none .e) none .e) none (.n (.n .e none (.n .e (some [0,2,4,6,8,10,14,13,17,19]) .e)) none (.n .e none (.n .e (some [0,2,4,6,9,11]) .e))))
def pl55:T (List Nat):=(.n .e none (.n (.n .e (some [0,2,4,6,9,11,13]) .e) none .e))
def pl56:T (List Nat):=(.n (.n (.n .e none (.n .e (some [0,2,4,6,8,11,13,15,17]) .e)) none .e) none (.n (.n (.n .e (some [0,2,4,6,8,10,12,14,24,17,19,20,22,27,29]) .e) none .e) none (.n .e none (.n .e none (.n .e (some [0,2,4,6,9,11,13]) .e)))))
def pl57:T (List Nat):=(.n (.n .e (some [0,2,4,6,8,10,12,14,17,19,21]) (.n .e (some [0,2,4,6,8,10,12,14,17,19,21]) .e)) none .e)
def pl59:T (List Nat):=(.n (.n .e none (.n .e (some [0,2,4,6,8,10,12,14,16,20,30,19,23,25,26,28,33,35]) .e)) none (.n (.n .e (some [0,2,6,5,9,11]) .e) none (.n .e (some [0,2,4,6,8,10,12,14,17,19,21,23,25,26,28,31]) .e)))
def pl60:T (List Nat):=(.n .e none (.n .e none (.n .e none (.n .e (some [0,2,4,6,8,11,13,15,17,18,20,23,25]) .e))))
def pl66:T (List Nat):=(.n (.n .e none (.n .e (some [0,2,4,6,9,11,12,15,17,19]) .e)) none .e)
def pl75:T (List Nat):=(.n .e none (.n .e (some [0,4,6,8,10,12,14,16,18,20,3,23,25]) .e))
def pl78:T (List Nat):=(.n (.n .e none (.n (.n .e (some [0,2,5,7]) .e) none .e)) none (.n .e none (.n .e none (.n .e (some [0,2,5,7]) .e))))
def pl79:T (List Nat):=(.n (.n .e none (.n .e (some [0,2,4,6,8,18,11,13,14,16,21,23]) .e)) none (.n (.n .e (some [0,2,4,6,8,11,13,15]) .e) none .e))
def pl83:T (List Nat):=(.n (.n (.n .e (some [0,2,4,6,8,10,12,14,16,18,20,22,24,27,29,31,33,35,37,39]) .e) none .e) none .e)
def pl90:T (List Nat):=(.n (.n .e none (.n .e (some [0,2,4,6,8,10,20,13,15,16,18,23,25]) .e)) none (.n (.n .e (some [0,3,5,6,8,10,12,15,17,18,20,23,25]) .e) (some [0,2,4,6,8,18,11,13,14,16,21,23]) .e))
def pl91:T (List Nat):=(.n (.n (.n .e (some [0,2,4,6,8,12,14,16,11,19,21]) .e) none .e) none .e)
def pl93:T (List Nat):=(.n .e none (.n .e none (.n .e none (.n .e (some [0,2,5,7]) .e))))
def pl96:T (List Nat):=(.n .e none (.n .e (some [0,2,4,6,8,10,12,14,16,20,19,23]) (.n .e (some [0,2,4,6,8,10,12,14,17,19,21]) .e)))
def pl97:T (List Nat):=(.n .e none (.n (.n .e (some [0,2,4,6,9,11,13,15]) .e) none (.n .e (some [0,2,4,6,9,11,13,15]) .e)))
def pl100:T (List Nat):=(.n (.n .e none (.n .e none (.n .e (some [0,2,4,16,7,9,11,12,14,19,21]) .e))) none .e)
def pl102:T (List Nat):=(.n .e none (.n .e none (.n .e (some [0,2,4,8,7,11,13,15]) .e)))
def pl103:T (List Nat):=(.n .e none (.n .e (some [0,3,5,7,9,10,12,15,17,19,21,23]) .e))
def pl104:T (List Nat):=(.n (.n .e none (.n .e (some [0,2,6,8,5,11,13,14,16,19,21]) .e)) none .e)
def pl106:T (List Nat):=(.n .e none (.n (.n (.n .e (some [0,2,4,8,10,14,16,18,7,13,21,23,24,27,29,31]) .e) none .e) none .e))
def pl110:T (List Nat):=(.n .e none (.n .e (some [0,2,4,6,8,10,14,13,17,19]) .e))
def pl111:T (List Nat):=(.n (.n .e none (.n .e (some [0,2,4,6,8,18,11,13,14,16,21,23]) .e)) none (.n (.n .e (some [0,2,4,6,9,11,13]) .e) none .e))
def pl115:T (List Nat):=(.n (.n .e (some [0,2,4,6,8,10,12,14,16,18,22,21,25]) .e) none (.n .e (some [0,2,4,6,8,12,11,15]) .e))
def pl117:T (List Nat):=(.n (.n .e (some [0,2,4,6,9,11,13,15,17,19,21,23,25,27,29,31,33,35,37,39,41,43,45,47,49,51]) (.n .e (some [0,2,4,6,8,10,12,14,16,18,21,23,25]) .e)) none (.n .e (some [0,2,4,6,9,11,13]) (.n .e none (.n .e (some [0,2,4,6,8,11,13,15,17,19]) .e))))
def pl119:T (List Nat):=(.n (.n (.n .e (some [2,4,14,1,7,9,10,12,17,19]) .e) none .e) none (.n (.n .e (some [0,2,4,7,9,11,13]) .e) none (.n .e (some [0,2,4,6,8,10,12,15,17,19]) .e)))
def pl120:T (List Nat):=(.n (.n .e (some [1,3,4,6,8,10,13,15,17,19,21]) (.n .e (some [0,2,4,6,9,11,13,14,16,19]) .e)) none (.n (.n .e (some [0,2,4,6,8,10,12,14,17,19,21]) .e) (some [0,2,4,6,8,18,11,13,14,16,21,23]) (.n (.n .e (some [0,2,4,6,12,9,11,15,17]) .e) none .e)))
def pl123:T (List Nat):=(.n (.n .e (some [0,2,4,6,8,11,13,15,17,19]) (.n .e (some [0,2,4,6,8,10,12,14,16,22,19,21,25]) .e)) none (.n (.n .e (some [0,2,4,6,8,11,13,15,17,19]) .e) none (.n .e (some [0,2,4,6,9,11,13]) .e)))
def pl126:T (List Nat):=(.n .e none (.n .e (some [0,2,4,6,8,10,12,14,16,18,20,22,25,27,29]) (.n .e none (.n .e (some [0,2,4,6,8,11,13,15]) .e))))
def pl127:T (List Nat):=(.n (.n .e (some [0,3,5,6,9,11,13,15,17,19,21,23,25,27,29,31,33,35,36,38,40,42,44,46,49,51]) .e) none .e)
def pl128:T (List Nat):=(.n (.n (.n .e (some [0,2,4,6,9,11,13]) .e) none .e) none (.n (.n .e (some [0,2,4,6,9,11,13]) .e) none (.n .e none (.n .e (some [0,2,4,6,9,11,13]) .e))))
def pl129:T (List Nat):=(.n (.n (.n .e (some [0,2,4,6,8,11,13,15]) .e) none .e) none .e)
def pl131:T (List Nat):=(.n (.n .e (some [0,2,5,7,9,11]) .e) none .e)
def pl133:T (List Nat):=(.n (.n .e (some [0,2,4,6,8,12,14,16,18,20,11,23,25]) .e) none (.n .e (some [0,2,4,6,8,18,11,13,14,16,21,23]) .e))
def pl136:T (List Nat):=(.n (.n (.n .e (some [0,2,4,6,8,12,11,15]) .e) (some [0,2,4,6,9,11,13,15]) (.n .e none (.n .e (some [0,2,4,6,9,11]) .e))) none (.n (.n .e none (.n .e (some [0,2,4,6,9,11,13]) .e)) none (.n .e (some [0,2,5,7,9]) .e)))
def pl138:T (List Nat):=(.n .e none (.n .e (some [0,2,4,6,10,12,14,16,18,9,21,23]) .e))
def pl141:T (List Nat):=(.n .e none (.n .e none (.n .e (some [0,2,4,6,9,11,13,15]) .e)))
def pl142:T (List Nat):=(.n .e none (.n .e (some [0,2,4,6,9,11,13,14,16,19,21]) .e))
def pl143:T (List Nat):=(.n (.n .e none (.n .e (some [0,2,4,6,8,10,12,15,17,19]) .e)) none .e)
def pl154:T (List Nat):=(.n (.n (.n .e none (.n .e (some [0,2,4,6,8,10,13,15,17,19,21,23,25]) .e)) none .e) none (.n (.n .e none (.n .e (some [0,2,4,6,8,11,13,15,17,19,21]) .e)) (some [0,2,4,6,9,11,13,14,16,19,21]) (.n .e (some [0,2,4,6,8,11,13,15,17]) (.n .e (some [0,2,4,6,8,11,13,15,17,19,21,23,25]) .e))))
def pl161:T (List Nat):=(.n .e none (.n .e none (.n .e (some [0,2,4,16,7,9,11,12,14,19,21]) .e)))
def pl164:T (List Nat):=(.n (.n .e none (.n .e (some [0,2,4,8,10,14,16,7,13,19,21,23,24,27,29,31]) .e)) none (.n .e none (.n .e (some [0,3,5,7,8,10,14,16,13,19,21,23,25]) .e)))
def pl169:T (List Nat):=(.n .e none (.n (.n .e none (.n .e (some [0,2,5,7]) .e)) none .e))
def pl172:T (List Nat):=(.n (.n .e (some [0,2,6,8,5,11,13,14,16,19,21]) .e) none .e)
def pl175:T (List Nat):=(.n (.n (.n .e none (.n .e (some [0,2,6,5,9]) .e)) none .e) none .e)
def pl176:T (List Nat):=(.n (.n .e none (.n .e (some [0,2,4,6,8,10,12,15,17,19,21]) .e)) none (.n .e (some [0,2,4,6,9,11,13]) .e))
def pl177:T (List Nat):=(.n (.n .e (some [0,2,5,7,9]) .e) none (.n .e none (.n .e (some [0,2,5,7,9,11]) .e)))
def pl178:T (List Nat):=(.n .e none (.n .e (some [0,2,4,6,8,10,22,13,15,17,18,20,25,27]) .e))
def pl179:T (List Nat):=(.n .e none (.n .e (some [0,2,4,6,8,11,13,15,17]) .e))
def pl180:T (List Nat):=(.n (.n .e none (.n .e (some [0,2,5,7,9,11]) .e)) none (.n .e (some [0,2,4,6,8,10,22,13,15,17,18,20,25,27]) .e))
def pl181:T (List Nat):=(.n .e none (.n (.n .e (some [0,2,4,6,8,14,11,13]) .e) none .e))
def pl182:T (List Nat):=(.n .e none (.n .e none (.n .e (some [0,2,5,7,9,11,13,14,16,19,21]) .e)))
def pl183:T (List Nat):=(.n .e none (.n .e none (.n .e (some [0,2,5,7,9,11,13,15,17]) .e)))
def pl197:T (List Nat):=(.n .e none (.n .e none (.n .e (some [0,2,4,6,8,11,13]) .e)))
def pl203:T (List Nat):=(.n (.n .e none (.n .e (some [0,2,4,6,9,11]) .e)) none (.n .e (some [0,2,4,6,9,11,13,14,16,19,21]) .e))
def pl206:T (List Nat):=(.n .e none (.n .e none (.n .e (some [0,2,4,8,7,11,13,15,17,19]) .e)))
def pl208:T (List Nat):=(.n (.n .e (some [0,2,4,6,8,11,13,15,17,18,20,22,24,26,30,29,33,35,37,38,40,42,44,46,49,51]) .e) none (.n .e (some [0,2,4,6,9,11,13]) .e))
def pl211:T (List Nat):=(.n (.n .e (some [0,3,5,6,9,11,12,14,17,19]) .e) none (.n .e (some [0,2,4,16,7,9,11,12,14,19,21]) .e))
def pl212:T (List Nat):=(.n .e none (.n .e none (.n .e (some [0,3,5,7,8,11,13,15,17]) .e)))
def pl216:T (List Nat):=(.n .e none (.n (.n .e none (.n .e none (.n .e (some [0,2,4,6,8,11,13,15,17]) .e))) none (.n .e none (.n .e none (.n .e (some [0,2,4,6,8,11,13,15,17]) .e)))))
def pl217:T (List Nat):=(.n .e (some [0,2,4,6,8,11,13,15]) .e)
def pl219:T (List Nat):=(.n .e (some [0,2,4,6,8,10,12,14,16,26,19,21,22,24,29,31]) .e)
def pl223:T (List Nat):=(.n .e none (.n .e none (.n .e (some [0,2,4,6,8,10,12,14,16,19,21,23]) .e)))
def pl226:T (List Nat):=(.n .e none (.n (.n (.n .e (some [0,2,5,7,9,11]) .e) none .e) none .e))
def pl230:T (List Nat):=(.n (.n .e none (.n .e (some [0,2,4,6,8,10,13,15]) .e)) none .e)
def pl241:T (List Nat):=(.n (.n (.n .e none (.n (.n .e (some [0,2,4,6,8,10,12,14,24,17,19,20,22,27,29]) .e) none .e)) none (.n (.n (.n .e (some [0,3,5]) .e) none .e) none .e)) none (.n (.n .e (some [0,2,6,8,5,11,13,15]) .e) none (.n (.n .e none (.n .e (some [0,3,5]) .e)) (some [0,3,5,7,9,10,12,16,18,15,21,23,25,27]) .e)))
def pl246:T (List Nat):=(.n .e none (.n .e (some [0,2,4,6,8,10,20,22,13,15,16,18,25,27]) (.n .e (some [0,2,4,6,8,11,13,15]) .e)))
def pl249:T (List Nat):=(.n .e none (.n .e none (.n .e (some [0,2,4,8,12,7,11,15,17,19,21]) .e)))
def pl252:T (List Nat):=(.n .e none (.n (.n .e (some [0,2,4,6,8,18,11,13,14,16,21,23]) .e) none .e))
def pl253:T (List Nat):=(.n (.n .e none (.n .e none (.n .e (some [0,2,4,6,9,11,13,15]) .e))) none (.n (.n .e none (.n .e (some [0,2,4,6,9,11,13,15,17]) .e)) none .e))
def pl254:T (List Nat):=(.n (.n (.n .e none (.n .e (some [0,2,4,6,8,12,16,11,15,19,21,23,25,27]) .e)) none .e) none .e)
def pl255:T (List Nat):=(.n (.n (.n .e (some [0,2,4,6,8,20,11,13,15,16,18,23,25]) .e) none .e) none (.n (.n .e (some [0,2,4,12,7,9,11,15,17]) .e) none (.n .e none (.n .e (some [0,2,6,5,9,11]) .e))))
def pl256:T (List Nat):=(.n (.n .e (some [0,2,6,5,9,11]) .e) none (.n .e (some [0,2,4,6,8,20,11,13,15,16,18,23,25]) .e))
def pl258:T (List Nat):=(.n (.n (.n .e (some [0,2,4,6,8,20,11,13,15,16,18,23,25]) .e) (some [0,2,4,6,9,11,13,15]) .e) none (.n .e none (.n .e (some [0,2,4,6,9,11,13,15]) .e)))
def pl264:T (List Nat):=(.n .e none (.n .e (some [0,2,4,6,9,11,13,15]) (.n .e (some [0,2,4,6,9,11,13,15,17,19]) .e)))
def pl265:T (List Nat):=(.n (.n .e (some [0,2,4,6,9,11,13,15,17]) (.n .e (some [0,2,4,6,9,11,13,15]) .e)) none (.n .e (some [0,2,4,6,8,16,11,13,15,19]) .e))
def pl271:T (List Nat):=(.n .e none (.n .e (some [0,3,5,7,9,10,13,15,17,19,21,23]) .e))
def pl272:T (List Nat):=(.n .e none (.n .e none (.n .e (some [0,2,4,6,9,11,13,15]) .e)))
def pl277:T (List Nat):=(.n (.n (.n (.n .e (some [0,2,4,6,8,10,12,14,16,19,21,23,25,27,29]) .e) none .e) none .e) none .e)
def pl294:T (List Nat):=(.n .e none (.n .e none (.n .e (some [0,2,4,6,8,10,13,15]) .e)))
def pl305:T (List Nat):=(.n .e none (.n .e (some [0,2,4,6,9,11,13,15]) .e))
def pl306:T (List Nat):=(.n .e none (.n .e (some [0,2,4,6,8,11,13,15]) .e))
def pl316:T (List Nat):=(.n (.n (.n .e none (.n .e none (.n .e (some [1,3,5,7,9,11,12,14,16,18,20,22,25,27,29,31,33,35,37,39]) .e))) none .e) none (.n (.n .e none (.n .e (some [1,3,5,7,9,11,12,14,16,18,20,22,25,27,29,31,33,35,37,39]) .e)) none .e))
def pl317:T (List Nat):=(.n .e none (.n (.n .e none (.n .e (some [1,3,5,7,9,11,12,14,16,18,20,22,25,27,29,31,33,35,37,39]) .e)) none .e))
def pl324:T (List Nat):=(.n .e none (.n .e (some [1,3,5,7,8,10,13,15,17,19]) .e))
def pl328:T (List Nat):=(.n .e none (.n .e none (.n .e (some [0,2,4,6,10,12,14,16,18,22,9,21,25]) .e)))
def pl340:T (List Nat):=(.n .e (some [0,2,4,6,12,18,20,22,24,26,9,11,15,17,29,31]) .e)
def pl342:T (List Nat):=(.n .e none (.n (.n .e none (.n .e none (.n .e (some [1,3,5,6,8,10,12,14,16,19,21,23,25,27,29]) .e))) none .e))
def pl345:T (List Nat):=(.n (.n (.n .e (some [0,2,4,6,8,10,12,14,16,18,20,23,25,27,29,31,33,35]) .e) none (.n .e (some [0,3,5,7,8,10,12,14,16,19,21,23,25,27,29]) .e)) none .e)
def pl346:T (List Nat):=(.n (.n (.n .e none (.n .e (some [0,2,4,6,8,10,12,14,16,18,20,22,24,27,29,31,33,35,37,39]) .e)) none .e) none .e)
def pl347:T (List Nat):=(.n (.n (.n .e none (.n .e (some [0,2,4,6,8,10,12,14,16,18,20,22,24,27,29,31,33,35,37,39]) .e)) none .e) none .e)
def pl349:T (List Nat):=(.n .e none (.n .e none (.n .e (some [0,2,4,6,8,10,12,14,16,19,21,23,25,27,29,31]) .e)))
def pl350:T (List Nat):=(.n (.n (.n (.n .e none (.n .e (some [0,2,4,6,8,11,13,15,17,19,21]) .e)) none .e) none (.n .e none (.n .e none (.n .e (some [0,2,4,6,8,11,13,15,17,19,21]) .e)))) none (.n (.n .e (some [0,3,5,7,8,10,12,14,16,19,21,23,25,27,29,31]) (.n .e none (.n .e (some [0,2,4,6,8,10,12,14,16,18,20,23,25,27,29,31,33,35]) .e))) none (.n (.n .e (some [0,2,4,6,8,10,12,14,16,18,20,23,25,27,29,31,33,35]) .e) none (.n (.n .e (some [0,2,4,6,8,10,12,14,16,18,20,23,25,27,29,31,33,35]) .e) none .e))))
def pl352:T (List Nat):=(.n (.n .e none (.n .e none (.n .e (some [0,2,4,6,8,10,12,14,16,19,21,23,25,27,29,31]) .e))) none (.n (.n .e (some [0,3,5,7,8,10,12,14,16,19,21,23,25,27]) .e) (some [0,2,4,6,8,10,12,14,16,19,21,23,25,27,29,31]) (.n .e (some [0,3,5,7,8,10,12,14,16,19,21,23,25,27,29]) .e)))
def pl353:T (List Nat):=(.n (.n (.n .e none (.n .e (some [0,2,4,6,8,10,12,14,16,19,21,23,25,27,29,31]) (.n .e (some [0,2,4,6,8,10,12,14,16,19,21,23,25,27,29,31]) .e))) none (.n .e none (.n .e (some [0,2,4,6,8,10,12,14,16,19,21,23,25,27,29,31]) .e))) none (.n (.n (.n .e (some [0,3,5,7,8,10,12,14,16,19,21,23,25,27]) (.n .e (some [0,2,4,6,8,10,12,14,16,19,21,23,25,27,29,31]) .e)) (some [0,3,5,7,8,10,12,14,16,19,21,23,25,27,29]) .e) (some [0,2,4,6,8,10,12,14,16,19,21,23,25,27,29,31]) (.n .e (some [0,3,5,7,8,10,12,14,16,19,21,23,25,27]) (.n .e none (.n .e (some [0,3,5,7,8,10,12,14,16,19,21,23,25,27,29]) .e)))))
def pl356:T (List Nat):=(.n (.n (.n .e (some [0,2,4,6,8,10,12,14,16,18,20,22,24,26,28,30,33,35,37,39,41,43,45,47]) .e) none .e) none (.n (.n .e (some [0,2,4,6,8,10,12,14,17,19,21,23,25,27]) .e) none (.n .e (some [0,2,5,7,9,10,12,14,16,18,20,22,24,27,29,31,33,35,37,39]) .e)))
def pl358:T (List Nat):=(.n (.n .e (some [0,2,4,7,9,11,13,15,17,19]) .e) none (.n .e (some [0,2,4,7,9,11,13,15,17,19]) (.n .e (some [0,2,4,7,9,11,13,15,17,19]) .e)))
def pl361:T (List Nat):=(.n .e none (.n .e (some [0,2,4,6,8,11,13,15,17]) .e))
def planT:T (T (List Nat)):=(.n (.n (.n (.n (.n (.n (.n (.n .e (some pl254) .e) (some pl126) .e) none (.n (.n .e none (.n .e (some pl350) .e)) none .e)) (some pl30) (.n (.n .e (some pl110) .e) (some pl46) (.n (.n .e (some pl206) .e) (some pl78) (.n .e (some pl142) .e)))) (some pl14) (.n (.n (.n (.n .e (some pl246) .e) none (.n .e (some pl182) .e)) none (.n (.n .e none (.n .e (some pl342) .e)) none .e)) (some pl22) (.n (.n (.n .e (some pl230) (.n .e (some pl358) .e)) (some pl102) (.n .e none (.n .e (some pl294) .e))) (some pl38) .e))) (some pl6) (.n (.n (.n .e none (.n (.n .e none (.n .e (some pl346) .e)) (some pl90) (.n .e (some pl154) .e))) (some pl26) (.n (.n .e (some pl106) .e) (some pl42) (.n .e none (.n .e (some pl138) .e)))) none (.n (.n (.n .e none (.n .e (some pl178) (.n .e (some pl306) .e))) none .e) none (.n (.n (.n .e (some pl226) .e) none .e) (some pl34) (.n .e (some pl66) (.n .e none (.n .e (some pl258) .e))))))) none (.n (.n (.n (.n (.n (.n .e (some pl252) .e) none (.n .e none (.n .e (some pl316) .e))) (some pl60) .e) none (.n (.n .e none (.n .e (some pl172) .e)) none .e)) (some pl12) (.n (.n (.n .e none (.n .e (some pl180) .e)) (some pl52) (.n (.n .e (some pl212) (.n .e (some pl340) .e)) none .e)) (some pl20) (.n (.n (.n .e none (.n .e (some pl356) .e)) (some pl100) (.n .e (some pl164) .e)) (some pl36) (.n (.n .e none (.n .e (some pl324) .e)) none .e)))) (some pl4) (.n (.n (.n (.n .e (some pl120) .e) (some pl56) (.n (.n .e (some pl216) .e) none .e)) (some pl24) (.n (.n .e (some pl104) .e) (some pl40) (.n (.n .e none (.n .e (some pl328) .e)) none (.n .e (some pl136) (.n .e (some pl264) .e))))) none (.n (.n (.n .e none (.n .e (some pl176) .e)) none (.n (.n .e (some pl208) .e) none (.n .e none (.n .e (some pl272) .e)))) none (.n (.n (.n .e none (.n .e (some pl352) .e)) (some pl96) .e) (some pl32) (.n .e none (.n .e (some pl128) (.n .e (some pl256) .e)))))))) none (.n (.n (.n (.n (.n (.n (.n .e (some pl253) .e) none (.n .e none (.n .e (some pl317) .e))) none (.n (.n .e none (.n .e (some pl349) .e)) (some pl93) .e)) none (.n .e none (.n .e none (.n .e (some pl141) .e)))) none (.n (.n (.n .e (some pl117) (.n .e (some pl181) .e)) (some pl53) (.n .e none (.n .e none (.n .e (some pl277) .e)))) none (.n .e (some pl37) (.n (.n .e (some pl197) .e) none (.n .e (some pl133) .e))))) (some pl5) (.n (.n (.n (.n (.n .e (some pl249) .e) none .e) (some pl57) (.n (.n .e (some pl217) (.n .e (some pl345) .e)) none .e)) (some pl25) (.n (.n (.n .e none (.n .e (some pl361) .e)) none (.n .e (some pl169) .e)) (some pl41) (.n .e none (.n .e none (.n .e (some pl265) .e))))) none (.n (.n (.n (.n .e (some pl241) .e) none (.n .e (some pl177) (.n .e (some pl305) .e))) (some pl49) .e) none (.n (.n (.n .e none (.n .e (some pl353) .e)) (some pl97) (.n .e (some pl161) .e)) (some pl33) (.n .e none (.n .e (some pl129) .e)))))) none (.n (.n (.n (.n (.n .e (some pl123) .e) (some pl59) (.n (.n .e (some pl219) (.n .e (some pl347) .e)) (some pl91) .e)) (some pl27) (.n .e (some pl43) (.n (.n .e (some pl203) .e) (some pl75) .e))) none (.n (.n (.n .e (some pl115) (.n .e (some pl179) .e)) (some pl51) (.n (.n .e (some pl211) .e) (some pl83) .e)) none (.n .e (some pl35) (.n .e none (.n .e (some pl131) .e))))) (some pl3) (.n (.n (.n (.n .e (some pl119) (.n .e (some pl183) .e)) (some pl55) .e) (some pl23) (.n (.n .e (some pl103) .e) (some pl39) .e)) (some pl7) (.n (.n (.n .e (some pl111) (.n .e (some pl175) .e)) none (.n .e (some pl79) (.n .e (some pl143) (.n .e (some pl271) .e)))) (some pl15) (.n (.n (.n .e (some pl223) .e) none .e) (some pl31) (.n .e none (.n .e (some pl127) (.n .e (some pl255) .e)))))))))
def plan (f id:Nat):Option Plan :=
 match planT.get f with
 | some t=>match t.get id with
  | some l=>some (planOf l)
  | none=>none
 | none=>none
def chkF (f:Nat) (g:Func):Bool:=!(g.name == "runtime.NumGoroutine") && match g.body with | some c=>planOkC (plan f) c | none=>true
def chkL:List Func→Nat→Bool
 | [],_=>true
 | g :: t,k=>chkF k g && chkL t (k + 1)
theorem chkL_ok:∀ {l:List Func} {k:Nat},chkL l k=true→∀ j g,l[j]?=some g→chkF (k + j) g=true
 | [],_,_,j,g,h=>by simp at h
 | a :: t,k,h,j,g,hj=>by
  simp only [chkL,Bool.and_eq_true] at h
  cases j with
  | zero=>simp at hj;subst hj;exact h.1
  | succ j=>have:=chkL_ok h.2 j g (by simpa using hj);rwa [show k + 1 + j=k + (j + 1) by omega] at this
set_option maxHeartbeats 4000000 in
theorem chk_all:chkL Tryz.prog.funcs.toList 0=true:=by kernel_rfl
theorem fn_all (f:Nat) (g:Func) (h:Tryz.prog.funcs[f]?=some g):Tryz.prog.funcs[f]?=some g∧(g.name == "runtime.NumGoroutine")=false∧∀ c,g.body=some c→planOkC (plan f) c=true:=by
 have:=chkL_ok chk_all f g (by simpa using h)
 rw [Nat.zero_add] at this
 simp only [chkF,Bool.and_eq_true,Bool.not_eq_true'] at this
 refine ⟨h,this.1,fun c hc=>?_⟩
 have h2:=this.2
 rw [hc] at h2
 exact h2
end
section
set_option maxRecDepth 100000
open Go.RowKit
def extT:T ExtF:=(.n (.n (.n (.n (.n .e none (.n .e none (.n .e (some xClass) .e))) none (.n (.n (.n .e none (.n .e none (.n .e (some xCheck) .e))) none .e) (some xBoot) .e)) none (.n (.n .e none (.n .e none (.n .e (some xSweep) (.n .e (some xString) .e)))) none (.n .e none (.n (.n .e none (.n .e (some xNum) .e)) none (.n .e (some xGet) .e))))) none (.n (.n (.n .e none (.n (.n .e none (.n .e none (.n .e (some xJoin) .e))) none (.n .e (some xLive) .e))) none (.n (.n (.n .e (some xItems) .e) none (.n (.n .e (some xSub) .e) none .e)) none (.n .e none (.n .e (some xAt) .e)))) none (.n .e none (.n .e none (.n .e none (.n (.n .e (some xLen) .e) none .e)))))) none (.n (.n (.n .e none (.n .e (some xNew) (.n .e none (.n .e (some xKind) .e)))) none (.n (.n (.n .e none (.n .e none (.n .e (some xKeys) .e))) none .e) none (.n .e none (.n (.n .e none (.n .e (some xFind) .e)) none (.n .e (some xName) (.n .e (some xSetAt) .e)))))) none (.n (.n (.n (.n .e none (.n .e none (.n .e (some xConcV) .e))) none .e) none (.n (.n .e none (.n .e (some xReplace) .e)) none .e)) none (.n (.n .e (some xMake) .e) none (.n (.n .e none (.n (.n .e (some xConcO) .e) (some xPut) .e)) none .e)))))
def T.Of {α:Type} (p:Nat→α→Prop):T α→(Nat→Nat)→Prop
 | .e,_=>True
 | .n l v r,φ=>T.Of p l (fun k=>φ (2 * k + 2))∧(∀ x,v=some x→p (φ 0) x)∧T.Of p r (fun k=>φ (2 * k + 1))
theorem T.Of_get {α:Type} {p:Nat→α→Prop}:∀ (t:T α) (φ:Nat→Nat),T.Of p t φ→∀ k x,t.get k=some x→p (φ k) x
 | .e,_,_,_,_,h=>by cases h
 | .n l v r,φ,h,k,x,hx=>by
  obtain ⟨h1,h2,h3⟩:=h
  cases k with
  | zero=>exact h2 x hx
  | succ k =>
   by_cases hk:k % 2=0
   ·have:=T.Of_get r _ h3 (k / 2) x (T.get_n_r hk hx)
    rwa [show 2 * (k / 2) + 1=k + 1 by omega] at this
   ·have:=T.Of_get l _ h1 (k / 2) x (T.get_n_l hk hx)
    rwa [show 2 * (k / 2) + 2=k + 1 by omega] at this
theorem callable_of {P:Program} {f:Nat} (h:(match P.funcs[f]? with | some g=>!g.body.isNone && !(g.name == "runtime.NumGoroutine") | none=>false)=true):Callable P f:=by
 split at h
 ·rename_i g hg
  simp only [Bool.and_eq_true,Bool.not_eq_true'] at h
  exact ⟨g,hg,h.1,h.2⟩
 ·cases h
def extP (f:Nat) (h:ExtF):Prop:=Callable Tryz.prog f∧ExtOk f h
theorem ext_all:T.Of extP extT (fun k=>k):=⟨⟨⟨⟨⟨trivial,nofun,⟨trivial,nofun,⟨trivial,fun _ h=>by cases h;exact ⟨callable_of (by kernel_rfl),xClass_ok⟩,trivial⟩⟩⟩,nofun,⟨⟨⟨trivial,nofun,⟨trivial,nofun,⟨trivial,fun _ h=>by cases h;exact ⟨callable_of (by kernel_rfl),xCheck_ok⟩,trivial⟩⟩⟩,nofun,trivial⟩,fun _ h=>by cases h;exact ⟨callable_of (by kernel_rfl),xBoot_ok⟩,trivial⟩⟩,nofun,⟨⟨trivial,nofun,⟨trivial,nofun,⟨trivial,fun _ h=>by cases h;exact ⟨callable_of (by kernel_rfl),xSweep_ok⟩,⟨trivial,fun _ h=>by cases h;exact ⟨callable_of (by kernel_rfl),xString_ok⟩,trivial⟩⟩⟩⟩,nofun,⟨trivial,nofun,⟨⟨trivial,nofun,⟨trivial,fun _ h=>by cases h;exact ⟨callable_of (by kernel_rfl),xNum_ok⟩,trivial⟩⟩,nofun,⟨trivial,fun _ h=>by cases h;exact ⟨callable_of (by kernel_rfl),xGet_ok⟩,trivial⟩⟩⟩⟩⟩,nofun,⟨⟨⟨trivial,nofun,⟨⟨trivial,nofun,⟨trivial,nofun,⟨trivial,fun _ h=>by cases h;exact ⟨callable_of (by kernel_rfl),xJoin_ok⟩,trivial⟩⟩⟩,nofun,⟨trivial,fun _ h=>by cases h;exact ⟨callable_of (by kernel_rfl),xLive_ok⟩,trivial⟩⟩⟩,nofun,⟨⟨⟨trivial,fun _ h=>by cases h;exact ⟨callable_of (by kernel_rfl),xItems_ok⟩,trivial⟩,nofun,⟨⟨trivial,fun _ h=>by cases h;exact ⟨callable_of (by kernel_rfl),xSub_ok⟩,trivial⟩,nofun,trivial⟩⟩,nofun,⟨trivial,nofun,⟨trivial,fun _ h=>by cases h;exact ⟨callable_of (by kernel_rfl),xAt_ok⟩,trivial⟩⟩⟩⟩,nofun,⟨trivial,nofun,⟨trivial,nofun,⟨trivial,nofun,⟨⟨trivial,fun _ h=>by cases h;exact ⟨callable_of (by kernel_rfl),xLen_ok⟩,trivial⟩,nofun,trivial⟩⟩⟩⟩⟩⟩,nofun,⟨⟨⟨trivial,nofun,⟨trivial,fun _ h=>by cases h;exact ⟨callable_of (by kernel_rfl),xNew_ok⟩,⟨trivial,nofun,⟨trivial,fun _ h=>by cases h;exact ⟨callable_of (by kernel_rfl),xKind_ok⟩,trivial⟩⟩⟩⟩,nofun,⟨⟨⟨trivial,nofun,⟨trivial,nofun,⟨trivial,fun _ h=>by cases h;exact ⟨callable_of (by kernel_rfl),xKeys_ok⟩,trivial⟩⟩⟩,nofun,trivial⟩,nofun,⟨trivial,nofun,⟨⟨trivial,nofun,⟨trivial,fun _ h=>by cases h;exact ⟨callable_of (by kernel_rfl),xFind_ok⟩,trivial⟩⟩,nofun,⟨trivial,fun _ h=>by cases h;exact ⟨callable_of (by kernel_rfl),xName_ok⟩,⟨trivial,fun _ h=>by cases h;exact ⟨callable_of (by kernel_rfl),xSetAt_ok⟩,trivial⟩⟩⟩⟩⟩⟩,nofun,⟨⟨⟨⟨trivial,nofun,⟨trivial,nofun,⟨trivial,fun _ h=>by cases h;exact ⟨callable_of (by kernel_rfl),xConcV_ok⟩,trivial⟩⟩⟩,nofun,trivial⟩,nofun,⟨⟨trivial,nofun,⟨trivial,fun _ h=>by cases h;exact ⟨callable_of (by kernel_rfl),xReplace_ok⟩,trivial⟩⟩,nofun,trivial⟩⟩,nofun,⟨⟨trivial,fun _ h=>by cases h;exact ⟨callable_of (by kernel_rfl),xMake_ok⟩,trivial⟩,nofun,⟨⟨trivial,nofun,⟨⟨trivial,fun _ h=>by cases h;exact ⟨callable_of (by kernel_rfl),xConcO_ok⟩,trivial⟩,fun _ h=>by cases h;exact ⟨callable_of (by kernel_rfl),xPut_ok⟩,trivial⟩⟩,nofun,trivial⟩⟩⟩⟩⟩
theorem extT_ok:∀ f h,extT.get f=some h→extP f h:=fun f h hf=>T.Of_get extT _ ext_all f h hf
abbrev ExtT:=Nat→Option ExtF
def C (P:Program) (ext:ExtT) (w0:B0):Cfg HX:=⟨P,HL w0,fun f=>P.funcs[f]?,ext,hbit,hvalW P w0.fo,HX.good⟩
theorem C_ok {ext:ExtT} (hx:∀ f h,ext f=some h→extP f h) (w0:B0):(C Tryz.prog ext w0).Ok plan :=
 ⟨by kernel_rfl,fun f g h=>fn_all f g h,fun f h hf=>by
  obtain ⟨h1,h2⟩:=hx f h hf
  exact ⟨h1,h2 w0⟩,hval_ok (w0:=w0),fun b x b' x' h hg=>by
  obtain ⟨h1,h2,h3⟩:=hbit_ok (w0:=w0) b x b' x' h hg
  exact ⟨h1,h2,h3⟩⟩
def run (P:Program) (ext:ExtT) (K n f:Nat) (vs:List SV) (st:St HX):Option (SV × St HX):=callF (C P ext default) plan K n f vs st
theorem run_ok {ext:ExtT} (hx:∀ f h,ext f=some h→extP f h) {K n f:Nat} {vs:List SV} {st st':St HX} {v:SV} (h:run Tryz.prog ext K n f vs st=some (v,st')) (w:World):CallsR Tryz.prog (HL (B0.of w)) HX.good f vs st v st' :=
 (callF_ok (C_ok hx (B0.of w)) K n f vs st v st' h).2
def st0 (sc:List (Nat × Sc)):St HX:=⟨.e,0,⟨none,0,sc,[],[]⟩⟩
theorem st0_no {sc:List (Nat × Sc)} {b:Nat} {k:SB} (h:(st0 sc).m.get b=some k):False:=by
 rw [show (st0 sc).m.get b=none from T.get_e b] at h;cases h
theorem Fix.of {w:World} {d:Nat}:Fix (B0.of w) d↔d=0∨d=2:=⟨fun h=>h.imp id fun h=>h.elim id fun ⟨b,o,z,h⟩=>(by cases h),fun h=>h.imp id .inl⟩
theorem st0_ok (sc:List (Nat × Sc)) (w:World) (hg:Gl w):Rl (HL (B0.of w)) (fun _=>none) (st0 sc) w (Fix (B0.of w)) :=
 ⟨fun _ _ _ _ _ h _=>(st0_no h).elim,fun _ _ _ _ _ _ _ _ _ _ h _ _ _ _ _=>(st0_no h).elim,fun _ _ h=>(st0_no h).elim,fun _ _ h=>(by cases h),fun _ _ h _=>(st0_no h).elim,⟨⟨hg,fun _ _=>rfl,Nat.le_refl _,nofun⟩,fun _=>Iff.rfl⟩⟩
def outL (r:Option (SV × St HX)) (v:SV):Option (Bool × List Prop × List SV):=match r with
 | some p=>some (SV.beq p.1 v,p.2.x.pc,p.2.x.rc.map Prod.fst)
 | none=>none
def outR (r:Option (SV × St HX)) (ps:List Prop):Option (Bool × List Prop × List SV):=match r with
 | some p=>some (true,ps,p.2.x.rc.map Prod.snd)
 | none=>some (false,[],[])
theorem map_same {α:Type}:∀ {l:List (α × α)},l.map Prod.fst=l.map Prod.snd→∀ q∈l,q.1=q.2
 | [],_,_,h=>by cases h
 | p :: t,h,q,hq=>by
  simp only [List.map_cons,List.cons.injEq] at h
  rcases List.mem_cons.1 hq with rfl | hq
  ·exact h.1
  ·exact map_same h.2 q hq
def AllP:List Prop→Prop
 | []=>True
 | p :: t=>p∧AllP t
theorem AllP.mem:∀ {l:List Prop},AllP l→∀ p∈l,p
 | [],_,_,h=>by cases h
 | q :: t,hl,p,h=>by
  rcases List.mem_cons.1 h with rfl | h
  ·exact hl.1
  ·exact AllP.mem hl.2 p h
theorem outP_ok {r:Option (SV × St HX)} {v:SV} {ps:List Prop} (h:outL r v=outR r ps) (hp:AllP ps):∃ st',r=some (v,st')∧st'.x.good:=by
 unfold outL outR at h
 split at h
 ·rename_i p
  injection h with h
  injection h with h1 h2
  injection h2 with h2 h3
  refine ⟨p.2,by rw [← SV.beq_ok h1],?_,map_same h3⟩
  subst h2
  exact AllP.mem hp
 ·cases h
theorem run_call {ext:ExtT} (hx:∀ f h,ext f=some h→extP f h) {K n f:Nat} {vs:List SV} {sc:List (Nat × Sc)} {v:SV} {ps:List Prop} (h:outL (run Tryz.prog ext K n f vs (st0 sc)) v=outR (run Tryz.prog ext K n f vs (st0 sc)) ps) (hp:AllP ps) {us:List Value} (hvs:VRs (fun _=>none) vs us) {u:Value} (hu:∀ e x,VR e v x→x=u) (w:World) (hg:Gl w):Calls Tryz.prog f ⟨us⟩ w fun en w'=>en=.returned u∧Bl w w':=by
 obtain ⟨st',h1,h2⟩:=outP_ok h hp
 have:=(run_ok hx h1 w h2).2 (fun _=>none) w _ us (st0_ok sc w hg) hvs
 refine this.mono fun en w' ⟨x,e',F',q1,q2,q3,q4⟩=>?_
 refine ⟨by rw [q1,hu e' x q2],q4.os,q4.tape,q4.output,q4.size,fun b hb=>?_⟩
 have he:=q3.ext.1
 by_cases h0:b=0
 ·rw [h0];exact he.2.1 0 (.inl rfl)
 ·by_cases h2:b=2
  ·rw [h2];exact he.2.1 2 (.inr (.inl rfl))
  ·refine q4.frame b hb fun hi=>?_
   rcases hi with hi | ⟨y,k,o,z,hy,-⟩
   ·exact (Fix.of.1 hi).elim h0 h2
   ·exact (st0_no hy).elim
theorem shown_run:outL (run Tryz.prog extT.get 100000 100 7 [] (st0 [])) (.bool true)=outR (run Tryz.prog extT.get 100000 100 7 [] (st0 [])) []:=by kernel_rfl
theorem shown_any (w:World) (hg:Gl w):Calls Tryz.prog 7 #[] w fun en w'=>en=.returned (.bool true)∧Bl w w' :=
 run_call extT_ok shown_run trivial .nil (fun e x hx=>by cases hx;rfl) w hg
def xShown:ExtF:=fun vs st=>match vs with
 | []=>some (.bool true,st)
 | _=>none
theorem xShown_ok:ExtOk 7 xShown:=fun w0 vs st v st' h=>by
 unfold xShown at h
 split at h
 ·cases h
  exact ext_reader fun e w F us hR hvs=>by
   cases vrs_nil hvs
   exact ⟨_,.bool true,shown_any w hR.gl⟩
 ·cases h
def extL:ExtT:=fun f=>bif Nat.beq f 7 then some xShown else extT.get f
theorem extL_ok:∀ f h,extL f=some h→extP f h:=fun f h hf=>by
 unfold extL at hf
 cases hb:Nat.beq f 7 with
 | true =>
  rw [hb,cond_true] at hf;cases hf
  rw [Nat.eq_of_beq_eq_true hb]
  exact ⟨callable_of (by kernel_rfl),xShown_ok⟩
 | false=>rw [hb,cond_false] at hf;exact extT_ok f h hf
end
section
set_option maxRecDepth 100000
open Go.RowKit
def andI (d m:Int):Int:=IntKind.i64.wrap (BitVec.ofInt 64 d &&& BitVec.ofInt 64 m).toNat
theorem andI_mod (d m:Int) (k:Nat) (hk:k≤62) (hm:(BitVec.ofInt 64 m).toNat=2 ^ k - 1):andI d m=d % ((2 ^ k:Nat):Int):=by
 have h2:2 ^ k≤2 ^ 62:=Nat.pow_le_pow_right (by omega) hk
 have h3:0 < 2 ^ k:=Nat.two_pow_pos k
 have h1:(BitVec.ofInt 64 d &&& BitVec.ofInt 64 m).toNat=(d % 18446744073709551616).toNat % 2 ^ k:=by
  rw [BitVec.toNat_and,hm,Nat.and_two_pow_sub_one_eq_mod,BitVec.toNat_ofInt];rfl
 unfold andI
 rw [h1]
 have hb:(((d % 18446744073709551616).toNat % 2 ^ k:Nat):Int)=d % ((2 ^ k:Nat):Int):=by
  have h4:0≤d % 18446744073709551616:=Int.emod_nonneg _ (by omega)
  rw [Int.natCast_emod,Int.toNat_of_nonneg h4]
  refine Int.emod_emod_of_dvd _ ?_
  have:(18446744073709551616:Int)=((2 ^ 64:Nat):Int):=rfl
  rw [this]
  exact Int.ofNat_dvd.2 (Nat.pow_dvd_pow 2 (by omega))
 rw [hb]
 have h5:0≤d % ((2 ^ k:Nat):Int):=Int.emod_nonneg _ (by omega)
 have h6:d % ((2 ^ k:Nat):Int) < ((2 ^ k:Nat):Int):=Int.emod_lt_of_pos _ (by omega)
 generalize d % ((2 ^ k:Nat):Int)=x at h5 h6
 have h7:x < 4611686018427387904:=by omega
 show (let m:=x % 18446744073709551616;if true && decide (m ≥ 9223372036854775808) then m - 18446744073709551616 else m)=x
 rw [Int.emod_eq_of_lt h5 (by omega)]
 simp only [Bool.true_and,decide_eq_true_eq]
 rw [if_neg (by omega)]
theorem andI_ffff (d:Int):andI d 65535=d % 65536:=andI_mod d 65535 16 (by omega) rfl
end
end Go.Proofs.YtlbcbikplfocfaaGreatDoor.W.E
