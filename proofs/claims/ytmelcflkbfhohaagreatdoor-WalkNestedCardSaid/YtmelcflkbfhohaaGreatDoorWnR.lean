/- WnR -/
import Derived.Test.YtmelcflkbfhohaaGreatDoorWnD
import Derived.Test.YtmelcflkbfhohaaGreatDoorWnX
import Derived.Test.YtmelcflkbfhohaaGreatDoorWnL0
import Derived.Test.YtmelcflkbfhohaaGreatDoorWnL1
import Derived.Test.YtmelcflkbfhohaaGreatDoorWnL2
import Derived.Test.YtmelcflkbfhohaaGreatDoorWnL3
import Derived.Test.YtmelcflkbfhohaaGreatDoorWnL4
import Derived.Test.YtmelcflkbfhohaaGreatDoorWnL5
import Derived.Test.YtmelcflkbfhohaaGreatDoorWnE0
import Derived.Test.YtmelcflkbfhohaaGreatDoorWnE1
import Derived.Test.YtmelcflkbfhohaaGreatDoorWnE2
set_option linter.unusedVariables false
set_option linter.unusedSimpArgs false
namespace Go.Proofs.YtmelcflkbfhohaaGreatDoor.W.E
section
set_option maxRecDepth 100000
open Go.RowKit
theorem levA (b b':Int):∀ j,j < 59→levQ b b' j
 | 0,_=>lev0 b b'
 | 1,_=>lev1 b b'
 | 2,_=>lev2 b b'
 | 3,_=>lev3 b b'
 | 4,_=>lev4 b b'
 | 5,_=>lev5 b b'
 | 6,_=>lev6 b b'
 | 7,_=>lev7 b b'
 | 8,_=>lev8 b b'
 | 9,_=>lev9 b b'
 | 10,_=>lev10 b b'
 | 11,_=>lev11 b b'
 | 12,_=>lev12 b b'
 | 13,_=>lev13 b b'
 | 14,_=>lev14 b b'
 | 15,_=>lev15 b b'
 | 16,_=>lev16 b b'
 | 17,_=>lev17 b b'
 | 18,_=>lev18 b b'
 | 19,_=>lev19 b b'
 | 20,_=>lev20 b b'
 | 21,_=>lev21 b b'
 | 22,_=>lev22 b b'
 | 23,_=>lev23 b b'
 | 24,_=>lev24 b b'
 | 25,_=>lev25 b b'
 | 26,_=>lev26 b b'
 | 27,_=>lev27 b b'
 | 28,_=>lev28 b b'
 | 29,_=>lev29 b b'
 | 30,_=>lev30 b b'
 | 31,_=>lev31 b b'
 | 32,_=>lev32 b b'
 | 33,_=>lev33 b b'
 | 34,_=>lev34 b b'
 | 35,_=>lev35 b b'
 | 36,_=>lev36 b b'
 | 37,_=>lev37 b b'
 | 38,_=>lev38 b b'
 | 39,_=>lev39 b b'
 | 40,_=>lev40 b b'
 | 41,_=>lev41 b b'
 | 42,_=>lev42 b b'
 | 43,_=>lev43 b b'
 | 44,_=>lev44 b b'
 | 45,_=>lev45 b b'
 | 46,_=>lev46 b b'
 | 47,_=>lev47 b b'
 | 48,_=>lev48 b b'
 | 49,_=>lev49 b b'
 | 50,_=>lev50 b b'
 | 51,_=>lev51 b b'
 | 52,_=>lev52 b b'
 | 53,_=>lev53 b b'
 | 54,_=>lev54 b b'
 | 55,_=>lev55 b b'
 | 56,_=>lev56 b b'
 | 57,_=>lev57 b b'
 | 58,_=>lev58 b b'
 | n + 59,h=>absurd h (by omega)
theorem endA:∀ j,j < 59→endQ j∧finQ j
 | 0,_=>⟨end0,fin0⟩
 | 1,_=>⟨end1,fin1⟩
 | 2,_=>⟨end2,fin2⟩
 | 3,_=>⟨end3,fin3⟩
 | 4,_=>⟨end4,fin4⟩
 | 5,_=>⟨end5,fin5⟩
 | 6,_=>⟨end6,fin6⟩
 | 7,_=>⟨end7,fin7⟩
 | 8,_=>⟨end8,fin8⟩
 | 9,_=>⟨end9,fin9⟩
 | 10,_=>⟨end10,fin10⟩
 | 11,_=>⟨end11,fin11⟩
 | 12,_=>⟨end12,fin12⟩
 | 13,_=>⟨end13,fin13⟩
 | 14,_=>⟨end14,fin14⟩
 | 15,_=>⟨end15,fin15⟩
 | 16,_=>⟨end16,fin16⟩
 | 17,_=>⟨end17,fin17⟩
 | 18,_=>⟨end18,fin18⟩
 | 19,_=>⟨end19,fin19⟩
 | 20,_=>⟨end20,fin20⟩
 | 21,_=>⟨end21,fin21⟩
 | 22,_=>⟨end22,fin22⟩
 | 23,_=>⟨end23,fin23⟩
 | 24,_=>⟨end24,fin24⟩
 | 25,_=>⟨end25,fin25⟩
 | 26,_=>⟨end26,fin26⟩
 | 27,_=>⟨end27,fin27⟩
 | 28,_=>⟨end28,fin28⟩
 | 29,_=>⟨end29,fin29⟩
 | 30,_=>⟨end30,fin30⟩
 | 31,_=>⟨end31,fin31⟩
 | 32,_=>⟨end32,fin32⟩
 | 33,_=>⟨end33,fin33⟩
 | 34,_=>⟨end34,fin34⟩
 | 35,_=>⟨end35,fin35⟩
 | 36,_=>⟨end36,fin36⟩
 | 37,_=>⟨end37,fin37⟩
 | 38,_=>⟨end38,fin38⟩
 | 39,_=>⟨end39,fin39⟩
 | 40,_=>⟨end40,fin40⟩
 | 41,_=>⟨end41,fin41⟩
 | 42,_=>⟨end42,fin42⟩
 | 43,_=>⟨end43,fin43⟩
 | 44,_=>⟨end44,fin44⟩
 | 45,_=>⟨end45,fin45⟩
 | 46,_=>⟨end46,fin46⟩
 | 47,_=>⟨end47,fin47⟩
 | 48,_=>⟨end48,fin48⟩
 | 49,_=>⟨end49,fin49⟩
 | 50,_=>⟨end50,fin50⟩
 | 51,_=>⟨end51,fin51⟩
 | 52,_=>⟨end52,fin52⟩
 | 53,_=>⟨end53,fin53⟩
 | 54,_=>⟨end54,fin54⟩
 | 55,_=>⟨end55,fin55⟩
 | 56,_=>⟨end56,fin56⟩
 | 57,_=>⟨end57,fin57⟩
 | 58,_=>⟨end58,fin58⟩
 | n + 59,h=>absurd h (by omega)
theorem listR_eq:flatC bodyR=preR++([.block 0 (.loop loopR)]++endR):=by kernel_rfl
theorem plP:(preR.all fun c=>planOkC (plan fRun) c)=true:=by kernel_rfl
theorem plE:(endR.all fun c=>planOkC (plan fRun) c)=true:=by kernel_rfl
theorem pl1:planOkC (plan fRun) loopR=true:=by kernel_rfl
theorem plL (n:Nat):((List.replicate n loopR).all fun c=>planOkC (plan fRun) c)=true:=by
 rw [List.all_eq_true]
 intro c hc
 rw [List.eq_of_mem_replicate hc];exact pl1
theorem hd10 {t:Live}:∀ b,b < 9→(b,b)∈idZ 10 0++t:=fun b hb=>List.mem_append_left _ (idZ_mem 10 0 b (Nat.zero_le _) (by omega))
theorem hd11 {t:Live}:∀ b,b < 9→(b,b)∈idZ 11 0++t:=fun b hb=>List.mem_append_left _ (idZ_mem 11 0 b (Nat.zero_le _) (by omega))
theorem tlZ_ok (k:Nat) (hk:k < 1000):(tlZ (Int.ofNat (k + 1)) (Int.ofNat k)).ok :=
 ⟨o_nge (by simp only [Int.ofNat_eq_natCast];omega),o_sub (by simp only [Int.ofNat_eq_natCast];omega),trivial⟩
theorem goE {w0:B0} (hH:Hd w0 fo0 9):∀ (k j:Nat),j + k < 59→LoopsQ w0 57 loopR (sZ j (Int.ofNat k)).1 (sZ j (Int.ofNat k)).2 (fun x tm st=>x=.exit 0∧tm=(eZ (j + k)).1∧st=(eZ (j + k)).2)
 | 0,j,h=>LoopsQ.done 2 ((QTX.code hH extE_ok (QTF.to (endA j h).1) (plL 2) trivial hd11).mono (by rintro x tm st ⟨rfl,rfl,rfl⟩;exact ⟨nofun,rfl,rfl,rfl⟩))
 | k + 1,j,h=>by
  refine LoopsQ.step 5 (QTX.code hH extE_ok (QTF.to (levA (Int.ofNat (k + 1)) (Int.ofNat k) j (by omega))) (plL 5) (tlZ_ok k (by omega)) hd11) ?_
  have:=goE hH k (j + 1) (by omega)
  rwa [show j + 1 + k=j + (k + 1) by omega] at this
theorem goR {w0:B0} (hH:Hd w0 fo0 9) (b:Nat) (hb:b < 900):∀ (k j:Nat),j + k=59→LoopsQ w0 57 loopR (sZ j (Int.ofNat (b + k))).1 (sZ j (Int.ofNat (b + k))).2 (fun x tm st=>x=.exit 0∧tm=(eR (Int.ofNat b)).1∧st=(eR (Int.ofNat b)).2)
 | 0,j,h=>by
  have hj:j=59:=h
  subst hj
  exact LoopsQ.done 2 ((QTG.code hH extE_ok (rai (Int.ofNat b)) (plL 2) trivial hd11).mono (by rintro x tm st ⟨rfl,rfl,rfl⟩;exact ⟨nofun,rfl,rfl,rfl⟩))
 | k + 1,j,h=>LoopsQ.step 5 (QTX.code hH extE_ok (QTF.to (levA (Int.ofNat (b + k + 1)) (Int.ofNat (b + k)) j (by omega))) (plL 5) (tlZ_ok (b + k) (by omega)) hd11) (goR hH b hb k (j + 1) (by omega))
theorem runQ {N:Nat} {l:List (Option SB)} {v:SV} {s:SS} (hl:resS Tryz.prog (fS l).2.m (fS l).1 Tryz.f7.results=some v)
  (hgo:∀ {w0:B0},Hd w0 fo0 9→LoopsQ w0 57 loopR (sZ 0 (Int.ofNat N)).1 (sZ 0 (Int.ofNat N)).2 fun x tm st=>x=.exit 0∧tm=s.1∧st=s.2)
  (hfin:QTF extE fo0 fRun 57 livF [6] 16 endR s (fS l) .ret []):CallZ fRun [vB,wZ,.int .i64 (Int.ofNat N)] inZ l v :=
 CallZ.parts (g:=Tryz.f7) (c:=bodyR) Tryz.func7 (by kernel_rfl) (zB (by kernel_rfl)) (zB (by kernel_rfl)) fun w0 hH=>by
 refine CodeL.code ?_
 rw [listR_eq]
 have hH9:Hd w0 fo0 9:=hH
 refine CodeL.app (QTX.code hH9 ext4_ok (QTF.to (pre (Int.ofNat N))) plP trivial hd10) ?_ (fun x tm st hx h=>absurd h.1 hx)
 rintro tm st ⟨-,rfl,rfl⟩
 refine CodeL.app (P1:=fun x tm st=>x=.normal∧tm=s.1∧st=s.2) (CodeQ.row (CodeQ.block ((LoopsQ.code (LoopsQ.step 6 (QTX.code hH9 extE_ok (QTF.to (six (Int.ofNat N))) (plL 6) trivial hd11) (hgo hH9))).mono ?_))) ?_ (fun x tm st hx h=>absurd h.1 hx)
 ·rintro x tm st ⟨rfl,rfl,rfl⟩
  exact ⟨rfl,rfl,rfl⟩
 rintro tm st ⟨-,rfl,rfl⟩
 refine (QTX.code hH9 extE_ok (QTF.to hfin) plE trivial hd10).mono ?_
 rintro x tm st ⟨rfl,rfl,rfl⟩
 exact ⟨.inr rfl,hl,rfl⟩
theorem runE (N:Nat) (h:N < 59):CallZ fRun [vB,wZ,.int .i64 (Int.ofNat N)] inZ (fE N) vE :=
 runQ (s:=eZ N) (by kernel_rfl) (fun hH=>by have:=goE hH N 0 (by omega);rwa [Nat.zero_add] at this) (endA N h).2
theorem runR (N:Nat) (h1:59≤N) (h2:N < 900):CallZ fRun [vB,wZ,.int .i64 (Int.ofNat N)] inZ fR vR :=
 runQ (s:=eR (Int.ofNat (N - 59))) (by kernel_rfl) (fun hH=>by have:=goR hH (N - 59) (by omega) 59 0 rfl;rwa [show N - 59 + 59=N by omega] at this) (fiR _)
end
end Go.Proofs.YtmelcflkbfhohaaGreatDoor.W.E
