/- LNested -/
import Derived.Test.YtmelcflkbfhohaaGreatDoorWnR
set_option linter.unusedVariables false
set_option linter.unusedSimpArgs false
namespace Go.Proofs.YtmelcflkbfhohaaGreatDoor.W.E
section
set_option maxRecDepth 100000
open Go.RowKit
def fNst:Nat:=3
def ext5:ExtT:=extAdd 4 (xZ [] [] [] (.bool true)) extE
theorem ext5_ok:∀ g x,ext5 g=some x→extP g x:=extAdd_ok (callable_of (by kernel_rfl)) (xZ_ok (by decide) (by decide) awZ) extE_ok
def ext6 (N:Nat):ExtT:=extAdd fRun (xZ [vB,wZ,.int .i64 (Int.ofNat N)] inZ (fE N) vE) ext5
theorem ext6_ok (N:Nat) (h:N < 59):∀ g x,ext6 N g=some x→extP g x:=extAdd_ok (callable_of (by kernel_rfl)) (xZ_ok (zB (by kernel_rfl)) (zB (by kernel_rfl)) (runE N h)) ext5_ok
def ext7 (N:Nat):ExtT:=extAdd fRun (xZ [vB,wZ,.int .i64 (Int.ofNat N)] inZ fR vR) ext5
theorem ext7_ok (N:Nat) (h1:59≤N) (h2:N < 900):∀ g x,ext7 N g=some x→extP g x:=extAdd_ok (callable_of (by kernel_rfl)) (xZ_ok (zB (by kernel_rfl)) (zB (by kernel_rfl)) (runR N h1 h2)) ext5_ok
def tlN (x:Int) (N:Nat):TL:=[(22,.val (.int .i64 (Int.ofNat N)),some (SV.int .i64 (Int.tmod (wrapF .i64 (Int.add (Int.tmod x 81) 81)) 81))=some (.int .i64 (Int.ofNat N)))]
abbrev lawZ (ext:ExtT) (x:Int) (N:Nat):Prop:=outL (run Tryz.prog ext 100000 1000 fNst [.int .i64 x] (st0 (tlN x N).sc)) (.bool true)=outR (run Tryz.prog ext 100000 1000 fNst [.int .i64 x] (st0 (tlN x N).sc)) ((tlN x N).ps [])
theorem law0 (x:Int):lawZ (ext6 0) x 0:=by delta lawZ;kernel_rfl
theorem law1 (x:Int):lawZ (ext6 1) x 1:=by delta lawZ;kernel_rfl
theorem law2 (x:Int):lawZ (ext6 2) x 2:=by delta lawZ;kernel_rfl
theorem law3 (x:Int):lawZ (ext6 3) x 3:=by delta lawZ;kernel_rfl
theorem law4 (x:Int):lawZ (ext6 4) x 4:=by delta lawZ;kernel_rfl
theorem law5 (x:Int):lawZ (ext6 5) x 5:=by delta lawZ;kernel_rfl
theorem law6 (x:Int):lawZ (ext6 6) x 6:=by delta lawZ;kernel_rfl
theorem law7 (x:Int):lawZ (ext6 7) x 7:=by delta lawZ;kernel_rfl
theorem law8 (x:Int):lawZ (ext6 8) x 8:=by delta lawZ;kernel_rfl
theorem law9 (x:Int):lawZ (ext6 9) x 9:=by delta lawZ;kernel_rfl
theorem law10 (x:Int):lawZ (ext6 10) x 10:=by delta lawZ;kernel_rfl
theorem law11 (x:Int):lawZ (ext6 11) x 11:=by delta lawZ;kernel_rfl
theorem law12 (x:Int):lawZ (ext6 12) x 12:=by delta lawZ;kernel_rfl
theorem law13 (x:Int):lawZ (ext6 13) x 13:=by delta lawZ;kernel_rfl
theorem law14 (x:Int):lawZ (ext6 14) x 14:=by delta lawZ;kernel_rfl
theorem law15 (x:Int):lawZ (ext6 15) x 15:=by delta lawZ;kernel_rfl
theorem law16 (x:Int):lawZ (ext6 16) x 16:=by delta lawZ;kernel_rfl
theorem law17 (x:Int):lawZ (ext6 17) x 17:=by delta lawZ;kernel_rfl
theorem law18 (x:Int):lawZ (ext6 18) x 18:=by delta lawZ;kernel_rfl
theorem law19 (x:Int):lawZ (ext6 19) x 19:=by delta lawZ;kernel_rfl
theorem law20 (x:Int):lawZ (ext6 20) x 20:=by delta lawZ;kernel_rfl
theorem law21 (x:Int):lawZ (ext6 21) x 21:=by delta lawZ;kernel_rfl
theorem law22 (x:Int):lawZ (ext6 22) x 22:=by delta lawZ;kernel_rfl
theorem law23 (x:Int):lawZ (ext6 23) x 23:=by delta lawZ;kernel_rfl
theorem law24 (x:Int):lawZ (ext6 24) x 24:=by delta lawZ;kernel_rfl
theorem law25 (x:Int):lawZ (ext6 25) x 25:=by delta lawZ;kernel_rfl
theorem law26 (x:Int):lawZ (ext6 26) x 26:=by delta lawZ;kernel_rfl
theorem law27 (x:Int):lawZ (ext6 27) x 27:=by delta lawZ;kernel_rfl
theorem law28 (x:Int):lawZ (ext6 28) x 28:=by delta lawZ;kernel_rfl
theorem law29 (x:Int):lawZ (ext6 29) x 29:=by delta lawZ;kernel_rfl
theorem law30 (x:Int):lawZ (ext6 30) x 30:=by delta lawZ;kernel_rfl
theorem law31 (x:Int):lawZ (ext6 31) x 31:=by delta lawZ;kernel_rfl
theorem law32 (x:Int):lawZ (ext6 32) x 32:=by delta lawZ;kernel_rfl
theorem law33 (x:Int):lawZ (ext6 33) x 33:=by delta lawZ;kernel_rfl
theorem law34 (x:Int):lawZ (ext6 34) x 34:=by delta lawZ;kernel_rfl
theorem law35 (x:Int):lawZ (ext6 35) x 35:=by delta lawZ;kernel_rfl
theorem law36 (x:Int):lawZ (ext6 36) x 36:=by delta lawZ;kernel_rfl
theorem law37 (x:Int):lawZ (ext6 37) x 37:=by delta lawZ;kernel_rfl
theorem law38 (x:Int):lawZ (ext6 38) x 38:=by delta lawZ;kernel_rfl
theorem law39 (x:Int):lawZ (ext6 39) x 39:=by delta lawZ;kernel_rfl
theorem law40 (x:Int):lawZ (ext6 40) x 40:=by delta lawZ;kernel_rfl
theorem law41 (x:Int):lawZ (ext6 41) x 41:=by delta lawZ;kernel_rfl
theorem law42 (x:Int):lawZ (ext6 42) x 42:=by delta lawZ;kernel_rfl
theorem law43 (x:Int):lawZ (ext6 43) x 43:=by delta lawZ;kernel_rfl
theorem law44 (x:Int):lawZ (ext6 44) x 44:=by delta lawZ;kernel_rfl
theorem law45 (x:Int):lawZ (ext6 45) x 45:=by delta lawZ;kernel_rfl
theorem law46 (x:Int):lawZ (ext6 46) x 46:=by delta lawZ;kernel_rfl
theorem law47 (x:Int):lawZ (ext6 47) x 47:=by delta lawZ;kernel_rfl
theorem law48 (x:Int):lawZ (ext6 48) x 48:=by delta lawZ;kernel_rfl
theorem law49 (x:Int):lawZ (ext6 49) x 49:=by delta lawZ;kernel_rfl
theorem law50 (x:Int):lawZ (ext6 50) x 50:=by delta lawZ;kernel_rfl
theorem law51 (x:Int):lawZ (ext6 51) x 51:=by delta lawZ;kernel_rfl
theorem law52 (x:Int):lawZ (ext6 52) x 52:=by delta lawZ;kernel_rfl
theorem law53 (x:Int):lawZ (ext6 53) x 53:=by delta lawZ;kernel_rfl
theorem law54 (x:Int):lawZ (ext6 54) x 54:=by delta lawZ;kernel_rfl
theorem law55 (x:Int):lawZ (ext6 55) x 55:=by delta lawZ;kernel_rfl
theorem law56 (x:Int):lawZ (ext6 56) x 56:=by delta lawZ;kernel_rfl
theorem law57 (x:Int):lawZ (ext6 57) x 57:=by delta lawZ;kernel_rfl
theorem law58 (x:Int):lawZ (ext6 58) x 58:=by delta lawZ;kernel_rfl
theorem law59 (x:Int):lawZ (ext7 59) x 59:=by delta lawZ;kernel_rfl
theorem law60 (x:Int):lawZ (ext7 60) x 60:=by delta lawZ;kernel_rfl
theorem law61 (x:Int):lawZ (ext7 61) x 61:=by delta lawZ;kernel_rfl
theorem law62 (x:Int):lawZ (ext7 62) x 62:=by delta lawZ;kernel_rfl
theorem law63 (x:Int):lawZ (ext7 63) x 63:=by delta lawZ;kernel_rfl
theorem law64 (x:Int):lawZ (ext7 64) x 64:=by delta lawZ;kernel_rfl
theorem law65 (x:Int):lawZ (ext7 65) x 65:=by delta lawZ;kernel_rfl
theorem law66 (x:Int):lawZ (ext7 66) x 66:=by delta lawZ;kernel_rfl
theorem law67 (x:Int):lawZ (ext7 67) x 67:=by delta lawZ;kernel_rfl
theorem law68 (x:Int):lawZ (ext7 68) x 68:=by delta lawZ;kernel_rfl
theorem law69 (x:Int):lawZ (ext7 69) x 69:=by delta lawZ;kernel_rfl
theorem law70 (x:Int):lawZ (ext7 70) x 70:=by delta lawZ;kernel_rfl
theorem law71 (x:Int):lawZ (ext7 71) x 71:=by delta lawZ;kernel_rfl
theorem law72 (x:Int):lawZ (ext7 72) x 72:=by delta lawZ;kernel_rfl
theorem law73 (x:Int):lawZ (ext7 73) x 73:=by delta lawZ;kernel_rfl
theorem law74 (x:Int):lawZ (ext7 74) x 74:=by delta lawZ;kernel_rfl
theorem law75 (x:Int):lawZ (ext7 75) x 75:=by delta lawZ;kernel_rfl
theorem law76 (x:Int):lawZ (ext7 76) x 76:=by delta lawZ;kernel_rfl
theorem law77 (x:Int):lawZ (ext7 77) x 77:=by delta lawZ;kernel_rfl
theorem law78 (x:Int):lawZ (ext7 78) x 78:=by delta lawZ;kernel_rfl
theorem law79 (x:Int):lawZ (ext7 79) x 79:=by delta lawZ;kernel_rfl
theorem law80 (x:Int):lawZ (ext7 80) x 80:=by delta lawZ;kernel_rfl
theorem lawA (x:Int):∀ N,N < 59→lawZ (ext6 N) x N
 | 0,_=>law0 x
 | 1,_=>law1 x
 | 2,_=>law2 x
 | 3,_=>law3 x
 | 4,_=>law4 x
 | 5,_=>law5 x
 | 6,_=>law6 x
 | 7,_=>law7 x
 | 8,_=>law8 x
 | 9,_=>law9 x
 | 10,_=>law10 x
 | 11,_=>law11 x
 | 12,_=>law12 x
 | 13,_=>law13 x
 | 14,_=>law14 x
 | 15,_=>law15 x
 | 16,_=>law16 x
 | 17,_=>law17 x
 | 18,_=>law18 x
 | 19,_=>law19 x
 | 20,_=>law20 x
 | 21,_=>law21 x
 | 22,_=>law22 x
 | 23,_=>law23 x
 | 24,_=>law24 x
 | 25,_=>law25 x
 | 26,_=>law26 x
 | 27,_=>law27 x
 | 28,_=>law28 x
 | 29,_=>law29 x
 | 30,_=>law30 x
 | 31,_=>law31 x
 | 32,_=>law32 x
 | 33,_=>law33 x
 | 34,_=>law34 x
 | 35,_=>law35 x
 | 36,_=>law36 x
 | 37,_=>law37 x
 | 38,_=>law38 x
 | 39,_=>law39 x
 | 40,_=>law40 x
 | 41,_=>law41 x
 | 42,_=>law42 x
 | 43,_=>law43 x
 | 44,_=>law44 x
 | 45,_=>law45 x
 | 46,_=>law46 x
 | 47,_=>law47 x
 | 48,_=>law48 x
 | 49,_=>law49 x
 | 50,_=>law50 x
 | 51,_=>law51 x
 | 52,_=>law52 x
 | 53,_=>law53 x
 | 54,_=>law54 x
 | 55,_=>law55 x
 | 56,_=>law56 x
 | 57,_=>law57 x
 | 58,_=>law58 x
 | n + 59,h=>absurd h (by omega)
theorem lawB (x:Int):∀ k,k < 22→lawZ (ext7 (59 + k)) x (59 + k)
 | 0,_=>law59 x
 | 1,_=>law60 x
 | 2,_=>law61 x
 | 3,_=>law62 x
 | 4,_=>law63 x
 | 5,_=>law64 x
 | 6,_=>law65 x
 | 7,_=>law66 x
 | 8,_=>law67 x
 | 9,_=>law68 x
 | 10,_=>law69 x
 | 11,_=>law70 x
 | 12,_=>law71 x
 | 13,_=>law72 x
 | 14,_=>law73 x
 | 15,_=>law74 x
 | 16,_=>law75 x
 | 17,_=>law76 x
 | 18,_=>law77 x
 | 19,_=>law78 x
 | 20,_=>law79 x
 | 21,_=>law80 x
 | n + 22,h=>absurd h (by omega)
theorem rest_eq (x:Int):∃ N,N < 81∧Int.tmod (wrapF .i64 (Int.add (Int.tmod x 81) 81)) 81=Int.ofNat N:=by
 have h1:Int.tmod x 81 < 81:=Int.tmod_lt_of_pos x (by decide)
 have h2:-81 < Int.tmod x 81:=Int.lt_tmod_of_pos x (by decide)
 obtain ⟨r,hr⟩:∃ r,r=Int.tmod x 81:=⟨_,rfl⟩
 rw [← hr] at h1 h2 ⊢
 have e1:wrapF .i64 (Int.add r 81)=r + 81:=by rw [wrapF_eq,wrapI_eq];show (r + 81 + 9223372036854775808) % 18446744073709551616 - 9223372036854775808=r + 81;omega
 rw [e1,Int.tmod_eq_emod_of_nonneg (by omega)]
 refine ⟨((r + 81) % 81).toNat,by omega,?_⟩
 simp only [Int.ofNat_eq_natCast];omega
theorem nested_any (a:Int):LawT fNst [.int .i64 a]:=fun w hg=>by
 obtain ⟨N,hN,he⟩:=rest_eq a
 have hvs:VRs (fun _=>none) [SV.int .i64 a] [Value.int .i64 a]:=.cons (.int _ _) .nil
 have ht:(tlN a N).ok:=⟨by rw [he],trivial⟩
 by_cases h:N < 59
 ·exact run_call (ext6_ok N h) (lawA a N h) (TL.ps_all (tlN a N) [] ht trivial) hvs (fun e x hx=>by cases hx;rfl) w hg
 ·exact run_call (ext7_ok N (by omega) (by omega)) (by have:=lawB a (N - 59) (by omega);rwa [show 59 + (N - 59)=N by omega] at this) (TL.ps_all (tlN a N) [] ht trivial) hvs (fun e x hx=>by cases hx;rfl) w hg
end
end Go.Proofs.YtmelcflkbfhohaaGreatDoor.W.E
