/- Contract of the reference's Mul. -/
import Derived.Test.YtcbfognflngbaaaRefL
import Derived.Test.YtcbfognflngbaaaRefK
import Derived.Deep.OwnRows
set_option linter.unusedVariables false
namespace Go.Proofs.Ytcbfognflngbaaa.Num
open Go.RowKit
theorem made_zero (n : Nat) : madeCells #[.int .i64 0] n = (I64 (List.replicate n 0)).toArray := by
  apply Array.ext
  · simp [size_madeCells, I64]
  · intro i h1 h2
    simp [madeCells, I64, Nat.mod_one]
theorem run_mk (n : Nat) (hn : n ≤ 1000) (w : World) : (Instr.makeSlice 35 (.int .i64 (n : Int)) (.int .i64 (n : Int))).run Try.prog w = .ok (.slice (some ⟨w.heap.size, 0, none⟩) n n) (w.alloc (.cells (I64 (List.replicate n 0)).toArray 3)) := by
  obtain ⟨i0, hi0, hz0, hz1, hz2⟩ := info_parts info3
  rw [← made_zero]
  exact run_make_row (P := Try.prog) 35 3 i0 _ Try.underlying35 hi0 hz0 hz1 rfl .i64 .i64 n (by rw [hz2]; omega) (by omega) w

theorem MSt.start {w : World} {ba bb : Bool} {sa sb : Value} (h1 : isSl sa) (h2 : isSl sb) (n : Nat) :
    MSt w ba sa bb sb ((((w.alloc (.cells #[.bool ba, sa] 37)).alloc (.cells #[.bool bb, sb] 37)).alloc zNum).alloc (.cells (I64 (List.replicate n 0)).toArray 3)) (List.replicate n 0) := by
  have nz : isSl nilS := ⟨_, _, _, rfl⟩
  have hB : Below w.heap.size w ((((w.alloc (.cells #[.bool ba, sa] 37)).alloc (.cells #[.bool bb, sb] 37)).alloc zNum).alloc (.cells (I64 (List.replicate n 0)).toArray 3)) :=
    ((((Below.refl _ _).alloc (Nat.le_refl _) _).alloc (by simp) _).alloc (by simp; omega) _).alloc (by simp; omega) _
  have m0 := (((NV.new w ba h1).alloc (.cells #[.bool bb, sb] 37)).alloc zNum).alloc (.cells (I64 (List.replicate n 0)).toArray 3)
  have m1 := ((NV.new (w.alloc (.cells #[.bool ba, sa] 37)) bb h2).alloc zNum).alloc (.cells (I64 (List.replicate n 0)).toArray 3)
  have m2 := (NV.new ((w.alloc (.cells #[.bool ba, sa] 37)).alloc (.cells #[.bool bb, sb] 37)) false nz).alloc (.cells (I64 (List.replicate n 0)).toArray 3)
  have m3 := heap_alloc_new (((w.alloc (.cells #[.bool ba, sa] 37)).alloc (.cells #[.bool bb, sb] 37)).alloc zNum) (.cells (I64 (List.replicate n 0)).toArray 3)
  simp only [size_al] at m1 m2 m3
  exact ⟨hB, m0, m1, m2, m3⟩
theorem wrap_i {x : Int} (h0 : -9223372036854775808 ≤ x) (h : x ≤ 9223372036854775807) : IntKind.i64.wrap x = x := by rw [IntKind.wrap_i64]; omega

set_option maxHeartbeats 8000000 in
theorem mul_num (w : World) (u v : Value) (x y : Int) (hu : NumIs w u x) (hv : NumIs w v y) (hx : Sm 100 x) (hy : Sm 100 y) : Calls Try.prog 32 #[u, v] w (SomeNum w (x * y)) := by
  obtain ⟨ba, sa, la, rfl, hra, da, na, ex, -⟩ := hu
  obtain ⟨bb, sb, lb, rfl, hrb, db, nb, ey, -⟩ := hv
  have l1 := sm_len hx ex na
  have l2 := sm_len hy ey nb
  have MK := run_mk (la.length + lb.length + 1) (by omega)
  have ST := Lib.hid (MSt.start (w := w) (ba := ba) (bb := bb) hra.sl hrb.sl (la.length + lb.length + 1))
  obtain ⟨a1, n1, c1, rfl⟩ := hra.sl
  obtain ⟨a2, n2, c2, rfl⟩ := hrb.sl
  have hn1 : n1 = la.length := by obtain ⟨_, _, h, _⟩ := hra; injection h
  have hn2 : n2 = lb.length := by obtain ⟨_, _, h, _⟩ := hrb; injection h
  rw [← hn1, ← hn2] at MK ST
  have HN1 := Lib.hid hn1
  have HN2 := Lib.hid hn2
  have L1 : n1 ≤ 100 := by omega
  have L2 : n2 ≤ 100 := by omega
  have eM : ((n1 + n2 + 1 : Nat) : Int) = (n1 : Int) + (n2 : Int) + 1 := by omega
  rw [eM] at MK
  have OST := Lib.hid (OIs.start la lb)
  rw [← hn1, ← hn2] at OST
  clear hn1 hn2 hx hy l1 l2 eM
  go_enter Try.func32, Try.ntmps32
  go_wp2
  have ST0 := ST.out
  clear ST MK
  generalize ((((w.alloc (.cells #[.bool ba, .slice a1 n1 c1] 37)).alloc (.cells #[.bool bb, .slice a2 n2 c2] 37)).alloc zNum).alloc (.cells (I64 (List.replicate (n1 + n2 + 1) 0)).toArray 3)) = W0 at *
  go_loopw [6] (fun i wr => ∃ (k : Nat) (o : List Nat), k ≤ n1 ∧ i = .int .i64 k ∧ OIs la lb o k ∧ MSt w ba (.slice a1 n1 c1) bb (.slice a2 n2 c2) wr o) (fun i _ => n1 - (intOf i).toNat)
  case atStart => exact ⟨0, _, by omega, rfl, OST.out, ST0⟩
  case round =>
    clear ST0 OST W0
    obtain ⟨i, o0, hi, rfl, hoi, st⟩ := hrel
    have hol : o0.length = n1 + n2 + 1 := by have := hoi.1; have := HN1.out; have := HN2.out; omega
    obtain ⟨⟨f1, f2⟩, ⟨f3, f4⟩, f5⟩ := st.facts
    by_cases hlt : i < n1
    · have HOI := Lib.hid hoi
      obtain ⟨p, q, rfl, hp, hc⟩ : ∃ b o, a1 = some ⟨b, o, none⟩ ∧ b < w.heap.size ∧ w.cell? ⟨b, o + i, none⟩ = some (.int .i64 (la.getD i 0 : Nat)) := by
        obtain ⟨A, c, he, h1, h2, h3⟩ := hra
        injection he with e1 e2 e3
        subst e1
        rcases h3 with h | ⟨b, o, h, hb, hc⟩
        · have := HN1.out; rw [h] at this; simp at this; omega
        · exact ⟨b, o, h, hb, hc i (by have := HN1.out; omega)⟩
      have MS := Lib.hid (MIs.start (lb := lb) (i := i) (ai := la.getD i 0) hoi.2.1)
      have MC := Lib.hid (hoi.2.2.2 (i + lb.length) (Nat.le_refl _))
      have GA := Lib.hid (da.getD i)
      have ST1 := Lib.hid st
      clear hoi st
      go_wp2
      clear f1 f2 f3 f4 f5
      go_loopw [7, 8] (fun cy kv wr => ∃ (k c : Nat) (o : List Nat), cy = .int .i64 c ∧ kv = .int .i64 k ∧ k ≤ n2 + 1 ∧ (k = n2 + 1 → c = 0) ∧ MIs o0 lb i (la.getD i 0) o k c ∧ MSt w ba (.slice (some ⟨p, q, none⟩) n1 c1) bb (.slice a2 n2 c2) wr o) (fun _ kv _ => n2 + 2 - (intOf kv).toNat)
      case atStart => exact ⟨0, 0, o0, rfl, rfl, by omega, by omega, MS.out, ST1.out⟩
      case round =>
        obtain ⟨k, c, o, rfl, rfl, hk, hkc, hmi, st2⟩ := hrel
        obtain ⟨⟨f1, f2⟩, ⟨f3, f4⟩, f5⟩ := st2.facts
        by_cases hgo : k < n2 ∨ (k = n2 ∧ 0 < c)
        · have hik : i + k < o.length := by have := hmi.1; omega
          obtain ⟨g1, g2⟩ := st2.at_ hik
          have hap := (Below.cell st2.low (p := ⟨p, q + i, none⟩) hp).trans hc
          have cd := fun n => (digit_any (wr.drewN n) (.slice a2 n2 c2) lb k (hrb.bl (st2.drewN n).low) (by omega)).mono (fun e w' (h : _ ∧ _) => (show e = _ ∧ w' = wr.drewN n from ⟨h.1, h.2.symm⟩))
          have hol2 := hmi.1
          have hk3 : k ≤ n2 := by omega
          have t1 : (¬ n2 ≤ k) ∨ (n2 ≤ k ∧ 0 < c) := by omega
          have STP := hmi.step GA.out db (k := k) (by omega)
          have MCK := Lib.hid (show k = lb.length → (o.getD (i + k) 0 + la.getD i 0 * lb.getD k 0 + c) / 65536 = 0 from fun e => by subst e; exact MIs.carry hmi MC.out)
          have B0 : la.getD i 0 * lb.getD k 0 ≤ 65535 * 65535 := Nat.mul_le_mul (by have := GA.out; omega) (by have := db.getD k; omega)
          have hx := hmi.2.1.getD (i + k)
          have hc9 := hmi.2.2.1
          have EP : (la.getD i 0 : Int) * (lb.getD k 0 : Int) = ((la.getD i 0 * lb.getD k 0 : Nat) : Int) := (Int.natCast_mul _ _).symm
          have SET := Lib.hid (fun n d => (st2.drewN n).set (i + k) d)
          have ATN := Lib.hid (fun n => (st2.drewN n).at_ hik)
          clear hmi hgo
          generalize la.getD i 0 = av at *
          generalize lb.getD k 0 = bv at *
          generalize o.getD (i + k) 0 = xv at *
          have W0 : IntKind.i64.wrap ((i : Int) + (k : Int)) = ((i + k : Nat) : Int) := by rw [wrap_i (by omega) (by omega)]; omega
          have W1 : IntKind.i64.wrap ((av : Int) * (bv : Int)) = ((av * bv : Nat) : Int) := by rw [EP, wrap_i (by omega) (by omega)]
          generalize av * bv = P at *
          have W2 : IntKind.i64.wrap ((xv : Int) + (P : Int)) = ((xv + P : Nat) : Int) := by rw [wrap_i (by omega) (by omega)]; omega
          have W3 : IntKind.i64.wrap (((xv + P : Nat) : Int) + (c : Int)) = ((xv + P + c : Nat) : Int) := by rw [wrap_i (by omega) (by omega)]; omega
          clear EP
          have hX9 : xv + P + c ≤ 65536 * 65536 + 65536 := by omega
          generalize hik9 : i + k = ik at *
          generalize xv + P = XP at *
          generalize hX : XP + c = X at *
          have NXT := Lib.hid (show k + 1 = n2 + 1 → X / 65536 = 0 from fun e => MCK.out (by have := HN2.out; omega))
          clear MCK hkc st2
          rcases t1 with t1 | ⟨t1, t2⟩
          all_goals
            go_wp2
            go_quiet (first | (go_at_call 39; exact Calls.quiet_of_same (cd _)))
            obtain ⟨e1, e2⟩ := ATN.out nq
            have SETN := Lib.hid (SET.out nq (X % 65536))
            have EM := Lib.hid (show ((X % 65536 : Nat) : Int) = (X : Int) % 65536 by omega)
            have ED := Lib.hid (show (X : Int) / 65536 = ((X / 65536 : Nat) : Int) by omega)
            have STPH := Lib.hid STP
            clear SET ATN STP f1 f2 f3 f4 f5 g1 g2 hap hc cd W0 W1 W2 W3 MS ST1 MC B0 hx
            go_wp2
            exact ⟨⟨k + 1, X / 65536, _, by rw [ED.out], rfl, by omega, NXT.out, STPH.out, by rw [← EM.out]; exact SETN.out⟩, by simp [intOf]; omega⟩
        · obtain rfl : c = 0 := by omega
          have hk2 : n2 ≤ k := by omega
          have NX := Lib.hid (HOI.out.step hmi (by have := HN2.out; omega) (by have := HN2.out; omega))
          have ST3 := Lib.hid st2
          clear st2 hmi hgo MS ST1 MC hkc
          go_wp2
          exact ⟨⟨i + 1, o, by omega, rfl, NX.out, ST3.out⟩, by simp [intOf]; omega⟩
    · obtain rfl : i = n1 := by omega
      have HV : val o0 = val la * val lb := by
        have h := hoi.2.2.1
        rw [HN1.out, List.take_of_length_le (Nat.le_refl _)] at h
        exact h
      have HZ := Lib.hid (show sg (ba != bb) (val o0) = x * y by
        rw [HV, ex, ey]
        cases ba <;> cases bb <;> simp [sg, Int.neg_mul, Int.mul_neg])
      have CW := Lib.hid (show ∀ b, sg b (val o0) = x * y → Calls Try.prog 38 #[.bool b, .slice (some ⟨w.heap.size + 1 + 1 + 1, 0, none⟩) (i + n2 + 1) (i + n2 + 1)] wr (SomeNum wr (x * y)) from fun b hz => by
        have h := st.row (by omega)
        rw [hol] at h
        exact whole_of (w := wr) (Bl.refl _) h hoi.2.1 (Nat.le_refl _) (by omega) hz)
      have LO := Lib.hid (st.low)
      have NR := Lib.hid (show NV wr (w.heap.size + 1 + 1) false nilS from st.nr)
      clear hoi st HV hra hrb hol HN1 HN2 ex ey da db na nb
      cases ba <;> cases bb
      all_goals
        go_wp2_with fail
        refine (CW.out _ (by exact HZ.out)).mono ?_
        rintro e w2 ⟨v, rfl, hnum, hb2⟩
        obtain ⟨t, a, nn, c, rfl⟩ := hnum.form
        have nv := NR.out.bl hb2
        obtain ⟨q0, q1, q2, q3, q4⟩ := nv.cells
        have FIN := Lib.hid (num_end nv (by omega) (LO.out.trans (hb2.mono (Below.size LO.out))) hnum)
        clear nv hnum
        go_wp2
        refine bodyPost_ret (v := .agg #[.bool t, .slice a nn c]) (by simp [results, Try.results32, go_sem, q0, q1]) rfl FIN.out
end Go.Proofs.Ytcbfognflngbaaa.Num
