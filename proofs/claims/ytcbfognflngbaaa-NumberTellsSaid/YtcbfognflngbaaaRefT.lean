/- Contract of the reference's power. -/
import Derived.Test.YtcbfognflngbaaaRefO
set_option linter.unusedVariables false
namespace Go.Proofs.Ytcbfognflngbaaa.Num
open Go.RowKit
theorem refpow_far {x : Int} {i b : Nat} (hi : i ≤ b) (h : K5 ≤ (x ^ i).natAbs) : ¬ Fits (x ^ b) := by
  have h5 : (18446744073709551616 : Nat) < K5 := by decide
  rw [Int.natAbs_pow] at h
  have h1 : x.natAbs ^ i ≤ x.natAbs ^ b := by
    rcases Nat.eq_zero_or_pos x.natAbs with h0 | h0
    · exfalso
      rw [h0] at h
      rcases Nat.eq_zero_or_pos i with rfl | hi0
      · simp at h; omega
      · rw [Nat.zero_pow hi0] at h; omega
    · exact Nat.pow_le_pow_right h0 hi
  have h2 : K5 ≤ (x ^ b).natAbs := by rw [Int.natAbs_pow]; omega
  generalize x ^ b = z at *
  unfold Fits
  omega
theorem sq_one {x : Int} (h : x.natAbs = 1) : x ^ 2 = 1 := by
  have h2 : x = 1 ∨ x = -1 := by omega
  rcases h2 with rfl | rfl <;> rfl
theorem refpow_small {x : Int} {b : Nat} (h : x.natAbs ≤ 1) (hb : 2 < b) : x ^ (2 + b % 2) = x ^ b := by
  rcases Nat.eq_zero_or_pos x.natAbs with h0 | h0
  · obtain rfl : x = 0 := by omega
    rw [Int.zero_pow (by omega), Int.zero_pow (by omega)]
  · have h1 := sq_one (x := x) (by omega)
    obtain ⟨m, hm⟩ : ∃ m, b = 2 * m + b % 2 := ⟨b / 2, by omega⟩
    have e : x ^ b = x ^ (b % 2) := by
      conv => lhs; rw [hm]
      rw [Int.pow_add, Int.pow_mul, h1, Int.one_pow, Int.one_mul]
    rw [e, Int.pow_add, h1, Int.one_mul]
theorem fits_k5 {z : Int} (h : Fits z) : z.natAbs < K5 := by
  have : (18446744073709551616 : Nat) < K5 := by decide
  unfold Fits at h
  omega
def SomePow (w : World) (z : Int) (e : Ending) (w' : World) : Prop := ∃ v y ok, e = .returned (.tuple #[v, .bool ok]) ∧ NumIs w' v y ∧ Sm 100 y ∧ (ok = true → y = z) ∧ (ok = false → ¬ Fits z) ∧ Bl w w'
structure WSt (w w1 wr : World) (ba : Bool) (sa : Value) (t : Bool) (s : Value) (x X : Int) : Prop where
  low : Below w.heap.size w wr
  na : NV wr w.heap.size ba sa
  no : NV wr w1.heap.size t s
  nr : NV wr (w.heap.size + 1) false nilS
  hp : w.heap.size + 1 < w1.heap.size
  a : NumIs wr (.agg #[.bool ba, sa]) x
  o : NumIs wr (.agg #[.bool t, s]) X
section
variable {w w1 wr w2 : World} {ba : Bool} {sa : Value} {t : Bool} {s : Value} {x X : Int}
theorem WSt.bl (h : WSt w w1 wr ba sa t s x X) (hb : Bl wr w2) : WSt w w1 w2 ba sa t s x X :=
  ⟨h.low.trans (hb.mono (Below.size h.low)), h.na.bl hb, h.no.bl hb, h.nr.bl hb, h.hp, h.a.bl hb, h.o.bl hb⟩
theorem WSt.set (h : WSt w w1 wr ba sa t s x X) {t' : Bool} {s' : Value} {X' : Int} (hn : NumIs wr (.agg #[.bool t', s']) X') : WSt w w1 (putNum wr w1.heap.size t' s') ba sa t' s' x X' :=
  ⟨below_put h.low (by have := h.hp; omega), h.na.other (by have := h.hp; omega), h.no.put hn.slice, h.nr.other (by have := h.hp; omega), h.hp, h.a.put h.no, hn.put h.no⟩
theorem WSt.facts (h : WSt w w1 wr ba sa t s x X) : (wr.cell? ⟨w.heap.size, 0, none⟩ = some (.bool ba) ∧ wr.cell? ⟨w.heap.size, 1, none⟩ = some sa) ∧ (wr.cell? ⟨w1.heap.size, 0, none⟩ = some (.bool t) ∧ wr.cell? ⟨w1.heap.size, 1, none⟩ = some s ∧ wr.frozen? ⟨w1.heap.size, 0, none⟩ = false ∧ wr.frozen? ⟨w1.heap.size, 1, none⟩ = false) ∧ (wr.cell? ⟨w.heap.size + 1, 0, none⟩ = some (.bool false) ∧ wr.cell? ⟨w.heap.size + 1, 1, none⟩ = some nilS ∧ wr.frozen? ⟨w.heap.size + 1, 0, none⟩ = false ∧ wr.frozen? ⟨w.heap.size + 1, 1, none⟩ = false) ∧ w.heap.size + 1 < w1.heap.size ∧ w1.heap.size < wr.heap.size :=
  ⟨⟨h.na.cells.1, h.na.cells.2.1⟩, ⟨h.no.cells.1, h.no.cells.2.1, h.no.cells.2.2.1, h.no.cells.2.2.2.1⟩, ⟨h.nr.cells.1, h.nr.cells.2.1, h.nr.cells.2.2.1, h.nr.cells.2.2.2.1⟩, h.hp, h.no.lt⟩
theorem WSt.start {w w1 : World} {ba : Bool} {aa : Option Addr} {na ca : Nat} {x : Int} (hu : NumIs w (.agg #[.bool ba, .slice aa na ca]) x) (hb : Bl ((w.alloc (.cells #[.bool ba, .slice aa na ca] 37)).alloc zNum) w1) {t : Bool} {s : Value} (hn : NumIs w1 (.agg #[.bool t, s]) 1) :
    WSt w w1 (w1.alloc (.cells #[.bool t, s] 37)) ba (.slice aa na ca) t s x 1 := by
  have h1 : Bl w ((w.alloc (.cells #[.bool ba, .slice aa na ca] 37)).alloc zNum) := ((Below.refl _ _).alloc (Nat.le_refl _) _).alloc (by simp) _
  have hl := Bl.al w1 (.cells #[.bool t, s] 37)
  have hall := Bl.trans (Bl.trans h1 hb) hl
  have hsz := Below.size hb
  rw [size_al, size_al] at hsz
  have m0 := (NV.new w ba (s := .slice aa na ca) ⟨_, _, _, rfl⟩).alloc zNum
  have m1 := NV.new (w.alloc (.cells #[.bool ba, .slice aa na ca] 37)) false (s := nilS) ⟨_, _, _, rfl⟩
  rw [size_al] at m1
  exact ⟨hall, (m0.bl hb).bl hl, NV.new w1 t hn.slice, (m1.bl hb).bl hl, by omega, hu.bl hall, hn.bl hl⟩
end
theorem WSt.fin {w w1 wr : World} {ba : Bool} {sa : Value} {t : Bool} {s : Value} {x X z : Int} {ok : Bool} (h : WSt w w1 wr ba sa t s x X) (hs : Sm 100 X) (h1 : ok = true → X = z) (h2 : ok = false → ¬ Fits z) :
    SomePow w z (.returned (.tuple #[.agg #[.bool t, s], .bool ok])) (putNum wr (w.heap.size + 1) t s) :=
  ⟨_, X, ok, rfl, h.o.put h.nr, hs, h1, h2, below_put h.low (by omega)⟩
theorem sm_pow5 {x : Int} {k : Nat} (h : (x ^ k).natAbs < K5) (hx : x.natAbs < K5) : Sm 100 (x ^ (k + 1)) := by
  unfold Sm
  rw [Int.pow_succ, Int.natAbs_mul]
  have h1 : (x ^ k).natAbs * x.natAbs < K5 * K5 := Nat.mul_lt_mul'' h hx
  have h2 : K5 * K5 ≤ 65536 ^ 10 := by decide
  have h3 : (65536 : Nat) ^ 10 ≤ 65536 ^ 100 := Nat.pow_le_pow_right (by decide) (by decide)
  exact Nat.lt_of_lt_of_le h1 (Nat.le_trans h2 h3)
def PCase (w : World) (x : Int) (aa : Option Addr) (na : Nat) : Prop :=
  (na = 0 ∧ x.natAbs ≤ 1) ∨ (na = 1 ∧ ∃ p q d, aa = some ⟨p, q, none⟩ ∧ p < w.heap.size ∧ w.cell? ⟨p, q, none⟩ = some (.int .i64 (d : Nat)) ∧ x.natAbs = d) ∨ 2 ≤ na
theorem pcase_of {w : World} {x : Int} {ba : Bool} {aa : Option Addr} {na ca : Nat} (hu : NumIs w (.agg #[.bool ba, .slice aa na ca]) x) : PCase w x aa na := by
  obtain ⟨la, hra, da, hna, hxa, -⟩ := hu.row
  have hnl : na = la.length := by obtain ⟨_, _, h, _⟩ := hra; injection h
  have hxn : x.natAbs = val la := by rw [hxa, sg_abs]
  match la, hnl, hxn, hra with
  | [], h, hv, _ => exact .inl ⟨h, by rw [hv]; simp [val]⟩
  | [d], h, hv, hr =>
    refine .inr (.inl ⟨h, ?_⟩)
    obtain ⟨A, c, he, h1, h2, h3⟩ := hr
    injection he with e1 e2 e3
    rcases h3 with h3 | ⟨p, q, h3, hp, hc⟩
    · cases h3
    · exact ⟨p, q, d, e1.trans h3, hp, hc 0 (by simp), by rw [hv]; simp [val]⟩
  | _ :: _ :: _, h, _, _ => exact .inr (.inr (by simp at h; omega))
set_option maxHeartbeats 8000000 in
theorem power_at (w : World) (ba : Bool) (aa : Option Addr) (na ca : Nat) (x z : Int) (b : Nat) (hu : NumIs w (.agg #[.bool ba, .slice aa na ca]) x) (hx : x.natAbs < K5) (hb : (b : Int) ≤ 9223372036854775807) (hz : z = x ^ b) (cs : PCase w x aa na) :
    Calls Try.prog 34 #[.agg #[.bool ba, .slice aa na ca], .int .i64 b] w (SomePow w z) := by
  have OF := fun w => of_any 1 w (by decide)
  have A0 := Lib.hid (fun w1 (hb1 : Bl ((w.alloc (.cells #[.bool ba, .slice aa na ca] 37)).alloc zNum) w1) t s (hn : NumIs w1 (.agg #[.bool t, s]) 1) => WSt.start (aa := aa) (na := na) (ca := ca) hu hb1 hn)
  have HX := Lib.hid hx
  have HZ := Lib.hid hz
  clear hu hx hz
  go_enter Try.func34, Try.ntmps34
  go_wp2_with fail
  refine (OF _).mono ?_
  rintro e w1 ⟨v, rfl, hn1, hb1⟩
  obtain ⟨t1, A1, N1, C1, rfl⟩ := hn1.form
  have st := A0.out w1 hb1 _ _ hn1
  clear hn1 hb1 A0 OF
  obtain ⟨⟨f1, f2⟩, ⟨f3, f4, f5, f6⟩, ⟨f9, f10, f11, f12⟩, f7, f8⟩ := st.facts
  have ST0 := Lib.hid st
  rcases cs with ⟨h0, hx1⟩ | ⟨h0, p, q, d, rfl, hp, hc, hxd⟩ | h0
  · have hs := Lib.hid (fun h => refpow_small (x := x) (b := b) hx1 h)
    subst h0
    clear st hx1
    by_cases hb2 : 2 < b
    · have HB := Lib.hid (show x ^ (2 + b % 2) = z by rw [hs.out hb2]; exact HZ.out.symm)
      have hb3 : b % 2 < 2 := Nat.mod_lt _ (by decide)
      have b2 : decide ((2 : Int) < (b : Int)) = true := decide_eq_true (by omega)
      go_wp2_with fail
      have EB : (2 : Int) + (b : Int) % 2 = ((2 + b % 2 : Nat) : Int) := by omega
      try rw [EB]
      clear EB hs HZ
      have hB : 2 + b % 2 ≤ 3 := by omega
      clear hb3
      generalize 2 + b % 2 = B at *
      go_loopw [8] (fun i wr => ∃ (k : Nat) (t : Bool) (A : Option Addr) (N C : Nat), i = .int .i64 k ∧ k ≤ B ∧ (x ^ k).natAbs < K5 ∧ WSt w w1 wr ba (.slice aa 0 ca) t (.slice A N C) x (x ^ k)) (fun i _ => B - (intOf i).toNat)
      case atStart => exact ⟨0, t1, A1, N1, C1, rfl, by omega, by rw [Int.pow_zero]; decide, by rw [Int.pow_zero]; exact ST0.out⟩
      case round =>
        clear f1 f2 f3 f4 f5 f6 f7 f8 f9 f10 f11 f12 ST0
        obtain ⟨k, t, A, N, C, rfl, hk, hXK, st⟩ := hrel
        obtain ⟨⟨f1, f2⟩, ⟨f3, f4, f5, f6⟩, ⟨f9, f10, f11, f12⟩, f7, f8⟩ := st.facts
        by_cases hlt : k < B
        · have M1 := Lib.hid (show Sm 100 (x ^ k) from sm_of_neg (by omega))
          have M2 := Lib.hid (show Sm 100 x from sm_of_neg (by have := HX.out; omega))
          have hXK0 := hXK
          have PS : x ^ k * x = x ^ (k + 1) := (Int.pow_succ x k).symm
          go_wp2_with fail
          refine (mul_num _ _ _ (x ^ k) x st.o st.a M1.out M2.out).mono ?_
          rintro e W5 ⟨v, rfl, hn5, hb5⟩
          obtain ⟨t5, A5, N5, C5, rfl⟩ := hn5.form
          rw [PS] at hn5
          have HNL := Lib.hid (num_long hn5)
          have s5 := st.bl hb5
          have st5 := s5.set hn5
          clear f1 f2 f3 f4 f5 f6 f7 f8 f9 f10 f11 f12 hn5 hb5 st M1 M2 PS
          obtain ⟨⟨f1, f2⟩, ⟨f3, f4, f5, f6⟩, ⟨f9, f10, f11, f12⟩, f7, f8⟩ := s5.facts
          clear s5
          by_cases h5 : 5 < N5
          · have FB := Lib.hid (show ¬ Fits z by rw [← HB.out]; exact refpow_far (by omega) (HNL.out.1 h5))
            have q := (st5.nr.put (t' := t5) (s' := .slice A5 N5 C5) ⟨_, _, _, rfl⟩).cells
            have FIN := Lib.hid (st5.fin (z := z) (ok := false) (sm_pow5 hXK0 HX.out) (fun h => by cases h) (fun _ => FB.out))
            clear st5 HNL
            obtain ⟨q1, q2, -⟩ := q
            unfold putNum at q1 q2
            go_wp2_with fail
            refine bodyPost_ret (v := .tuple #[.agg #[.bool t5, .slice A5 N5 C5], .bool false]) (by simp [results, Try.results34, go_sem, q1, q2]) rfl FIN.out
          · have X5 := Lib.hid (HNL.out.2 (by omega))
            have ST5 := Lib.hid st5
            clear st5 HNL
            go_wp2_with fail
            first
              | exact ⟨⟨k + 1, t5, A5, N5, C5, rfl, by omega, X5.out, ST5.out⟩, by simp [intOf]; omega⟩
              | (go_roundw
                 case rel => exact ⟨k + 1, t5, A5, N5, C5, rfl, by omega, X5.out, ST5.out⟩
                 case measure => simp [intOf]; omega)
        · obtain rfl : k = B := by omega
          have q := (st.nr.put (t' := t) (s' := .slice A N C) ⟨_, _, _, rfl⟩).cells
          have FIN := Lib.hid (st.fin (z := z) (ok := true) (sm_of_neg (by omega)) (fun _ => HB.out) (fun h => by cases h))
          clear st
          obtain ⟨q1, q2, -⟩ := q
          unfold putNum at q1 q2
          go_wp2_with fail
          refine bodyPost_ret (v := .tuple #[.agg #[.bool t, .slice A N C], .bool true]) (by simp [results, Try.results34, go_sem, q1, q2]) rfl FIN.out
    · have HB := Lib.hid (show x ^ b = z from HZ.out.symm)
      clear hs HZ
      go_wp2_with fail
      have hB : b ≤ 9223372036854775807 := by omega
      obtain ⟨B, hBB⟩ : ∃ B, B = b := ⟨b, rfl⟩
      subst hBB
      go_loopw [8] (fun i wr => ∃ (k : Nat) (t : Bool) (A : Option Addr) (N C : Nat), i = .int .i64 k ∧ k ≤ B ∧ (x ^ k).natAbs < K5 ∧ WSt w w1 wr ba (.slice aa 0 ca) t (.slice A N C) x (x ^ k)) (fun i _ => B - (intOf i).toNat)
      case atStart => exact ⟨0, t1, A1, N1, C1, rfl, by omega, by rw [Int.pow_zero]; decide, by rw [Int.pow_zero]; exact ST0.out⟩
      case round =>
        clear f1 f2 f3 f4 f5 f6 f7 f8 f9 f10 f11 f12 ST0
        obtain ⟨k, t, A, N, C, rfl, hk, hXK, st⟩ := hrel
        obtain ⟨⟨f1, f2⟩, ⟨f3, f4, f5, f6⟩, ⟨f9, f10, f11, f12⟩, f7, f8⟩ := st.facts
        by_cases hlt : k < B
        · have M1 := Lib.hid (show Sm 100 (x ^ k) from sm_of_neg (by omega))
          have M2 := Lib.hid (show Sm 100 x from sm_of_neg (by have := HX.out; omega))
          have hXK0 := hXK
          have PS : x ^ k * x = x ^ (k + 1) := (Int.pow_succ x k).symm
          go_wp2_with fail
          refine (mul_num _ _ _ (x ^ k) x st.o st.a M1.out M2.out).mono ?_
          rintro e W5 ⟨v, rfl, hn5, hb5⟩
          obtain ⟨t5, A5, N5, C5, rfl⟩ := hn5.form
          rw [PS] at hn5
          have HNL := Lib.hid (num_long hn5)
          have s5 := st.bl hb5
          have st5 := s5.set hn5
          clear f1 f2 f3 f4 f5 f6 f7 f8 f9 f10 f11 f12 hn5 hb5 st M1 M2 PS
          obtain ⟨⟨f1, f2⟩, ⟨f3, f4, f5, f6⟩, ⟨f9, f10, f11, f12⟩, f7, f8⟩ := s5.facts
          clear s5
          by_cases h5 : 5 < N5
          · have FB := Lib.hid (show ¬ Fits z by rw [← HB.out]; exact refpow_far (by omega) (HNL.out.1 h5))
            have q := (st5.nr.put (t' := t5) (s' := .slice A5 N5 C5) ⟨_, _, _, rfl⟩).cells
            have FIN := Lib.hid (st5.fin (z := z) (ok := false) (sm_pow5 hXK0 HX.out) (fun h => by cases h) (fun _ => FB.out))
            clear st5 HNL
            obtain ⟨q1, q2, -⟩ := q
            unfold putNum at q1 q2
            go_wp2_with fail
            refine bodyPost_ret (v := .tuple #[.agg #[.bool t5, .slice A5 N5 C5], .bool false]) (by simp [results, Try.results34, go_sem, q1, q2]) rfl FIN.out
          · have X5 := Lib.hid (HNL.out.2 (by omega))
            have ST5 := Lib.hid st5
            clear st5 HNL
            go_wp2_with fail
            first
              | exact ⟨⟨k + 1, t5, A5, N5, C5, rfl, by omega, X5.out, ST5.out⟩, by simp [intOf]; omega⟩
              | (go_roundw
                 case rel => exact ⟨k + 1, t5, A5, N5, C5, rfl, by omega, X5.out, ST5.out⟩
                 case measure => simp [intOf]; omega)
        · obtain rfl : k = B := by omega
          have q := (st.nr.put (t' := t) (s' := .slice A N C) ⟨_, _, _, rfl⟩).cells
          have FIN := Lib.hid (st.fin (z := z) (ok := true) (sm_of_neg (by omega)) (fun _ => HB.out) (fun h => by cases h))
          clear st
          obtain ⟨q1, q2, -⟩ := q
          unfold putNum at q1 q2
          go_wp2_with fail
          refine bodyPost_ret (v := .tuple #[.agg #[.bool t, .slice A N C], .bool true]) (by simp [results, Try.results34, go_sem, q1, q2]) rfl FIN.out
  · subst h0
    have hcW := (Below.cell st.low (p := ⟨p, q, none⟩) hp).trans hc
    by_cases hd : d = 1
    · have hs := Lib.hid (fun h => refpow_small (x := x) (b := b) (by omega) h)
      subst hd
      clear st hc
      by_cases hb2 : 2 < b
      · have HB := Lib.hid (show x ^ (2 + b % 2) = z by rw [hs.out hb2]; exact HZ.out.symm)
        have hb3 : b % 2 < 2 := Nat.mod_lt _ (by decide)
        have b2 : decide ((2 : Int) < (b : Int)) = true := decide_eq_true (by omega)
        go_wp2_with fail
        have EB : (2 : Int) + (b : Int) % 2 = ((2 + b % 2 : Nat) : Int) := by omega
        try rw [EB]
        clear EB hs HZ
        have hB : 2 + b % 2 ≤ 3 := by omega
        clear hb3
        generalize 2 + b % 2 = B at *
        go_loopw [8] (fun i wr => ∃ (k : Nat) (t : Bool) (A : Option Addr) (N C : Nat), i = .int .i64 k ∧ k ≤ B ∧ (x ^ k).natAbs < K5 ∧ WSt w w1 wr ba (.slice (some ⟨p, q, none⟩) 1 ca) t (.slice A N C) x (x ^ k)) (fun i _ => B - (intOf i).toNat)
        case atStart => exact ⟨0, t1, A1, N1, C1, rfl, by omega, by rw [Int.pow_zero]; decide, by rw [Int.pow_zero]; exact ST0.out⟩
        case round =>
          clear f1 f2 f3 f4 f5 f6 f7 f8 f9 f10 f11 f12 ST0
          obtain ⟨k, t, A, N, C, rfl, hk, hXK, st⟩ := hrel
          obtain ⟨⟨f1, f2⟩, ⟨f3, f4, f5, f6⟩, ⟨f9, f10, f11, f12⟩, f7, f8⟩ := st.facts
          by_cases hlt : k < B
          · have M1 := Lib.hid (show Sm 100 (x ^ k) from sm_of_neg (by omega))
            have M2 := Lib.hid (show Sm 100 x from sm_of_neg (by have := HX.out; omega))
            have hXK0 := hXK
            have PS : x ^ k * x = x ^ (k + 1) := (Int.pow_succ x k).symm
            go_wp2_with fail
            refine (mul_num _ _ _ (x ^ k) x st.o st.a M1.out M2.out).mono ?_
            rintro e W5 ⟨v, rfl, hn5, hb5⟩
            obtain ⟨t5, A5, N5, C5, rfl⟩ := hn5.form
            rw [PS] at hn5
            have HNL := Lib.hid (num_long hn5)
            have s5 := st.bl hb5
            have st5 := s5.set hn5
            clear f1 f2 f3 f4 f5 f6 f7 f8 f9 f10 f11 f12 hn5 hb5 st M1 M2 PS
            obtain ⟨⟨f1, f2⟩, ⟨f3, f4, f5, f6⟩, ⟨f9, f10, f11, f12⟩, f7, f8⟩ := s5.facts
            clear s5
            by_cases h5 : 5 < N5
            · have FB := Lib.hid (show ¬ Fits z by rw [← HB.out]; exact refpow_far (by omega) (HNL.out.1 h5))
              have q := (st5.nr.put (t' := t5) (s' := .slice A5 N5 C5) ⟨_, _, _, rfl⟩).cells
              have FIN := Lib.hid (st5.fin (z := z) (ok := false) (sm_pow5 hXK0 HX.out) (fun h => by cases h) (fun _ => FB.out))
              clear st5 HNL
              obtain ⟨q1, q2, -⟩ := q
              unfold putNum at q1 q2
              go_wp2_with fail
              refine bodyPost_ret (v := .tuple #[.agg #[.bool t5, .slice A5 N5 C5], .bool false]) (by simp [results, Try.results34, go_sem, q1, q2]) rfl FIN.out
            · have X5 := Lib.hid (HNL.out.2 (by omega))
              have ST5 := Lib.hid st5
              clear st5 HNL
              go_wp2_with fail
              first
                | exact ⟨⟨k + 1, t5, A5, N5, C5, rfl, by omega, X5.out, ST5.out⟩, by simp [intOf]; omega⟩
                | (go_roundw
                   case rel => exact ⟨k + 1, t5, A5, N5, C5, rfl, by omega, X5.out, ST5.out⟩
                   case measure => simp [intOf]; omega)
          · obtain rfl : k = B := by omega
            have q := (st.nr.put (t' := t) (s' := .slice A N C) ⟨_, _, _, rfl⟩).cells
            have FIN := Lib.hid (st.fin (z := z) (ok := true) (sm_of_neg (by omega)) (fun _ => HB.out) (fun h => by cases h))
            clear st
            obtain ⟨q1, q2, -⟩ := q
            unfold putNum at q1 q2
            go_wp2_with fail
            refine bodyPost_ret (v := .tuple #[.agg #[.bool t, .slice A N C], .bool true]) (by simp [results, Try.results34, go_sem, q1, q2]) rfl FIN.out
      · have HB := Lib.hid (show x ^ b = z from HZ.out.symm)
        clear hs HZ
        go_wp2_with fail
        have hB : b ≤ 9223372036854775807 := by omega
        obtain ⟨B, hBB⟩ : ∃ B, B = b := ⟨b, rfl⟩
        subst hBB
        go_loopw [8] (fun i wr => ∃ (k : Nat) (t : Bool) (A : Option Addr) (N C : Nat), i = .int .i64 k ∧ k ≤ B ∧ (x ^ k).natAbs < K5 ∧ WSt w w1 wr ba (.slice (some ⟨p, q, none⟩) 1 ca) t (.slice A N C) x (x ^ k)) (fun i _ => B - (intOf i).toNat)
        case atStart => exact ⟨0, t1, A1, N1, C1, rfl, by omega, by rw [Int.pow_zero]; decide, by rw [Int.pow_zero]; exact ST0.out⟩
        case round =>
          clear f1 f2 f3 f4 f5 f6 f7 f8 f9 f10 f11 f12 ST0
          obtain ⟨k, t, A, N, C, rfl, hk, hXK, st⟩ := hrel
          obtain ⟨⟨f1, f2⟩, ⟨f3, f4, f5, f6⟩, ⟨f9, f10, f11, f12⟩, f7, f8⟩ := st.facts
          by_cases hlt : k < B
          · have M1 := Lib.hid (show Sm 100 (x ^ k) from sm_of_neg (by omega))
            have M2 := Lib.hid (show Sm 100 x from sm_of_neg (by have := HX.out; omega))
            have hXK0 := hXK
            have PS : x ^ k * x = x ^ (k + 1) := (Int.pow_succ x k).symm
            go_wp2_with fail
            refine (mul_num _ _ _ (x ^ k) x st.o st.a M1.out M2.out).mono ?_
            rintro e W5 ⟨v, rfl, hn5, hb5⟩
            obtain ⟨t5, A5, N5, C5, rfl⟩ := hn5.form
            rw [PS] at hn5
            have HNL := Lib.hid (num_long hn5)
            have s5 := st.bl hb5
            have st5 := s5.set hn5
            clear f1 f2 f3 f4 f5 f6 f7 f8 f9 f10 f11 f12 hn5 hb5 st M1 M2 PS
            obtain ⟨⟨f1, f2⟩, ⟨f3, f4, f5, f6⟩, ⟨f9, f10, f11, f12⟩, f7, f8⟩ := s5.facts
            clear s5
            by_cases h5 : 5 < N5
            · have FB := Lib.hid (show ¬ Fits z by rw [← HB.out]; exact refpow_far (by omega) (HNL.out.1 h5))
              have q := (st5.nr.put (t' := t5) (s' := .slice A5 N5 C5) ⟨_, _, _, rfl⟩).cells
              have FIN := Lib.hid (st5.fin (z := z) (ok := false) (sm_pow5 hXK0 HX.out) (fun h => by cases h) (fun _ => FB.out))
              clear st5 HNL
              obtain ⟨q1, q2, -⟩ := q
              unfold putNum at q1 q2
              go_wp2_with fail
              refine bodyPost_ret (v := .tuple #[.agg #[.bool t5, .slice A5 N5 C5], .bool false]) (by simp [results, Try.results34, go_sem, q1, q2]) rfl FIN.out
            · have X5 := Lib.hid (HNL.out.2 (by omega))
              have ST5 := Lib.hid st5
              clear st5 HNL
              go_wp2_with fail
              first
                | exact ⟨⟨k + 1, t5, A5, N5, C5, rfl, by omega, X5.out, ST5.out⟩, by simp [intOf]; omega⟩
                | (go_roundw
                   case rel => exact ⟨k + 1, t5, A5, N5, C5, rfl, by omega, X5.out, ST5.out⟩
                   case measure => simp [intOf]; omega)
          · obtain rfl : k = B := by omega
            have q := (st.nr.put (t' := t) (s' := .slice A N C) ⟨_, _, _, rfl⟩).cells
            have FIN := Lib.hid (st.fin (z := z) (ok := true) (sm_of_neg (by omega)) (fun _ => HB.out) (fun h => by cases h))
            clear st
            obtain ⟨q1, q2, -⟩ := q
            unfold putNum at q1 q2
            go_wp2_with fail
            refine bodyPost_ret (v := .tuple #[.agg #[.bool t, .slice A N C], .bool true]) (by simp [results, Try.results34, go_sem, q1, q2]) rfl FIN.out
    · have hs := True.intro
      have hd2 : ((d : Int) == 1) = false := eq_f (by omega)
      clear st hc
      have HB := Lib.hid (show x ^ b = z from HZ.out.symm)
      clear hs HZ
      go_wp2_with fail
      have hB : b ≤ 9223372036854775807 := by omega
      obtain ⟨B, hBB⟩ : ∃ B, B = b := ⟨b, rfl⟩
      subst hBB
      go_loopw [8] (fun i wr => ∃ (k : Nat) (t : Bool) (A : Option Addr) (N C : Nat), i = .int .i64 k ∧ k ≤ B ∧ (x ^ k).natAbs < K5 ∧ WSt w w1 wr ba (.slice (some ⟨p, q, none⟩) 1 ca) t (.slice A N C) x (x ^ k)) (fun i _ => B - (intOf i).toNat)
      case atStart => exact ⟨0, t1, A1, N1, C1, rfl, by omega, by rw [Int.pow_zero]; decide, by rw [Int.pow_zero]; exact ST0.out⟩
      case round =>
        clear f1 f2 f3 f4 f5 f6 f7 f8 f9 f10 f11 f12 ST0
        obtain ⟨k, t, A, N, C, rfl, hk, hXK, st⟩ := hrel
        obtain ⟨⟨f1, f2⟩, ⟨f3, f4, f5, f6⟩, ⟨f9, f10, f11, f12⟩, f7, f8⟩ := st.facts
        by_cases hlt : k < B
        · have M1 := Lib.hid (show Sm 100 (x ^ k) from sm_of_neg (by omega))
          have M2 := Lib.hid (show Sm 100 x from sm_of_neg (by have := HX.out; omega))
          have hXK0 := hXK
          have PS : x ^ k * x = x ^ (k + 1) := (Int.pow_succ x k).symm
          go_wp2_with fail
          refine (mul_num _ _ _ (x ^ k) x st.o st.a M1.out M2.out).mono ?_
          rintro e W5 ⟨v, rfl, hn5, hb5⟩
          obtain ⟨t5, A5, N5, C5, rfl⟩ := hn5.form
          rw [PS] at hn5
          have HNL := Lib.hid (num_long hn5)
          have s5 := st.bl hb5
          have st5 := s5.set hn5
          clear f1 f2 f3 f4 f5 f6 f7 f8 f9 f10 f11 f12 hn5 hb5 st M1 M2 PS
          obtain ⟨⟨f1, f2⟩, ⟨f3, f4, f5, f6⟩, ⟨f9, f10, f11, f12⟩, f7, f8⟩ := s5.facts
          clear s5
          by_cases h5 : 5 < N5
          · have FB := Lib.hid (show ¬ Fits z by rw [← HB.out]; exact refpow_far (by omega) (HNL.out.1 h5))
            have q := (st5.nr.put (t' := t5) (s' := .slice A5 N5 C5) ⟨_, _, _, rfl⟩).cells
            have FIN := Lib.hid (st5.fin (z := z) (ok := false) (sm_pow5 hXK0 HX.out) (fun h => by cases h) (fun _ => FB.out))
            clear st5 HNL
            obtain ⟨q1, q2, -⟩ := q
            unfold putNum at q1 q2
            go_wp2_with fail
            refine bodyPost_ret (v := .tuple #[.agg #[.bool t5, .slice A5 N5 C5], .bool false]) (by simp [results, Try.results34, go_sem, q1, q2]) rfl FIN.out
          · have X5 := Lib.hid (HNL.out.2 (by omega))
            have ST5 := Lib.hid st5
            clear st5 HNL
            go_wp2_with fail
            first
              | exact ⟨⟨k + 1, t5, A5, N5, C5, rfl, by omega, X5.out, ST5.out⟩, by simp [intOf]; omega⟩
              | (go_roundw
                 case rel => exact ⟨k + 1, t5, A5, N5, C5, rfl, by omega, X5.out, ST5.out⟩
                 case measure => simp [intOf]; omega)
        · obtain rfl : k = B := by omega
          have q := (st.nr.put (t' := t) (s' := .slice A N C) ⟨_, _, _, rfl⟩).cells
          have FIN := Lib.hid (st.fin (z := z) (ok := true) (sm_of_neg (by omega)) (fun _ => HB.out) (fun h => by cases h))
          clear st
          obtain ⟨q1, q2, -⟩ := q
          unfold putNum at q1 q2
          go_wp2_with fail
          refine bodyPost_ret (v := .tuple #[.agg #[.bool t, .slice A N C], .bool true]) (by simp [results, Try.results34, go_sem, q1, q2]) rfl FIN.out
  · have hs := True.intro
    clear st
    have HB := Lib.hid (show x ^ b = z from HZ.out.symm)
    clear hs HZ
    go_wp2_with fail
    have hB : b ≤ 9223372036854775807 := by omega
    obtain ⟨B, hBB⟩ : ∃ B, B = b := ⟨b, rfl⟩
    subst hBB
    go_loopw [8] (fun i wr => ∃ (k : Nat) (t : Bool) (A : Option Addr) (N C : Nat), i = .int .i64 k ∧ k ≤ B ∧ (x ^ k).natAbs < K5 ∧ WSt w w1 wr ba (.slice aa na ca) t (.slice A N C) x (x ^ k)) (fun i _ => B - (intOf i).toNat)
    case atStart => exact ⟨0, t1, A1, N1, C1, rfl, by omega, by rw [Int.pow_zero]; decide, by rw [Int.pow_zero]; exact ST0.out⟩
    case round =>
      clear f1 f2 f3 f4 f5 f6 f7 f8 f9 f10 f11 f12 ST0
      obtain ⟨k, t, A, N, C, rfl, hk, hXK, st⟩ := hrel
      obtain ⟨⟨f1, f2⟩, ⟨f3, f4, f5, f6⟩, ⟨f9, f10, f11, f12⟩, f7, f8⟩ := st.facts
      by_cases hlt : k < B
      · have M1 := Lib.hid (show Sm 100 (x ^ k) from sm_of_neg (by omega))
        have M2 := Lib.hid (show Sm 100 x from sm_of_neg (by have := HX.out; omega))
        have hXK0 := hXK
        have PS : x ^ k * x = x ^ (k + 1) := (Int.pow_succ x k).symm
        go_wp2_with fail
        refine (mul_num _ _ _ (x ^ k) x st.o st.a M1.out M2.out).mono ?_
        rintro e W5 ⟨v, rfl, hn5, hb5⟩
        obtain ⟨t5, A5, N5, C5, rfl⟩ := hn5.form
        rw [PS] at hn5
        have HNL := Lib.hid (num_long hn5)
        have s5 := st.bl hb5
        have st5 := s5.set hn5
        clear f1 f2 f3 f4 f5 f6 f7 f8 f9 f10 f11 f12 hn5 hb5 st M1 M2 PS
        obtain ⟨⟨f1, f2⟩, ⟨f3, f4, f5, f6⟩, ⟨f9, f10, f11, f12⟩, f7, f8⟩ := s5.facts
        clear s5
        by_cases h5 : 5 < N5
        · have FB := Lib.hid (show ¬ Fits z by rw [← HB.out]; exact refpow_far (by omega) (HNL.out.1 h5))
          have q := (st5.nr.put (t' := t5) (s' := .slice A5 N5 C5) ⟨_, _, _, rfl⟩).cells
          have FIN := Lib.hid (st5.fin (z := z) (ok := false) (sm_pow5 hXK0 HX.out) (fun h => by cases h) (fun _ => FB.out))
          clear st5 HNL
          obtain ⟨q1, q2, -⟩ := q
          unfold putNum at q1 q2
          go_wp2_with fail
          refine bodyPost_ret (v := .tuple #[.agg #[.bool t5, .slice A5 N5 C5], .bool false]) (by simp [results, Try.results34, go_sem, q1, q2]) rfl FIN.out
        · have X5 := Lib.hid (HNL.out.2 (by omega))
          have ST5 := Lib.hid st5
          clear st5 HNL
          go_wp2_with fail
          first
            | exact ⟨⟨k + 1, t5, A5, N5, C5, rfl, by omega, X5.out, ST5.out⟩, by simp [intOf]; omega⟩
            | (go_roundw
               case rel => exact ⟨k + 1, t5, A5, N5, C5, rfl, by omega, X5.out, ST5.out⟩
               case measure => simp [intOf]; omega)
      · obtain rfl : k = B := by omega
        have q := (st.nr.put (t' := t) (s' := .slice A N C) ⟨_, _, _, rfl⟩).cells
        have FIN := Lib.hid (st.fin (z := z) (ok := true) (sm_of_neg (by omega)) (fun _ => HB.out) (fun h => by cases h))
        clear st
        obtain ⟨q1, q2, -⟩ := q
        unfold putNum at q1 q2
        go_wp2_with fail
        refine bodyPost_ret (v := .tuple #[.agg #[.bool t, .slice A N C], .bool true]) (by simp [results, Try.results34, go_sem, q1, q2]) rfl FIN.out
theorem power_num (w : World) (u : Value) (x : Int) (b : Nat) (hu : NumIs w u x) (hx : Fits x) (hb : (b : Int) ≤ 9223372036854775807) : Calls Try.prog 34 #[u, .int .i64 b] w (SomePow w (x ^ b)) := by
  obtain ⟨ba, aa, na, ca, rfl⟩ := hu.form
  exact power_at w ba aa na ca x _ b hu (fits_k5 hx) hb rfl (pcase_of hu)
end Go.Proofs.Ytcbfognflngbaaa.Num
