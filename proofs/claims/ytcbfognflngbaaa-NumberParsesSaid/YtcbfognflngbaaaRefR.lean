/- Contract of the reference's Parse. -/
import Derived.Test.YtcbfognflngbaaaRefO
set_option linter.unusedVariables false
namespace Go.Proofs.Ytcbfognflngbaaa.Num
open Go.RowKit
set_option maxHeartbeats 8000000 in
theorem refparse_below (s : ByteArray) (w : World) (L : List UInt8) (hL : L = s.data.toList.drop 1) (hs : s.size ≤ 60) (h0 : 1 < s.size) (h2 : ((s[0].toNat : Int) == 45) = true) :
    Calls Try.prog 18 #[.string s] w (PA w (pend L true)) := by
  have X0 := Lib.hid (XSt.start w)
  have AD := Lib.hid (alld_drop (s := s) (f := 1))
  rw [← hL] at AD
  have NA := Lib.hid (fun k hf hk h => pend_bad (b := true) (not_alld (s := s) (f := 1) (k := k) hf hk h))
  rw [← hL] at NA
  have DS := Lib.hid (DI.start hL)
  have LL := Lib.hid (show 0 < L.length by rw [hL, List.length_drop]; have : s.data.toList.length = s.size := len_toList s; omega)
  clear hL
  have hne : ((1 : Int) == (s.size : Int)) = false := eq_f (by omega)
  have BL := Lib.hid (Bl.refl w)
  go_enter Try.func18, Try.ntmps18
  go_wp2
  go_loop [5] (fun i => ∃ k : Nat, 1 ≤ k ∧ k ≤ s.size ∧ i = .int .i64 k ∧ ∀ j, 1 ≤ j → j < k → 48 ≤ (s.data.toList.getD j 0).toNat ∧ (s.data.toList.getD j 0).toNat ≤ 57) (fun i => s.size - (intOf i).toNat)
  case atStart => exact ⟨1, by omega, by omega, rfl, fun j h1 h2 => by omega⟩
  case round =>
    obtain ⟨k, hf, hk, rfl, hd⟩ := hrel
    by_cases hlt : k < s.size
    · have hc8 : s[k].toNat < 256 := UInt8.toNat_lt _
      have hg := getD_at s k hlt
      by_cases g1 : s[k].toNat < 48
      · have F := Lib.hid (NA.out k hf hlt (by omega))
        clear AD NA hd X0
        go_wp2
        go_ret2
        exact ⟨by rw [F.out]; rfl, BL.out⟩
      · have b1 : decide ((s[k].toNat : Int) < 48) = false := decide_eq_false (by omega)
        by_cases g2 : 57 < s[k].toNat
        · have F := Lib.hid (NA.out k hf hlt (by omega))
          clear AD NA hd X0
          go_wp2
          go_ret2
          exact ⟨by rw [F.out]; rfl, BL.out⟩
        · have b2 : decide (57 < (s[k].toNat : Int)) = false := decide_eq_false (by omega)
          have HD := Lib.hid (show ∀ j, 1 ≤ j → j < k + 1 → 48 ≤ (s.data.toList.getD j 0).toNat ∧ (s.data.toList.getD j 0).toNat ≤ 57 by
            intro j j1 j2
            by_cases hj : j < k
            · exact hd j j1 hj
            · obtain rfl : j = k := by omega
              rw [hg]; omega)
          clear AD NA hd X0
          go_wp2
          go_round
          case rel => exact ⟨k + 1, by omega, by omega, by go_num, HD.out⟩
          case measure => simp [intOf]; omega
    · obtain rfl : k = s.size := by omega
      have ALL := Lib.hid (AD.out hd)
      have HDG := Lib.hid hd
      clear AD NA hd
      have OF10 := fun w => of_any 10 w (by decide)
      go_wp2
      have st0 := X0.out
      obtain ⟨f1, f2, f3, f4, f5⟩ := st0.facts
      go_loopw [7] (fun i wr => ∃ (k X : Nat) (t : Bool) (A : Option Addr) (n c : Nat), 1 ≤ k ∧ k ≤ s.size ∧ i = .int .i64 k ∧ DI L s k X ∧ X < K5 ∧ XSt w wr t (.slice A n c) X) (fun i _ => s.size - (intOf i).toNat)
      case atStart => exact ⟨1, 0, false, none, 0, 0, by omega, by omega, rfl, DS.out, by decide, st0⟩
      case round =>
        clear f1 f2 f3 f4 f5 st0 X0 DS hf hlt
        obtain ⟨k, X, t, A, n, c, hf, hk, rfl, hdi, hXK, st⟩ := hrel
        obtain ⟨f1, f2, f3, f4, f5⟩ := st.facts
        by_cases hlt : k < s.size
        · have hc8 : s[k].toNat < 256 := UInt8.toNat_lt _
          have hc48 : 48 ≤ s[k].toNat ∧ s[k].toNat ≤ 57 := by have h := HDG.out k hf hlt; rw [getD_at s k hlt] at h; exact h
          obtain ⟨g1, g2⟩ := hc48
          have OFD := fun w => of_any ((s[k].toNat : Int) - 48) w (by unfold Fits; omega)
          have DN := Lib.hid (hdi.step hlt)
          clear hdi
          have sd := st.drew
          have W8 : IntKind.u8.wrap ((s[k].toNat : Int) - 48) = (s[k].toNat : Int) - 48 := by rw [IntKind.wrap_u8]; omega
          have W64 : IntKind.i64.wrap ((s[k].toNat : Int) - 48) = (s[k].toNat : Int) - 48 := wrap_i (by omega) (by omega)
          have M1 := Lib.hid (show Sm 100 (X : Int) from sm_of (by omega))
          have M2 := Lib.hid (show Sm 100 (10 : Int) from sm_of (n := 10) (by decide))
          have M3 := Lib.hid (show Sm 100 ((X : Int) * 10) from sm_of10 hXK)
          have M4 := Lib.hid (show Sm 100 ((s[k].toNat : Int) - 48) from sm_digit hc8)
          have E5 := Lib.hid (show (X : Int) * 10 + ((s[k].toNat : Int) - 48) = ((X * 10 + (s[k].toNat - 48) : Nat) : Int) by omega)
          go_wp2
          go_region_with (first
            | (go_at_call 23; first
                | ((with_reducible refine (OF10 _).mono ?_); rintro e W1 ⟨v, rfl, hn1, hb1⟩; obtain ⟨t1, A1, N1, C1, rfl⟩ := hn1.form; have s1 := sd.bl hb1; clear f1 f2 f3 f4 f5; obtain ⟨f1, f2, f3, f4, f5⟩ := s1.facts)
                | ((with_reducible refine (OFD _).mono ?_); rintro e W3 ⟨v, rfl, hn3, hb3⟩; obtain ⟨t3, A3, N3, C3, rfl⟩ := hn3.form; have s3 := s2.bl hb3; have hm3 := hn2.bl hb3; clear f1 f2 f3 f4 f5; obtain ⟨f1, f2, f3, f4, f5⟩ := s3.facts))
            | (go_at_call 32; (refine (mul_num _ _ _ (X : Int) 10 s1.x hn1 M1.out M2.out).mono ?_); rintro e W2 ⟨v, rfl, hn2, hb2⟩; obtain ⟨t2, A2, N2, C2, rfl⟩ := hn2.form; have s2 := s1.bl hb2; clear f1 f2 f3 f4 f5; obtain ⟨f1, f2, f3, f4, f5⟩ := s2.facts)
            | (go_at_call 31; (refine (add_num _ _ _ ((X : Int) * 10) ((s[k].toNat : Int) - 48) hm3 hn3 M3.out M4.out).mono ?_); rintro e W4 ⟨v, rfl, hn4, hb4⟩; obtain ⟨t4, A4, N4, C4, rfl⟩ := hn4.form; have s4 := s3.bl hb4; have st4 := s4.set hn4; clear f1 f2 f3 f4 f5; obtain ⟨f1, f2, f3, f4, f5⟩ := s4.facts))
          all_goals
            have hnl := num_long hn4
            rw [E5.out] at st4 hnl
            rw [Int.natAbs_natCast] at hnl
            have HNL := Lib.hid hnl
            clear hnl f1 f2 f3 f4 f5 s4 s3 s2 s1 sd hn1 hn2 hn3 hn4 hm3 hb1 hb2 hb3 hb4 W8 W64 M1 M2 M3 M4 E5 OF10 OFD st hXK
            unfold putNum at st4
            generalize ((W4.setCell ⟨w.heap.size, 0, none⟩ (.bool t4)).setCell ⟨w.heap.size, 1, none⟩ (.slice A4 N4 C4)) = Y at *
            obtain ⟨f1, f2, f3, f4, f5⟩ := st4.facts
            by_cases h5 : 5 < N4
            · have F := Lib.hid (pend_huge (b := true) DN.out.ge (HNL.out.1 h5))
              have LO := Lib.hid st4.low
              clear st4 DN HNL ALL HDG LL
              go_wp2
              go_ret2
              exact ⟨by rw [F.out]; rfl, LO.out⟩
            · have XK := Lib.hid (HNL.out.2 (by omega))
              have ST5 := Lib.hid st4
              clear st4 HNL ALL HDG LL
              go_wp2
              exact ⟨⟨k + 1, _, t4, A4, N4, C4, by omega, by omega, rfl, DN.out, XK.out, ST5.out⟩, by simp [intOf]; omega⟩
        · obtain rfl : k = s.size := by omega
          have hX := hdi.done
          have S1 : Sm 100 (X : Int) := sm_of (by omega)
          by_cases hF : Fits (sg true X)
          · have F := Lib.hid (pend_good (b := true) ALL.out LL.out (by rw [hX]; exact hF))
            rw [hX] at F
            clear hdi hX ALL HDG LL OF10
            go_wp2_with fail
            refine (neg_num _ _ (X : Int) st.x S1).mono ?_
            rintro e W5 ⟨v, rfl, hn5, hb5⟩
            obtain ⟨t5, A5, N5, C5, rfl⟩ := hn5.form
            have s5 := st.bl hb5
            have st5 := s5.set hn5
            clear f1 f2 f3 f4 f5 hn5 hb5 st
            obtain ⟨f1, f2, f3, f4, f5⟩ := s5.facts
            clear s5
            go_wp2_with fail
            clear f1 f2 f3 f4 f5
            unfold putNum at st5
            try generalize ((W5.setCell ⟨w.heap.size, 0, none⟩ (.bool t5)).setCell ⟨w.heap.size, 1, none⟩ (.slice A5 N5 C5)) = Y at *
            have CI := int_num _ _ _ st5.x (sm_upneg S1 (by decide))
            have LO := Lib.hid st5.low
            clear st5
            refine (int_good CI (by exact hF)).mono ?_
            clear CI
            rintro e W6 ⟨rfl, hb6⟩
            have LO6 := Lib.hid (LO.out.trans (hb6.mono (Below.size LO.out)))
            clear LO hb6 hF S1
            go_wp2
            go_ret2
            exact ⟨by rw [F.out]; rfl, LO6.out⟩
          · have F := Lib.hid (pend_far (d := L) (b := true) (by rw [hX]; exact hF))
            clear hdi hX ALL HDG LL OF10
            go_wp2_with fail
            refine (neg_num _ _ (X : Int) st.x S1).mono ?_
            rintro e W5 ⟨v, rfl, hn5, hb5⟩
            obtain ⟨t5, A5, N5, C5, rfl⟩ := hn5.form
            have s5 := st.bl hb5
            have st5 := s5.set hn5
            clear f1 f2 f3 f4 f5 hn5 hb5 st
            obtain ⟨f1, f2, f3, f4, f5⟩ := s5.facts
            clear s5
            go_wp2_with fail
            clear f1 f2 f3 f4 f5
            unfold putNum at st5
            try generalize ((W5.setCell ⟨w.heap.size, 0, none⟩ (.bool t5)).setCell ⟨w.heap.size, 1, none⟩ (.slice A5 N5 C5)) = Y at *
            have CI := int_num _ _ _ st5.x (sm_upneg S1 (by decide))
            have LO := Lib.hid st5.low
            clear st5
            refine (int_bad CI (by exact hF)).mono ?_
            clear CI
            rintro e W6 ⟨n6, rfl, hb6⟩
            have LO6 := Lib.hid (LO.out.trans (hb6.mono (Below.size LO.out)))
            clear LO hb6 hF S1
            go_wp2
            go_ret2
            exact ⟨by rw [F.out]; rfl, LO6.out⟩

end Go.Proofs.Ytcbfognflngbaaa.Num
