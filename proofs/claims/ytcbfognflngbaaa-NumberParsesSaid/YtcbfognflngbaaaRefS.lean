/- Contract of the reference's Parse, whole; walk of the law NumberParses. -/
import Derived.Test.YtcbfognflngbaaaRefQ
import Derived.Test.YtcbfognflngbaaaRefR
import Derived.Test.YtcbfognflngbaaaLawC
set_option linter.unusedVariables false
namespace Go.Proofs.Ytcbfognflngbaaa.Num
open Go.RowKit
theorem refparse_none (s : ByteArray) (w : World) (h0 : s.size = 0) : Calls Try.prog 18 #[.string s] w (PA w (0, false)) := by
  have BL := Lib.hid (Bl.refl w)
  have h1 : decide (0 < s.size) = false := decide_eq_false (by omega)
  go_enter Try.func18, Try.ntmps18
  go_wp2
  go_ret2
  exact ⟨rfl, BL.out⟩
theorem refparse_sign (s : ByteArray) (w : World) (h0 : s.size = 1) (hp : 0 < s.size) (h2 : ((s[0].toNat : Int) == 45) = true) : Calls Try.prog 18 #[.string s] w (PA w (0, false)) := by
  have BL := Lib.hid (Bl.refl w)
  have h1 : ((1 : Int) == (s.size : Int)) = true := eq_t (by omega)
  go_enter Try.func18, Try.ntmps18
  go_wp2
  go_ret2
  exact ⟨rfl, BL.out⟩
theorem refparse_any (s : ByteArray) (w : World) (hs : s.size ≤ 60) : Calls Try.prog 18 #[.string s] w (PA w (parseS s.data.toList)) := by
  by_cases h0 : s.size = 0
  · have e : s.data.toList = [] := by
      have := len_toList s
      rw [h0] at this
      exact List.length_eq_zero_iff.1 this
    rw [e]
    exact refparse_none s w h0
  · have h1 : 0 < s.size := by omega
    have e := drop_at s 0 h1
    rw [List.drop_zero] at e
    by_cases h2 : s[0] = 45
    · have ht : ((s[0].toNat : Int) == 45) = true := by rw [h2]; rfl
      rw [e, h2, parseS_below]
      by_cases h3 : s.size = 1
      · have e2 : s.data.toList.drop 1 = [] := List.drop_of_length_le (by have := len_toList s; omega)
        rw [e2, pend_nil]
        exact refparse_sign s w h3 h1 ht
      · exact refparse_below s w _ rfl hs (by omega) ht
    · have hf : ((s[0].toNat : Int) == 45) = false := by
        have : (s[0].toNat : Int) ≠ 45 := fun h => h2 (UInt8.toNat_inj.1 (by have : s[0].toNat = 45 := by omega
                                                                             exact this))
        simpa using this
      rw [e, parseS_plain h2, ← e]
      exact refparse_plain s w _ (List.drop_zero).symm hs (by omega) hf
theorem law_parses (s : ByteArray) (hs : s.size ≤ maxLen) (w : World) :
    Calls Try.prog 4 #[.string s] w fun e w' => e = .returned (.bool true) ∧ Below w.heap.size w w' := by
  have HB := Bl.refl w
  have hm : s.size ≤ 9223372036854775807 := by unfold maxLen at hs; omega
  by_cases h60 : s.size ≤ 60
  · have c1 := fun w => parse_any s w hs
    have c2 := fun w => refparse_any s w h60
    clear hs
    generalize parseS s.data.toList = r at *
    obtain ⟨r1, r2⟩ := r
    go_enter Try.func4, Try.ntmps4
    go_wp2_with (first
      | (go_at_call 14; (with_reducible refine (shown_any _).mono ?_); rintro e w' ⟨rfl, hb⟩; replace HB := HB.trans hb; clear hb)
      | (go_at_call 17; (with_reducible refine (c1 _).mono ?_); rintro e w' ⟨rfl, rfl⟩)
      | (go_at_call 18; (with_reducible refine (c2 _).mono ?_); rintro e w5 ⟨rfl, hb⟩; replace HB := Bl.trans HB hb; clear hb))
    go_ret
    exact ⟨rfl, HB⟩
  · have hd : (s.extract 0 60).size = 60 := by rw [ByteArray.size_extract]; omega
    have c1 := fun w => parse_any (s.extract 0 60) w (by rw [hd]; decide)
    have c2 := fun w => refparse_any (s.extract 0 60) w (by omega)
    clear hs
    generalize parseS (s.extract 0 60).data.toList = r at *
    obtain ⟨r1, r2⟩ := r
    go_enter Try.func4, Try.ntmps4
    go_wp2_with (first
      | (go_at_call 14; (with_reducible refine (shown_any _).mono ?_); rintro e w' ⟨rfl, hb⟩; replace HB := HB.trans hb; clear hb)
      | (go_at_call 17; (with_reducible refine (c1 _).mono ?_); rintro e w' ⟨rfl, rfl⟩)
      | (go_at_call 18; (with_reducible refine (c2 _).mono ?_); rintro e w5 ⟨rfl, hb⟩; replace HB := Bl.trans HB hb; clear hb))
    go_ret
    exact ⟨rfl, HB⟩
end Go.Proofs.Ytcbfognflngbaaa.Num
