/- Contract of the reference's Text. -/
import Derived.Test.YtcbfognflngbaaaRefJ
import Derived.Test.YtcbfognflngbaaaNumQ
set_option linter.unusedVariables false
namespace Go.Proofs.Ytcbfognflngbaaa.Num
open Go.RowKit
theorem Bl.al (w : World) (o : Obj) : Bl w (w.alloc o) := (Below.refl _ _).alloc (Nat.le_refl _) _
theorem run_byte (w : World) (c : UInt8) (x : Int) (hx : (c.toNat : Int) = x) : (convert 51 9 (.slice (some ⟨w.heap.size, 0, none⟩) 1 1)).run Try.prog (w.alloc (.cells #[.int .u8 x] 5)) = .ok (.string (str [c])) (w.alloc (.cells #[.int .u8 x] 5)) := by
  subst hx
  exact run_str _ w.heap.size _ [c] ⟨by simp [B8], .inr ⟨w.heap.size, 1, #[.int .u8 c.toNat], rfl, Nat.le_refl _, heap_alloc_new w _, Nat.le_refl _, by decide, rfl, rfl⟩⟩ (by simp)
theorem str_cons (c : UInt8) (l : List UInt8) : str [c] ++ str l = str (c :: l) := by
  apply ByteArray.ext
  simp [str]
theorem fdiv10 (Y : Nat) : (Y : Int).fdiv 10 = (Y / 10 : Nat) ∧ (Y : Int).fmod 10 = (Y % 10 : Nat) := floor_pos (by decide) (by omega) (by omega) (by omega)
theorem digit0 {l : List Nat} (hn : Norm l) (hv : val l < 65536) : l.getD 0 0 = val l := by
  have h := norm_len hn (k := 1) (by simpa using hv)
  match l, h with
  | [], _ => rfl
  | [d], _ => simp [val]
  | _ :: _ :: _, h => simp at h
structure TSt (w : World) (p3 p4 p6 : Nat) (tx : Bool) (sx s10 : Value) (wr : World) (ty : Bool) (sy : Value) (Y : Nat) : Prop where
  low : Below w.heap.size w wr
  nx : NV wr p3 tx sx
  n10 : NV wr p4 false s10
  ny : NV wr p6 ty sy
  h3 : w.heap.size ≤ p3
  h34 : p3 < p4
  h46 : p4 < p6
  ten : NumIs wr (.agg #[.bool false, s10]) 10
  y : NumIs wr (.agg #[.bool ty, sy]) Y
section
variable {w : World} {p3 p4 p6 : Nat} {tx : Bool} {sx s10 : Value} {wr w1 : World} {ty : Bool} {sy : Value} {Y : Nat}
theorem TSt.bl (h : TSt w p3 p4 p6 tx sx s10 wr ty sy Y) (hb : Bl wr w1) : TSt w p3 p4 p6 tx sx s10 w1 ty sy Y :=
  ⟨h.low.trans (hb.mono (Below.size h.low)), h.nx.bl hb, h.n10.bl hb, h.ny.bl hb, h.h3, h.h34, h.h46, h.ten.bl hb, h.y.bl hb⟩
theorem TSt.setY (h : TSt w p3 p4 p6 tx sx s10 wr ty sy Y) {t : Bool} {s : Value} {Y' : Nat} (hn : NumIs wr (.agg #[.bool t, s]) Y') : TSt w p3 p4 p6 tx sx s10 (putNum wr p6 t s) t s Y' :=
  ⟨below_put h.low (by have := h.h3; have := h.h34; have := h.h46; omega), h.nx.other (by have := h.h34; have := h.h46; omega), h.n10.other (by have := h.h46; omega), h.ny.put hn.slice, h.h3, h.h34, h.h46, h.ten.put h.ny, hn.put h.ny⟩
theorem TSt.facts (h : TSt w p3 p4 p6 tx sx s10 wr ty sy Y) :
    (wr.cell? ⟨p3, 0, none⟩ = some (.bool tx)) ∧ (wr.cell? ⟨p4, 0, none⟩ = some (.bool false) ∧ wr.cell? ⟨p4, 1, none⟩ = some s10) ∧
    (wr.cell? ⟨p6, 0, none⟩ = some (.bool ty) ∧ wr.cell? ⟨p6, 1, none⟩ = some sy ∧ wr.frozen? ⟨p6, 0, none⟩ = false ∧ wr.frozen? ⟨p6, 1, none⟩ = false) ∧ p3 < p4 ∧ p4 < p6 ∧ p6 < wr.heap.size :=
  ⟨h.nx.cells.1, ⟨h.n10.cells.1, h.n10.cells.2.1⟩, ⟨h.ny.cells.1, h.ny.cells.2.1, h.ny.cells.2.2.1, h.ny.cells.2.2.2.1⟩, h.h34, h.h46, h.ny.lt⟩
end
def TIs (M0 Y : Nat) (l : List UInt8) : Prop := ((l = [] ∧ Y = M0) ∨ (l ≠ [] ∧ dg (M0 / 10) [dch M0] = dg Y l)) ∧ Y < 10 ^ (20 - l.length) ∧ l.length ≤ 20
theorem TIs.start {M0 : Nat} (h : M0 < 18446744073709551616) : TIs M0 M0 [] := ⟨.inl ⟨rfl, rfl⟩, by simp; omega, by simp⟩
theorem TIs.step {M0 Y : Nat} {l : List UInt8} (h : TIs M0 Y l) (hy : l = [] ∨ 0 < Y) : TIs M0 (Y / 10) (dch Y :: l) := by
  obtain ⟨h1, h2, h3⟩ := h
  have h4 : l.length < 20 := by
    rcases Nat.lt_or_ge l.length 20 with g | g
    · exact g
    · exfalso
      have e : 20 - l.length = 0 := by omega
      rw [e] at h2
      rcases hy with hy | hy
      · rw [hy] at g; simp at g
      · omega
  refine ⟨.inr ⟨by simp, ?_⟩, ?_, by simp; omega⟩
  · rcases h1 with ⟨rfl, rfl⟩ | ⟨h5, h6⟩
    · rfl
    · rcases hy with hy | hy
      · exact absurd hy h5
      · rw [h6, dg_pos hy]
  · have e : 20 - l.length = (20 - (l.length + 1)) + 1 := by omega
    rw [e, Nat.pow_succ] at h2
    rw [List.length_cons]
    omega
theorem TIs.done {M0 : Nat} {l : List UInt8} (h : TIs M0 0 l) (hl : l ≠ []) : D M0 = l := by
  obtain ⟨h1, _, _⟩ := h
  rcases h1 with ⟨h, _⟩ | ⟨_, h⟩
  · exact absurd h hl
  · unfold D; rw [h, dg_zero]

theorem reftext_any (n : Int) (w : World) (hn : Fits n) : Calls Try.prog 24 #[.int .i64 n] w fun e w' => e = .returned (.string (str (textL n))) ∧ Bl w w' := by
  have OF1 := fun w => of_any n w hn
  have OF2 := fun w => of_any 10 w (by decide)
  have hM : n.natAbs < 18446744073709551616 := by unfold Fits at hn; omega
  have TS := Lib.hid (TIs.start hM)
  have hK : n.natAbs < K5 := by have : (18446744073709551616 : Nat) < K5 := by decide
                                omega
  go_enter Try.func24, Try.ntmps24
  go_wp2_with fail
  refine (OF1 _).mono ?_
  rintro e W1 ⟨v, rfl, hn1, hb1⟩
  obtain ⟨t1, A1, N1, C1, rfl⟩ := hn1.form
  go_wp2_with fail
  refine (OF2 _).mono ?_
  rintro e W2 ⟨v, rfl, hn2, hb2⟩
  obtain ⟨t2, A2, N2, C2, rfl⟩ := hn2.form
  have h0 := (NV.new W1 t1 (s := .slice A1 N1 C1) ⟨_, _, _, rfl⟩).bl hb2
  obtain ⟨f1, f2, f3, f4, f5⟩ := h0.cells
  have t2f := (num_facts hn2).2.2.1 (by decide)
  obtain rfl := t2f
  have SGN := num_facts hn1
  have h4 := NV.new W2 false (s := .slice A2 N2 C2) ⟨_, _, _, rfl⟩
  obtain ⟨lx, rx, dx, nx, ex, -⟩ := hn1.row
  have hbl := Bl.trans hb1 (Bl.trans (Bl.al _ _) hb2)
  have hB2 := Bl.al W2 (.cells #[.bool false, .slice A2 N2 C2] 37)
  have hsz : w.heap.size ≤ W1.heap.size := Below.size hb1
  have vx : (val lx) = n.natAbs := by have := congrArg Int.natAbs ex; rw [sg_abs] at this; exact this.symm
  have lxl : lx.length ≤ 100 := norm_len nx (by rw [vx]; have := sm_of (n := n.natAbs) (by omega); unfold Sm at this; simpa using this)
  have CW := whole_of (b := false) (z := (n.natAbs : Int)) (w := W2.alloc (.cells #[.bool false, .slice A2 N2 C2] 37)) (Bl.refl _) ((rx.bl (Bl.trans (Bl.al _ _) hb2)).bl hB2) dx lxl (by omega) (by rw [vx]; rfl)
  have h0' := h0.bl hB2
  have hn2' := hn2.bl hB2
  clear rx dx nx ex lxl vx hn1 hn2 OF1 OF2 h0
  go_wp2_with fail
  refine CW.mono ?_
  clear CW
  rintro e W3 ⟨v, rfl, hn3, hb3⟩
  obtain ⟨t3, A3, N3, C3, rfl⟩ := hn3.form
  have hB3 := Bl.al W3 (.cells #[.bool t3, .slice A3 N3 C3] 37)
  have st0 : TSt w W1.heap.size W2.heap.size W3.heap.size t1 (.slice A1 N1 C1) (.slice A2 N2 C2) (W3.alloc (.cells #[.bool t3, .slice A3 N3 C3] 37)) t3 (.slice A3 N3 C3) n.natAbs := by
    have hs3 : W2.heap.size < W3.heap.size := by have := Below.size hb3; rw [size_al] at this; omega
    exact ⟨Bl.trans (Bl.trans (Bl.trans hbl hB2) hb3) hB3, (h0'.bl hb3).bl hB3, (h4.bl hb3).bl hB3, NV.new W3 t3 ⟨_, _, _, rfl⟩, hsz, f5, hs3, (hn2'.bl hb3).bl hB3, hn3.bl hB3⟩
  clear h0' h4 hn2' hn3 hb3 hB3 hB2 hbl hsz f1 f2 f3 f4 f5 hb1 hb2
  obtain ⟨f1, ⟨f2, f3⟩, ⟨f4, f5, f6, f7⟩, f8, f9, f10⟩ := st0.facts
  go_wp2_with fail
  go_loopw [5] (fun sv wr => ∃ (l : List UInt8) (Y : Nat) (ty : Bool) (Ay : Option Addr) (Ny Cy : Nat), sv = .string (str l) ∧ TIs n.natAbs Y l ∧ Y < K5 ∧ TSt w W1.heap.size W2.heap.size W3.heap.size t1 (.slice A1 N1 C1) (.slice A2 N2 C2) wr ty (.slice Ay Ny Cy) Y)
    (fun sv _ => match sv with | .string s => 30 - s.size | _ => 0)
  case atStart => exact ⟨[], n.natAbs, t3, A3, N3, C3, rfl, TS.out, hK, st0⟩
  case round =>
    clear f1 f2 f3 f4 f5 f6 f7 f8 f9 f10 st0
    obtain ⟨l, Y, ty, Ay, Ny, Cy, rfl, hti, hYK, st⟩ := hrel
    obtain ⟨f1, ⟨f2, f3⟩, ⟨f4, f5, f6, f7⟩, f8, f9, f10⟩ := st.facts
    have HT := num_facts st.y
    have hsz : (str l).size = l.length := str_size l
    by_cases hgo : l = [] ∨ 0 < Y
    · have hl20 : (str l).size ≤ 20 := by rw [hsz]; exact hti.2.2
      have b1 : ((((str l).size : Int) == 0) = true) ∨ ((((str l).size : Int) == 0) = false ∧ decide (0 < Ny) = true) := by
        by_cases hl : l = []
        · subst hl; exact .inl rfl
        · refine .inr ⟨eq_f ?_, decide_eq_true (HT.2.1 (by rcases hgo with h | h; exact absurd h hl; omega))⟩
          rw [hsz]; intro h; exact hl (List.length_eq_zero_iff.1 (by omega))
      have STP := Lib.hid (hti.step hgo)
      have SC := Lib.hid (str_cons (dch Y) l)
      have SZ := Lib.hid (show (str (dch Y :: l)).size = (str l).size + 1 by rw [str_size, str_size, List.length_cons])
      clear HT hgo hti hsz
      generalize hS : str l = S at *
      clear hS
      have CP := parts_num _ _ _ Y 10 st.y st.ten (by show _ < K5; simpa using hYK) (by show _ < K5; decide) (by decide)
      rw [(fdiv10 Y).1, (fdiv10 Y).2] at CP
      rcases b1 with b1 | ⟨b1, b2⟩
      all_goals
        go_wp2_with fail
        refine CP.mono ?_
        rintro e W5 ⟨u, v, rfl, hq, hr, hb5⟩
        obtain ⟨tq, Aq, Nq, Cq, rfl⟩ := hq.form
        obtain ⟨tr, Ar, Nr, Cr, rfl⟩ := hr.form
        have sb5 := st.bl hb5
        obtain ⟨lr, rr, dr, nrr, er, -⟩ := hr.row
        have vr : val lr = Y % 10 := by have := congrArg Int.natAbs er; rw [sg_abs] at this; omega
        have DGT := digit_any ((W5.alloc (.cells #[.bool tq, .slice Aq Nq Cq] 37)).alloc (.cells #[.bool tr, .slice Ar Nr Cr] 37)) _ lr 0 (rr.bl (Bl.trans (Bl.al _ _) (Bl.al _ _))) (by decide)
        rw [digit0 nrr (by omega), vr, show ((0 : Nat) : Int) = 0 from rfl] at DGT
        have kc := run_byte ((W5.alloc (.cells #[.bool tq, .slice Aq Nq Cq] 37)).alloc (.cells #[.bool tr, .slice Ar Nr Cr] 37)) (dch Y) (48 + (Y : Int) % 10) (dch_int Y)
        simp only [size_al] at kc
        rw [show ((Y % 10 : Nat) : Int) = (Y : Int) % 10 from by omega] at DGT
        clear f1 f2 f3 f4 f5 f6 f7 f8 f9 f10 CP st hr rr dr nrr er vr
        obtain ⟨f1, ⟨f2, f3⟩, ⟨f4, f5, f6, f7⟩, f8, f9, f10⟩ := sb5.facts
        obtain ⟨g1, g2, g3, g4, -⟩ := (((sb5.ny.alloc (.cells #[.bool tq, .slice Aq Nq Cq] 37)).alloc (.cells #[.bool tr, .slice Ar Nr Cr] 37)).alloc (.cells #[.int .u8 (48 + (Y : Int) % 10)] 5)).cells
        have hs1 : (str [dch Y]).size = 1 := str_size _
        have hbc : Bl W5 (((W5.alloc (.cells #[.bool tq, .slice Aq Nq Cq] 37)).alloc (.cells #[.bool tr, .slice Ar Nr Cr] 37)).alloc (.cells #[.int .u8 (48 + (Y : Int) % 10)] 5)) := Bl.trans (Bl.trans (Bl.al _ _) (Bl.al _ _)) (Bl.al _ _)
        have stn := Lib.hid ((sb5.bl hbc).setY (hq.bl hbc))
        clear hbc sb5 hq hb5
        go_wp2_with (go_at_call 39; refine DGT.mono ?_; rintro e W6 ⟨rfl, rfl⟩)
        go_roundw
        case rel => exact ⟨dch Y :: l, Y / 10, _, _, _, _, by rw [SC.out], STP.out, by omega, stn.out⟩
        case measure => simp [hs1]; omega
    · have hl : l ≠ [] := fun h => hgo (.inl h)
      obtain rfl : Y = 0 := by omega
      have b1 : (((str l).size : Int) == 0) = false := eq_f (by rw [hsz]; intro h; exact hl (List.length_eq_zero_iff.1 (by omega)))
      have b2 : decide (0 < Ny) = false := decide_eq_false (by have := (HT.1 rfl).1; omega)
      have DN := hti.done hl
      have hl20 : (str l).size ≤ 20 := by rw [hsz]; exact hti.2.2
      have FB := Lib.hid (show Bl w wr from st.low)
      by_cases hneg : n < 0
      · have F := Lib.hid (show str (textL n) = ⟨#[45]⟩ ++ str l by rw [textL_neg hneg, DN, ← str_cons]; rfl)
        obtain rfl := SGN.2.2.2 hneg
        clear HT hgo hti hsz SGN DN st
        generalize str l = S at *
        go_wp2
        go_ret
        exact ⟨by rw [F.out]; rfl, FB.out⟩
      · have F := Lib.hid (show str (textL n) = str l by rw [textL_pos (by omega), DN])
        have t1f : t1 = false := by
          rcases Int.lt_trichotomy n 0 with h | h | h
          · exact absurd h hneg
          · exact (SGN.1 h).2
          · exact SGN.2.2.1 h
        subst t1f
        clear HT hgo hti hsz SGN DN st
        generalize str l = S at *
        go_wp2
        go_ret
        exact ⟨by rw [F.out]; rfl, FB.out⟩
end Go.Proofs.Ytcbfognflngbaaa.Num
