/- Contract of number.Text's function that puts a digit ahead, and of number.Text. -/
import Derived.Test.YtcbfognflngbaaaNumA
import Derived.Maps.AppendAt
set_option linter.unusedVariables false
namespace Go.Proofs.Ytcbfognflngbaaa.Num
open Go.RowKit

theorem info5 : (Try.prog.info? 5).map (fun i => (i.zero, i.size, i.bytes)) = some (some (.int .u8 0), 1, 1) := by kernel_rfl
def B8 (l : List UInt8) : List Value := l.map fun c => Value.int .u8 c.toNat
theorem B8_one (l : List UInt8) : ∀ u ∈ B8 l, u.oneCell' = true := by
  intro u hu
  obtain ⟨c, _, rfl⟩ := List.mem_map.1 hu
  rfl

/-- append of whatever the call owns (nil too) to a new row of one byte. -/
theorem run_put (w : World) (B : Nat) (c : UInt8) (v : Value) (l : List UInt8) (hB : B ≤ w.heap.size) (ho : w.ownsRow B 5 1 v l.length (B8 l)) (hl : l.length ≤ 1000) (ty : TypeId) :
    ∃ v' w', (Builtin.append_ #[51, 51] ty #[.slice (some ⟨w.heap.size, 0, none⟩) 1 1, v]).run Try.prog (w.alloc (.cells #[.int .u8 c.toNat] 5)) = .ok v' w' ∧
      w'.ownsRow B 5 1 v' (l.length + 1) (B8 (c :: l)) ∧ Below w.heap.size w w' := by
  obtain ⟨i0, hi0, hz0, hz1, hz2⟩ := info_parts info5
  have hown : (w.alloc (.cells #[.int .u8 c.toNat] 5)).ownsRow w.heap.size 5 1 (.slice (some ⟨w.heap.size, 0, none⟩) 1 1) 1 [.int .u8 c.toNat] :=
    ⟨by simp, .inr ⟨w.heap.size, 1, #[.int .u8 c.toNat], rfl, Nat.le_refl _, heap_alloc_new w _, Nat.le_refl _, by decide, rfl, rfl⟩⟩
  have hnew : Below w.heap.size w (w.alloc (.cells #[.int .u8 c.toNat] 5)) := (Below.refl _ _).alloc (Nat.le_refl _) _
  rcases ho.2 with ⟨rfl, hn⟩ | ⟨g, cap, cur, rfl, hg, hh, hnc, hcm, hcs, htk⟩
  · obtain rfl : l = [] := List.length_eq_zero_iff.1 hn
    refine ⟨_, _, ?_, ⟨by simp [B8], .inr ⟨w.heap.size, 1, #[.int .u8 c.toNat], rfl, hB, heap_alloc_new w _, Nat.le_refl _, by decide, rfl, rfl⟩⟩, hnew⟩
    simp [Builtin.append_, run_underlying Try.underlying51, sizeOf, typeInfo, hi0, Builtin.lenOf, Builtin.firstCells, storeCells]
  · have hcells : ∀ j u, (B8 l)[j]? = some u → (w.alloc (.cells #[.int .u8 c.toNat] 5)).cell? ((⟨g, 0, none⟩ : Addr).add j) = some u := fun j u hu => (ho.alloc _).cells rfl j u hu
    obtain ⟨v', w', hrun, h2, h3, _, h5⟩ := run_append_own_at (P := Try.prog) (w.alloc (.cells #[.int .u8 c.toNat] 5)) w.heap.size 51 ty 5 i0 _ 1 1 Try.underlying51 hi0 hz0 hz1 hz2 rfl (by decide) _ 1 _ hown ⟨g, 0, none⟩ l.length cap (B8 l) (by simp [B8]) hcells (B8_one l) (by unfold maxLen; omega) (by omega) (by simp)
    refine ⟨v', w', hrun, ?_, hnew.grown h3 (by simp) (fun k hk => ?_)⟩
    · have e1 : 1 + l.length = l.length + 1 := by omega
      rw [e1] at h2
      refine ⟨h2.1, ?_⟩
      rcases h2.2 with h | ⟨g', cap', cur', e, hb', r⟩
      · exact .inl h
      · exact .inr ⟨g', cap', cur', e, by omega, r⟩
    · simp [Value.ownBlock] at hk; omega

/-- append, where its run is known. -/
theorem wpList_append_run {P : Program} {w w' : World} {ops : Array Oper} {rest : List Oper} {o : Oper} {a : Act} {Q : Exit → Act → World → Prop} (hgd : o.guard = none) (s x : Operand) (t : TypeId)
    (ho : o.op = .call { callee := .builtin .append, args := #[s, x], argTypes := #[t, t] }) {v u v' : Value} (hs : a.eval s = v) (hx : a.eval x = u)
    (hrun : (Builtin.append_ #[t, t] o.type #[v, u]).run P w = .ok v' w') (h : wpList P ops Q rest (a.put o.dst v') w') : wpList P ops Q (o :: rest) a w :=
  wpList_plain hgd fun K hK => by
    unfold Oper.wp execOp
    simp only [ho, resolve, invoke, builtin, Sem.run_bind, Sem.run_pure, Result.andThen_ok, List.map_toArray, List.map_cons, List.map_nil, hs, hx, hrun]
    exact hK _ _ h

theorem put_any (w : World) (p : Nat) (c : UInt8) (x : Int) (hx : (c.toNat : Int) = x) (v : Value) (l : List UInt8) (hp : w.heap[p]? = some (.cells #[v] 51 (0, 0)))
    (ho : w.ownsRow (p + 1) 5 1 v l.length (B8 l)) (hl : l.length ≤ 1000) :
    Calls Try.prog 36 #[.int .u8 x, .pointer (some ⟨p, 0, none⟩)] w fun e w' => e = .returned (.tuple #[]) ∧ ∃ v', w'.heap[p]? = some (.cells #[v'] 51 (0, 0)) ∧ w'.ownsRow (p + 1) 5 1 v' (l.length + 1) (B8 (c :: l)) ∧ Below p w w' := by
  subst hx
  have hpl := lt_of_block hp
  have hv0 : (∃ a n c, v = .slice a n c) := by
    rcases ho.2 with ⟨rfl, _⟩ | ⟨g, cap, cur, rfl, _⟩
    · exact ⟨_, _, _, rfl⟩
    · exact ⟨_, _, _, rfl⟩
  obtain ⟨a0, n0, cp0, rfl⟩ := hv0
  obtain ⟨v', w', hrun, hown, hbel⟩ := run_put w (p + 1) c (.slice a0 n0 cp0) l (by omega) ho hl 51
  have hc : w.cell? ⟨p, 0, none⟩ = some (.slice a0 n0 cp0) := cell_of_one hp
  have hp2 : w'.heap[p]? = some (.cells #[.slice a0 n0 cp0] 51 (0, 0)) := (hbel.block p hpl).trans hp
  have hc2 : w'.cell? ⟨p, 0, none⟩ = some (.slice a0 n0 cp0) := cell_of_one hp2
  have hf2 : w'.frozen? ⟨p, 0, none⟩ = false := free_of_one hp2
  have R1 := Lib.hid (show (w'.setCell ⟨p, 0, none⟩ v').heap[p]? = some (.cells #[v'] 51 (0, 0)) from one_setCell hp2)
  have R2 := Lib.hid (show (w'.setCell ⟨p, 0, none⟩ v').ownsRow (p + 1) 5 1 v' (l.length + 1) (B8 (c :: l)) from ownsRow_setCell_below hown (by simp) _)
  have R3 := Lib.hid (show Below p w (w'.setCell ⟨p, 0, none⟩ v') from (hbel.mono (by omega)).setCell (by simp) _)
  have hv : (∃ a n c, v' = .slice a n c) := by
    rcases hown.2 with ⟨rfl, _⟩ | ⟨g, cap, cur, rfl, _⟩
    · exact ⟨_, _, _, rfl⟩
    · exact ⟨_, _, _, rfl⟩
  obtain ⟨a, n, cp, rfl⟩ := hv
  clear ho hown hbel hp hp2 hl
  go_enter Try.func36, Try.ntmps36
  go_wp2_with (at_builtin; refine wpList_append_run rfl (.tmp 4) (.tmp 5) 51 rfl rfl rfl hrun ?_)
  go_end0
  exact ⟨rfl, _, R1.out, R2.out, R3.out⟩

/-! Text -/
def dch (m : Nat) : UInt8 := UInt8.ofNat (48 + m % 10)
def dg (M : Nat) (l : List UInt8) : List UInt8 := if M = 0 then l else dg (M / 10) (dch M :: l)
termination_by M
decreasing_by omega
theorem dg_zero (l : List UInt8) : dg 0 l = l := by rw [dg, if_pos rfl]
theorem dg_pos {M : Nat} (h : 0 < M) (l : List UInt8) : dg M l = dg (M / 10) (dch M :: l) := by rw [dg, if_neg (by omega)]
def textL (n : Int) : List UInt8 :=
  if n < 0 then 45 :: dg (n.natAbs / 10) [dch n.natAbs] else dg (n.natAbs / 10) [dch n.natAbs]
theorem dch_int (m : Nat) : ((dch m).toNat : Int) = 48 + (m : Int) % 10 := by
  unfold dch
  rw [UInt8.toNat_ofNat_of_lt' (by show _ < 256; omega)]
  omega
def str (l : List UInt8) : ByteArray := ⟨l.toArray⟩

theorem fold_bytes (l : List UInt8) (s : ByteArray) : (l.map fun c => (c.toNat : Int)).foldl (fun r n => r.push (UInt8.ofNat n.toNat)) s = ⟨s.data ++ l.toArray⟩ := by
  induction l generalizing s with
  | nil => simp
  | cons c l ih =>
    rw [List.map_cons, List.foldl_cons, ih]
    congr 1
    simp [ByteArray.push]
theorem run_str (w : World) (B : Nat) (v : Value) (l : List UInt8) (ho : w.ownsRow B 5 1 v l.length (B8 l)) (hl : l ≠ []) :
    (convert 51 9 v).run Try.prog w = .ok (.string (str l)) w := by
  rcases ho.2 with ⟨rfl, hn⟩ | ⟨g, cap, cur, rfl, hg, hh, hnc, hcm, hcs, htk⟩
  · exact absurd (List.length_eq_zero_iff.1 hn) hl
  · rw [run_convert_bytes_string w 51 9 5 _ _ _ Try.underlying51 Try.underlying5 Try.underlying9]
    have h := run_loadCells_list (P := Try.prog) w ⟨g, 0, none⟩ (B8 l) (fun j u hu => ho.cells rfl j u hu)
    have e1 : (B8 l).length = l.length := by simp [B8]
    have e2 : B8 l = (l.map fun c => (c.toNat : Int)).map (Value.int .u8) := by simp [B8]
    rw [e1] at h
    rw [run_bytesToString w ⟨g, 0, none⟩ l.length cap (l.map fun c => (c.toNat : Int)) (by rw [h, e2]), fold_bytes]
    congr 2
    simp [str]

def Txt (w : World) (M0 : Nat) (wr : World) (M : Nat) (l : List UInt8) : Prop :=
  (∃ v, wr.heap[w.heap.size]? = some (.cells #[v] 51 (0, 0)) ∧ wr.ownsRow (w.heap.size + 1) 5 1 v l.length (B8 l)) ∧ Below w.heap.size w wr ∧ dg (M0 / 10) [dch M0] = dg M l ∧ M < 10 ^ (20 - l.length) ∧ l.length ≤ 20 ∧ 0 < l.length

theorem Txt.start {w w1 : World} {M0 : Nat} {v : Value} (hM : M0 < 18446744073709551616) (h : w1.heap[w.heap.size]? = some (.cells #[v] 51 (0, 0))) (ho : w1.ownsRow (w.heap.size + 1) 5 1 v (0 + 1) (B8 [dch M0])) (hb : Below w.heap.size w w1) : Txt w M0 w1 (M0 / 10) [dch M0] :=
  ⟨⟨v, h, ho⟩, hb, rfl, by show M0 / 10 < 10 ^ 19; omega, by simp, by simp⟩
theorem Txt.step {w wr w1 : World} {M0 M : Nat} {l : List UInt8} (t : Txt w M0 wr M l) (hM : 0 < M) {v : Value} (h : w1.heap[w.heap.size]? = some (.cells #[v] 51 (0, 0))) (ho : w1.ownsRow (w.heap.size + 1) 5 1 v (l.length + 1) (B8 (dch M :: l))) (hb : Below w.heap.size wr w1) : Txt w M0 w1 (M / 10) (dch M :: l) := by
  obtain ⟨_, h1, h2, h3, h4, h5⟩ := t
  have hlt : l.length < 20 := by
    rcases Nat.lt_or_ge l.length 20 with h | h
    · exact h
    · have : 20 - l.length = 0 := by omega
      rw [this] at h3; omega
  have e : 20 - l.length = (20 - (l.length + 1)) + 1 := by omega
  rw [e, Nat.pow_succ] at h3
  refine ⟨⟨v, h, ho⟩, h1.trans hb, by rw [h2, dg_pos hM], ?_, by simp; omega, by simp⟩
  show M / 10 < 10 ^ (20 - (l.length + 1))
  omega

theorem text_any (n : Int) (w : World) (hn : Fits n) :
    Calls Try.prog 19 #[.int .i64 n] w fun e w' => e = .returned (.string (str (textL n))) ∧ Below w.heap.size w w' := by
  have hM : n.natAbs < 18446744073709551616 := by unfold Fits at hn; omega
  have C := fun w => magnitude_any n w hn
  have T := Lib.hid (show textL n = if n < 0 then 45 :: dg (n.natAbs / 10) [dch n.natAbs] else dg (n.natAbs / 10) [dch n.natAbs] from rfl)
  generalize n.natAbs = M0 at *
  have hx := dch_int M0
  go_enter Try.func19, Try.ntmps19
  go_wp2_with (first | (go_at_call 37; ((with_reducible refine (C _).mono ?_)); rintro e w' ⟨rfl, rfl⟩) | (go_at_call 36; ((with_reducible refine (put_any _ w.heap.size (dch M0) _ hx (.slice none 0 0) [] ?_ ?_ ?_).mono ?_)); rotate_left 3; rintro e w1 ⟨rfl, v1, hv1, ho1, hb1⟩))
  case refine_1 => exact heap_alloc_new w _
  case refine_2 => exact World.ownsRow_nil _ _ _ _
  case refine_3 => exact Nat.zero_le _
  have t0 := Txt.start hM hv1 ho1 ((Below.refl _ _).alloc (Nat.le_refl _) _ |>.trans hb1)
  clear hv1 ho1 hb1 hx
  go_loopw [5] (fun v wr => ∃ (M : Nat) (l : List UInt8), v = .int .u64 M ∧ M < 18446744073709551616 ∧ Txt w M0 wr M l) (fun v _ => (intOf v).toNat)
  case atStart => exact ⟨M0 / 10, _, by congr 1, by omega, t0⟩
  case round =>
    clear t0
    obtain ⟨M, l, rfl, hM2, t⟩ := hrel
    have HT := Lib.hid t; clear t
    obtain ⟨⟨v, hv, ho⟩, hbw, _, _, hl20, _⟩ := HT.out
    have hpl := lt_of_block hv
    by_cases hz : 0 < M
    · have D := fun x hx => put_any _ w.heap.size (dch M) x hx v l hv ho (by omega)
      have D2 := Lib.hid (D _ (dch_int M)); clear D
      clear hv ho hbw
      go_wp2_with (go_at_call 36; ((with_reducible refine D2.out.mono ?_)); rintro e w2 ⟨rfl, v2, hv2, ho2, hb2⟩)
      have t2 := HT.out.step hz hv2 ho2 hb2
      clear hv2 ho2 hb2
      go_roundw
      case rel => exact ⟨M / 10, _, by congr 1, by omega, t2⟩
      case measure => simp [intOf]; omega
    · obtain rfl : M = 0 := by omega
      have hl := HT.out.2.2.1
      rw [dg_zero] at hl
      rw [hl] at T
      have hc := cell_of_one hv
      by_cases hn0 : n < 0
      · have F := Lib.hid (show textL n = 45 :: l by rw [T.out, if_pos hn0])
        have D2 := Lib.hid (put_any _ w.heap.size 45 45 rfl v l hv ho (by omega))
        have HB := Lib.hid hbw
        clear hv ho hbw hc hl T
        go_wp2_with (go_at_call 36; ((with_reducible refine D2.out.mono ?_)); rintro e w2 ⟨rfl, v2, hv2, ho2, hb2⟩; have hc2 := cell_of_one hv2; have hs := run_str w2 _ v2 (45 :: l) ho2 (by simp); have HB2 := Lib.hid (HB.out.trans hb2); clear hv2 ho2 hb2)
        go_ret
        exact ⟨by rw [F.out]; rfl, HB2.out⟩
      · have F := Lib.hid (show textL n = l by rw [T.out, if_neg hn0])
        have hne : l ≠ [] := by
          have := HT.out.2.2.2.2.2
          intro h; rw [h] at this; simp at this
        have hs := run_str _ _ v l ho hne
        have HB := Lib.hid hbw
        clear hv ho hbw hl T
        go_wp2
        go_ret
        exact ⟨by rw [F.out]; rfl, HB.out⟩
end Go.Proofs.Ytcbfognflngbaaa.Num
