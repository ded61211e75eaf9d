/- Contract of number.Do: the map of functions that the call makes, then the function that lies under the operator. -/
import Derived.Test.YtcbfognflngbaaaNumD
set_option linter.unusedVariables false
namespace Go.Proofs.Ytcbfognflngbaaa.Num
open Go.RowKit
theorem run_insert {P : Program} {T kt et : TypeId} (hT : P.underlying T = some (.map kt et)) (hk : P.underlying kt = some .string) (es : Array MapEntry) (clock : Nat) (key : ByteArray) (val : Value) (w : World)
    (hf : Instr.findNow .string (.string key) es.toList 0 = some none) :
    (Instr.mapUpdate T (.map (some w.heap.size)) (.string key) val).run P (w.alloc (.map es clock)) = .ok () (w.alloc (.map (es.push { key := .string key, val := val, born := clock }) (clock + 1))) := by
  have h1 : (w.alloc (.map es clock)).heap[w.heap.size]? = some (.map es clock) := MapKept.heap_alloc w _ |>.1
  have h2 : (w.heap.push (.map es clock)).setIfInBounds w.heap.size (.map (es.push { key := .string key, val := val, born := clock }) (clock + 1)) = w.heap.push (.map (es.push { key := .string key, val := val, born := clock }) (clock + 1)) := by
    apply Array.ext'
    simp
  have e0 : ∀ {t : TypeId} {d : TypeDesc} (h : P.underlying t = some d) (w : World), (underlying t).run P w = .ok d w := by
    intro t d h w; simp [underlying, go_sem, h]
  have e1 : ∀ w : World, (Instr.checkKey false 10000 kt (.string key)).run P w = .ok () w := by
    intro w
    unfold Instr.checkKey
    simp [go_sem, e0 hk]
  have e2 : ∀ w : World, (Instr.findKey kt (.string key) es.toList).run P w = .ok none w := by
    intro w
    unfold Instr.findKey
    simp [go_sem, e0 hk, hf]
  have e3 : (getObj w.heap.size).run P (w.alloc (.map es clock)) = .ok (.map es clock) (w.alloc (.map es clock)) := by
    unfold getObj
    simp only [Sem.run, h1]
  have e4 : ∀ o, (setObj w.heap.size o).run P (w.alloc (.map es clock)) = .ok () { (w.alloc (.map es clock)) with heap := (w.alloc (.map es clock)).heap.setIfInBounds w.heap.size o } := by
    intro o
    unfold setObj
    simp only [Sem.run, h1]
  unfold Instr.mapUpdate
  have e5 : ({ (w.alloc (.map es clock)) with heap := (w.alloc (.map es clock)).heap.setIfInBounds w.heap.size (.map (es.push { key := .string key, val := val, born := clock }) (clock + 1)) } : World) = w.alloc (.map (es.push { key := .string key, val := val, born := clock }) (clock + 1)) := (congrArg (fun h => ({ w with heap := h } : World)) h2)
  simp [go_sem, e0 hT, e1, e2, e3, e4]
  exact e5

theorem run_lookup_ok {P : Program} {T kt et : TypeId} (hT : P.underlying T = some (.map kt et)) (hk : P.underlying kt = some .string) (es : Array MapEntry) (clock : Nat) (key : ByteArray) (i : Nat) (v : Value) (w : World)
    (hf : Instr.findNow .string (.string key) es.toList 0 = some (some (i, v))) :
    (Instr.lookup T (.map (some w.heap.size)) (.string key) true).run P (w.alloc (.map es clock)) = .ok (.tuple #[v, .bool true]) (w.alloc (.map es clock)) := by
  have h1 : (w.alloc (.map es clock)).heap[w.heap.size]? = some (.map es clock) := MapKept.heap_alloc w _ |>.1
  have e0 : ∀ {t : TypeId} {d : TypeDesc} (h : P.underlying t = some d) (w : World), (underlying t).run P w = .ok d w := by
    intro t d h w; simp [underlying, go_sem, h]
  have e1 : ∀ (b : Bool) (w : World), (Instr.checkKey b 10000 kt (.string key)).run P w = .ok () w := by
    intro b w
    unfold Instr.checkKey
    simp [go_sem, e0 hk]
  have e2 : ∀ w : World, (Instr.findKey kt (.string key) es.toList).run P w = .ok (some (i, v)) w := by
    intro w
    unfold Instr.findKey
    simp [go_sem, e0 hk, hf]
  have e3 : (getObj w.heap.size).run P (w.alloc (.map es clock)) = .ok (.map es clock) (w.alloc (.map es clock)) := by
    unfold getObj
    simp only [Sem.run, h1]
  unfold Instr.lookup
  simp [go_sem, e0 hT, e1, e2, e3]

theorem run_lookup_no {P : Program} {T kt et : TypeId} (hT : P.underlying T = some (.map kt et)) (hk : P.underlying kt = some .string) (es : Array MapEntry) (clock : Nat) (key : ByteArray) (z : Value) (w : World)
    (hz : ∀ w, (zeroValue et).run P w = .ok z w) (hf : Instr.findNow .string (.string key) es.toList 0 = some none) :
    (Instr.lookup T (.map (some w.heap.size)) (.string key) true).run P (w.alloc (.map es clock)) = .ok (.tuple #[z, .bool false]) (w.alloc (.map es clock)) := by
  have h1 : (w.alloc (.map es clock)).heap[w.heap.size]? = some (.map es clock) := MapKept.heap_alloc w _ |>.1
  have e0 : ∀ {t : TypeId} {d : TypeDesc} (h : P.underlying t = some d) (w : World), (underlying t).run P w = .ok d w := by
    intro t d h w; simp [underlying, go_sem, h]
  have e1 : ∀ (b : Bool) (w : World), (Instr.checkKey b 10000 kt (.string key)).run P w = .ok () w := by
    intro b w
    unfold Instr.checkKey
    simp [go_sem, e0 hk]
  have e2 : ∀ w : World, (Instr.findKey kt (.string key) es.toList).run P w = .ok none w := by
    intro w
    unfold Instr.findKey
    simp [go_sem, e0 hk, hf]
  have e3 : (getObj w.heap.size).run P (w.alloc (.map es clock)) = .ok (.map es clock) (w.alloc (.map es clock)) := by
    unfold getObj
    simp only [Sem.run, h1]
  unfold Instr.lookup
  simp [go_sem, e0 hT, e1, e2, e3, hz]


def entList : List MapEntry := [{ key := .string ⟨#[43]⟩, val := .func (.func 25) #[] #[], born := 0 }, { key := .string ⟨#[45]⟩, val := .func (.func 26) #[] #[], born := 1 }, { key := .string ⟨#[42]⟩, val := .func (.func 27) #[] #[], born := 2 }, { key := .string ⟨#[47, 47]⟩, val := .func (.func 28) #[] #[], born := 3 }, { key := .string ⟨#[37]⟩, val := .func (.func 29) #[] #[], born := 4 }, { key := .string ⟨#[42, 42]⟩, val := .func (.func 30) #[] #[], born := 5 }]
def ents (k : Nat) : Array MapEntry := (entList.take k).toArray
theorem ins1 (w : World) : (Instr.mapUpdate 42 (.map (some w.heap.size)) (.string ⟨#[43]⟩) (.func (.func 25) #[] #[])).run Try.prog (w.alloc (.map #[] 0)) = .ok () (w.alloc (.map (ents 1) 1)) :=
  run_insert Try.underlying42 Try.underlying9 #[] 0 ⟨#[43]⟩ (.func (.func 25) #[] #[]) w (by rfl)
theorem ins2 (w : World) : (Instr.mapUpdate 42 (.map (some w.heap.size)) (.string ⟨#[45]⟩) (.func (.func 26) #[] #[])).run Try.prog (w.alloc (.map (ents 1) 1)) = .ok () (w.alloc (.map (ents 2) 2)) :=
  run_insert Try.underlying42 Try.underlying9 (ents 1) 1 ⟨#[45]⟩ (.func (.func 26) #[] #[]) w (by rfl)
theorem ins3 (w : World) : (Instr.mapUpdate 42 (.map (some w.heap.size)) (.string ⟨#[42]⟩) (.func (.func 27) #[] #[])).run Try.prog (w.alloc (.map (ents 2) 2)) = .ok () (w.alloc (.map (ents 3) 3)) :=
  run_insert Try.underlying42 Try.underlying9 (ents 2) 2 ⟨#[42]⟩ (.func (.func 27) #[] #[]) w (by rfl)
theorem ins4 (w : World) : (Instr.mapUpdate 42 (.map (some w.heap.size)) (.string ⟨#[47, 47]⟩) (.func (.func 28) #[] #[])).run Try.prog (w.alloc (.map (ents 3) 3)) = .ok () (w.alloc (.map (ents 4) 4)) :=
  run_insert Try.underlying42 Try.underlying9 (ents 3) 3 ⟨#[47, 47]⟩ (.func (.func 28) #[] #[]) w (by rfl)
theorem ins5 (w : World) : (Instr.mapUpdate 42 (.map (some w.heap.size)) (.string ⟨#[37]⟩) (.func (.func 29) #[] #[])).run Try.prog (w.alloc (.map (ents 4) 4)) = .ok () (w.alloc (.map (ents 5) 5)) :=
  run_insert Try.underlying42 Try.underlying9 (ents 4) 4 ⟨#[37]⟩ (.func (.func 29) #[] #[]) w (by rfl)
theorem ins6 (w : World) : (Instr.mapUpdate 42 (.map (some w.heap.size)) (.string ⟨#[42, 42]⟩) (.func (.func 30) #[] #[])).run Try.prog (w.alloc (.map (ents 5) 5)) = .ok () (w.alloc (.map (ents 6) 6)) :=
  run_insert Try.underlying42 Try.underlying9 (ents 5) 5 ⟨#[42, 42]⟩ (.func (.func 30) #[] #[]) w (by rfl)
theorem look1 (w : World) : (Instr.lookup 42 (.map (some w.heap.size)) (.string ⟨#[43]⟩) true).run Try.prog (w.alloc (.map (ents 6) 6)) = .ok (.tuple #[.func (.func 25) #[] #[], .bool true]) (w.alloc (.map (ents 6) 6)) :=
  run_lookup_ok Try.underlying42 Try.underlying9 (ents 6) 6 ⟨#[43]⟩ 0 _ w (by rfl)
theorem look2 (w : World) : (Instr.lookup 42 (.map (some w.heap.size)) (.string ⟨#[45]⟩) true).run Try.prog (w.alloc (.map (ents 6) 6)) = .ok (.tuple #[.func (.func 26) #[] #[], .bool true]) (w.alloc (.map (ents 6) 6)) :=
  run_lookup_ok Try.underlying42 Try.underlying9 (ents 6) 6 ⟨#[45]⟩ 1 _ w (by rfl)
theorem look3 (w : World) : (Instr.lookup 42 (.map (some w.heap.size)) (.string ⟨#[42]⟩) true).run Try.prog (w.alloc (.map (ents 6) 6)) = .ok (.tuple #[.func (.func 27) #[] #[], .bool true]) (w.alloc (.map (ents 6) 6)) :=
  run_lookup_ok Try.underlying42 Try.underlying9 (ents 6) 6 ⟨#[42]⟩ 2 _ w (by rfl)
theorem look4 (w : World) : (Instr.lookup 42 (.map (some w.heap.size)) (.string ⟨#[47, 47]⟩) true).run Try.prog (w.alloc (.map (ents 6) 6)) = .ok (.tuple #[.func (.func 28) #[] #[], .bool true]) (w.alloc (.map (ents 6) 6)) :=
  run_lookup_ok Try.underlying42 Try.underlying9 (ents 6) 6 ⟨#[47, 47]⟩ 3 _ w (by rfl)
theorem look5 (w : World) : (Instr.lookup 42 (.map (some w.heap.size)) (.string ⟨#[37]⟩) true).run Try.prog (w.alloc (.map (ents 6) 6)) = .ok (.tuple #[.func (.func 29) #[] #[], .bool true]) (w.alloc (.map (ents 6) 6)) :=
  run_lookup_ok Try.underlying42 Try.underlying9 (ents 6) 6 ⟨#[37]⟩ 4 _ w (by rfl)
theorem look6 (w : World) : (Instr.lookup 42 (.map (some w.heap.size)) (.string ⟨#[42, 42]⟩) true).run Try.prog (w.alloc (.map (ents 6) 6)) = .ok (.tuple #[.func (.func 30) #[] #[], .bool true]) (w.alloc (.map (ents 6) 6)) :=
  run_lookup_ok Try.underlying42 Try.underlying9 (ents 6) 6 ⟨#[42, 42]⟩ 5 _ w (by rfl)

/-- Nothing that was there has turned. -/
def Bl (w w' : World) : Prop := Below w.heap.size w w'
theorem Bl.refl (w : World) : Bl w w := Below.refl _ _
theorem Bl.trans {a b c : World} (h : Bl a b) (k : Bl b c) : Bl a c := Below.trans h (Below.mono k (Below.size h))
theorem Bl.map (w : World) (es : Array MapEntry) (c : Nat) : Bl w (w.alloc (.map es c)) := (Below.refl _ _).alloc (Nat.le_refl _) _
theorem Bl.mapN (w : World) (es : Array MapEntry) (c n : Nat) : Bl w ((w.alloc (.map es c)).drewN n) :=
  have h := Bl.map w es c
  ⟨h.os, h.tape, h.output, h.size, h.block⟩

theorem do_add (a b : Int) (w : World) (ha : Fits a) (hb : Fits b) :
    Calls Try.prog 15 #[.string ⟨#[43]⟩, .int .i64 a, .int .i64 b] w fun e w' => e = two (chk (a + b)).1 (chk (a + b)).2 ∧ Bl w w' := by
  have hmm := @run_makeMap Try.prog
  have m1 := ins1 w; have m2 := ins2 w; have m3 := ins3 w; have m4 := ins4 w; have m5 := ins5 w; have m6 := ins6 w
  have l := look1 w
  have C := fun w => add_any a b w ha hb
  generalize chk (a + b) = p at *
  obtain ⟨x, s⟩ := p
  clear ha hb
  go_enter Try.func15, Try.ntmps15
  go_wp2_with (go_at_call 25; ((with_reducible refine (C _).mono ?_)); rintro e w' ⟨rfl, rfl⟩)
  go_ret2
  exact ⟨rfl, Bl.map _ _ _⟩

theorem do_sub (a b : Int) (w : World) (ha : Fits a) (hb : Fits b) :
    Calls Try.prog 15 #[.string ⟨#[45]⟩, .int .i64 a, .int .i64 b] w fun e w' => e = two (chk (a - b)).1 (chk (a - b)).2 ∧ Bl w w' := by
  have hmm := @run_makeMap Try.prog
  have m1 := ins1 w; have m2 := ins2 w; have m3 := ins3 w; have m4 := ins4 w; have m5 := ins5 w; have m6 := ins6 w
  have l := look2 w
  have C := fun w => sub_any a b w ha hb
  generalize chk (a - b) = p at *
  obtain ⟨x, s⟩ := p
  clear ha hb
  go_enter Try.func15, Try.ntmps15
  go_wp2_with (go_at_call 26; ((with_reducible refine (C _).mono ?_)); rintro e w' ⟨rfl, rfl⟩)
  go_ret2
  exact ⟨rfl, Bl.map _ _ _⟩

theorem do_mul (a b : Int) (w : World) (ha : Fits a) (hb : Fits b) :
    Calls Try.prog 15 #[.string ⟨#[42]⟩, .int .i64 a, .int .i64 b] w fun e w' => e = two (chk (a * b)).1 (chk (a * b)).2 ∧ Bl w w' := by
  have hmm := @run_makeMap Try.prog
  have m1 := ins1 w; have m2 := ins2 w; have m3 := ins3 w; have m4 := ins4 w; have m5 := ins5 w; have m6 := ins6 w
  have l := look3 w
  have C := fun w => mul_any a b w ha hb
  generalize chk (a * b) = p at *
  obtain ⟨x, s⟩ := p
  clear ha hb
  go_enter Try.func15, Try.ntmps15
  go_wp2_with (go_at_call 27; ((with_reducible refine (C _).mono ?_)); rintro e w' ⟨rfl, rfl⟩)
  go_ret2
  exact ⟨rfl, Bl.map _ _ _⟩

theorem do_div (a b : Int) (w : World) (ha : Fits a) (hb : Fits b) :
    Calls Try.prog 15 #[.string ⟨#[47, 47]⟩, .int .i64 a, .int .i64 b] w fun e w' => e = two (divS a b).1 (divS a b).2 ∧ Bl w w' := by
  have hmm := @run_makeMap Try.prog
  have m1 := ins1 w; have m2 := ins2 w; have m3 := ins3 w; have m4 := ins4 w; have m5 := ins5 w; have m6 := ins6 w
  have l := look4 w
  have C := fun w => div_any a b w ha hb
  generalize divS a b = p at *
  obtain ⟨x, s⟩ := p
  clear ha hb
  go_enter Try.func15, Try.ntmps15
  go_wp2_with (go_at_call 28; ((with_reducible refine (C _).mono ?_)); rintro e w' ⟨rfl, n, rfl⟩)
  go_ret2
  exact ⟨rfl, Bl.mapN _ _ _ _⟩

theorem do_mod (a b : Int) (w : World) (ha : Fits a) (hb : Fits b) :
    Calls Try.prog 15 #[.string ⟨#[37]⟩, .int .i64 a, .int .i64 b] w fun e w' => e = two (modS a b).1 (modS a b).2 ∧ Bl w w' := by
  have hmm := @run_makeMap Try.prog
  have m1 := ins1 w; have m2 := ins2 w; have m3 := ins3 w; have m4 := ins4 w; have m5 := ins5 w; have m6 := ins6 w
  have l := look5 w
  have C := fun w => mod_any a b w ha hb
  generalize modS a b = p at *
  obtain ⟨x, s⟩ := p
  clear ha hb
  go_enter Try.func15, Try.ntmps15
  go_wp2_with (go_at_call 29; ((with_reducible refine (C _).mono ?_)); rintro e w' ⟨rfl, n, rfl⟩)
  go_ret2
  exact ⟨rfl, Bl.mapN _ _ _ _⟩

theorem do_pow (a b : Int) (w : World) (ha : Fits a) (hb : Fits b) :
    Calls Try.prog 15 #[.string ⟨#[42, 42]⟩, .int .i64 a, .int .i64 b] w fun e w' => e = two (powS a b).1 (powS a b).2 ∧ Bl w w' := by
  have hmm := @run_makeMap Try.prog
  have m1 := ins1 w; have m2 := ins2 w; have m3 := ins3 w; have m4 := ins4 w; have m5 := ins5 w; have m6 := ins6 w
  have l := look6 w
  have C := fun w => pow_any a b w ha hb
  generalize powS a b = p at *
  obtain ⟨x, s⟩ := p
  clear ha hb
  go_enter Try.func15, Try.ntmps15
  go_wp2_with (go_at_call 30; ((with_reducible refine (C _).mono ?_)); rintro e w' ⟨rfl, rfl⟩)
  go_ret2
  exact ⟨rfl, Bl.map _ _ _⟩

theorem zero41 (w : World) : (zeroValue 41).run Try.prog w = .ok .nilFunc w := by kernel_rfl
theorem do_else (op : ByteArray) (a b : Int) (w : World) (h1 : (op == ⟨#[43]⟩) = false) (h2 : (op == ⟨#[45]⟩) = false) (h3 : (op == ⟨#[42]⟩) = false) (h4 : (op == ⟨#[47, 47]⟩) = false) (h5 : (op == ⟨#[37]⟩) = false) (h6 : (op == ⟨#[42, 42]⟩) = false) :
    Calls Try.prog 15 #[.string op, .int .i64 a, .int .i64 b] w fun e w' => e = two 0 eType ∧ Bl w w' := by
  have hmm := @run_makeMap Try.prog
  have m1 := ins1 w; have m2 := ins2 w; have m3 := ins3 w; have m4 := ins4 w; have m5 := ins5 w; have m6 := ins6 w
  have l := run_lookup_no Try.underlying42 Try.underlying9 (ents 6) 6 op .nilFunc w zero41 (by simp [ents, entList, Instr.findNow, Instr.sameNow, h1, h2, h3, h4, h5, h6])
  clear h1 h2 h3 h4 h5 h6
  go_enter Try.func15, Try.ntmps15
  go_wp2
  go_ret2
  exact ⟨rfl, Bl.map _ _ _⟩
end Go.Proofs.Ytcbfognflngbaaa.Num
