/- RowV -/
import Derived.Test.YtebdknkgplonmaaGreatDoorPart27
import Derived.ChangeSame
import Derived.ChangeMaps5
set_option linter.unusedVariables false
set_option linter.unusedSimpArgs false
namespace Go.Proofs.YtebdknkgplonmaaGreatDoor.R
section
set_option maxRecDepth 100000
open Go Go.ChangeShapes Go.WideShapes Go.ChangeAt Go.RowKit
section
variable {H : Type} {enc : TypeId × Value → H} {w : World} {base : Nat} {sp : Nat → Bool} {held : Bool} {r : Reach} {b0 : Nat}
def litV (k n : Int) (s : ByteArray) : DataW H := .agg [.lit (.int .i64 k), .lit (.int .i64 n), .lit (.string s.data.toList)]
theorem list3 {α : Type} : ∀ {l : List α}, l.length = 3 → ∃ a b c, l = [a, b, c]
 | [a, b, c], _ => ⟨a, b, c, rfl⟩
theorem open_V {v : Value} {d : DataW H} {ps : List MemPlace} (hval : Value.okWide Tryz.prog w r b0 27 v) (hd : DataW.Trod enc Tryz.prog w base sp held 27 v d ps) :
  ∃ (k n : Int) (s : ByteArray), v = .agg #[.int .i64 k, .int .i64 n, .string s] ∧ d = litV k n s ∧ ps = [] ∧ (Lit.int .i64 k).wf = true ∧ (Lit.int .i64 n).wf = true ∧ s.size ≤ maxLen := by
 obtain ⟨cs, rfl, hsz⟩ := okWide_struct Tryz.underlying27 hval
 obtain ⟨fuel, hd⟩ := hd
 obtain ⟨xs, n, rfl, hx, hl, hlen, hf⟩ := DataW.trod_struct Tryz.underlying27 hd
 have hl3 : (Value.agg cs).cells.toList.length = 3 := hl.trans (by kernel_rfl)
 obtain ⟨c0, c1, c2, hc⟩ := list3 hl3
 obtain ⟨y0, y1, y2, rfl⟩ := list3 (hlen.trans rfl)
 have h0 := hf 0 _ rfl
 have h1 := hf 1 _ rfl
 have h2 := hf 2 _ rfl
 rw [hc] at h0 h1 h2
 have s1 : Tryz.prog.cellsOf 3 = 1 := by kernel_rfl
 have s2 : Tryz.prog.cellsOf 2 = 1 := by kernel_rfl
 have s3 : Tryz.prog.cellsOf 9 = 1 := by kernel_rfl
 obtain ⟨k, e0, z0, w0⟩ := DataW.trod_int Tryz.underlying3 h0
 obtain ⟨m, e1, z1, w1⟩ := DataW.trod_int Tryz.underlying2 h1
 obtain ⟨s, e2, z2, w2⟩ := DataW.trod_string Tryz.underlying9 h2
 have q0 : c0 = .int .i64 k := by simpa [s1] using e0
 have q1 : c1 = .int .i64 m := by simpa [s2] using e1
 have q2 : c2 = .string s := by simpa [s3] using e2
 injection hx with hx1 hx2
 refine ⟨k, m, s, ?_, ?_, ?_, w0, w1, w2⟩
 ·have : cs = #[c0, c1, c2] := by apply Array.ext'; exact hc
  rw [this, q0, q1, q2]
 ·rw [hx1, z0, z1, z2]; rfl
 ·rw [hx2, z0, z1, z2]; rfl
theorem shut_V {k n : Int} {s : ByteArray} (w0 : (Lit.int .i64 k).wf = true) (w1 : (Lit.int .i64 n).wf = true) (w2 : s.size ≤ maxLen) :
  DataW.Trod enc Tryz.prog w base sp held 27 (.agg #[.int .i64 k, .int .i64 n, .string s]) (litV k n s) [] := by
 refine ⟨2, ?_⟩
 have hs : DataW.trod enc Tryz.prog w base sp held 1 9 [.string s] = some (.lit (.string s.data.toList), []) := by simp [DataW.trod, Tryz.underlying9, w2]
 have := trod_struct_mk (enc := enc) (w := w) (base := base) (spare := sp) (held := held) (n := 1) (cs := [.int .i64 k, .int .i64 n, .string s])
  (xs := [(.lit (.int .i64 k), []), (.lit (.int .i64 n), []), (.lit (.string s.data.toList), [])]) Tryz.underlying27 (by kernel_rfl) (by
   have c1 : Tryz.prog.cellsOf 3 = 1 := by kernel_rfl
   have c2 : Tryz.prog.cellsOf 2 = 1 := by kernel_rfl
   have c3 : Tryz.prog.cellsOf 9 = 1 := by kernel_rfl
   simp [c1, c2, c3, trod_int_mk 0 Tryz.underlying3 w0, trod_int_mk 0 Tryz.underlying2 w1, hs])
 exact this
end
end
end Go.Proofs.YtebdknkgplonmaaGreatDoor.R
