/-
  No cell of these rows narrows 'for every input' (looked for: loops, veiled, ifaces, maps, wideKeys, modest, calm, conditions, laid).
  DERIVED. THE GIVEN ROWS OF THIS SEAT. 11 by the template 'for every input the law returns true; each argument reads behind the call as it read before'; 0 by the template 'total and deterministic' (their statements: YtcbfognflngbaaaTotals.lean).
  GIVEN WITH THE SEED: the statements are not yours to turn. If you find one false, say at which input.
  Laid BY PROGRAM, IN A SANDBOX (cutbox-rows.mjs): the forced cells as the released guide's own fill.sh prints them over the translation c9568737701128c5… (all of the seat's roots in one cut). By AI agents, Wed Nov 11 2026. No macro, syntax, notation, axiom, sorry.
-/
import Derived.Test.YtcbfognflngbaaaChecked
import GoSem.Claim
import GoSem.ClaimJoined
import GoSem.ClaimMapViews
import Derived.JoinedTies
import Derived.KernelRfl
namespace Go.Proofs.Ytcbfognflngbaaa
/- THE CELL 'sum', in the pinned program and in every row, IS THE sha256 OF THE DUMP (.gsa) THAT YtcbfognflngbaaaProg.lean LOADS. Nothing in Lean hashes anything: it is a label: what it is worth is what the hold of that sum in a sandbox is worth. -/
noncomputable def Try.pinned : Pinned := { name := "ytcbfognflngbaaa", sum := "c9568737701128c5374d044da48aa1957552fdff8c6434c1f8c60b266e766e51", checked := Try.checked }
namespace Rows
def none {H : Type} : Left H := { results := [], args := [] }

/-- 'kraitlaw08.NumberTells': WHATEVER THE INPUT: true; the input reads as it did. -/
def numberTellsSpec : ChangeSpec := { name := "numberTells", fn := fun _ => fun
  | [d1, d2, d3] => { results := [.lit (.bool true)], args := [d1, d2, d3] }
  | _ => none }
def numberTellsRow : OpenClaim := { program := "ytcbfognflngbaaa", sum := "c9568737701128c5374d044da48aa1957552fdff8c6434c1f8c60b266e766e51", func := "krait/kraitlaw08.NumberTells", spec := "numberTells", unfollowed := true, recurses := true, apart := false }
def NumberTellsSaid : Prop := numberTellsRow.holds Try.pinned (OpenSpec.ofChange numberTellsSpec)

/-- ITS FALSE NEIGHBOUR: 'it returns false'. Refute it at one input. -/
def numberTellsWrong : ChangeSpec := { name := "numberTells", fn := fun _ => fun
  | [d1, d2, d3] => { results := [.lit (.bool false)], args := [d1, d2, d3] }
  | _ => none }
def NumberTellsWrongFalsely : Prop := numberTellsRow.holds Try.pinned (OpenSpec.ofChange numberTellsWrong)

/-- 'kraitlaw08.NumberParses': WHATEVER THE INPUT: true; the input reads as it did. -/
def numberParsesSpec : ChangeSpec := { name := "numberParses", fn := fun _ => fun
  | [d] => { results := [.lit (.bool true)], args := [d] }
  | _ => none }
def numberParsesRow : OpenClaim := { program := "ytcbfognflngbaaa", sum := "c9568737701128c5374d044da48aa1957552fdff8c6434c1f8c60b266e766e51", func := "krait/kraitlaw08.NumberParses", spec := "numberParses", unfollowed := true, recurses := true, apart := false }
def NumberParsesSaid : Prop := numberParsesRow.holds Try.pinned (OpenSpec.ofChange numberParsesSpec)

/-- ITS FALSE NEIGHBOUR: 'it returns false'. Refute it at one input. -/
def numberParsesWrong : ChangeSpec := { name := "numberParses", fn := fun _ => fun
  | [d] => { results := [.lit (.bool false)], args := [d] }
  | _ => none }
def NumberParsesWrongFalsely : Prop := numberParsesRow.holds Try.pinned (OpenSpec.ofChange numberParsesWrong)

/-- 'kraitlaw08.NumberBack': WHATEVER THE INPUT: true; the input reads as it did. -/
def numberBackSpec : ChangeSpec := { name := "numberBack", fn := fun _ => fun
  | [d1, d2, d3] => { results := [.lit (.bool true)], args := [d1, d2, d3] }
  | _ => none }
def numberBackRow : OpenClaim := { program := "ytcbfognflngbaaa", sum := "c9568737701128c5374d044da48aa1957552fdff8c6434c1f8c60b266e766e51", func := "krait/kraitlaw08.NumberBack", spec := "numberBack", unfollowed := true, recurses := true, apart := false }
def NumberBackSaid : Prop := numberBackRow.holds Try.pinned (OpenSpec.ofChange numberBackSpec)

/-- ITS FALSE NEIGHBOUR: 'it returns false'. Refute it at one input. -/
def numberBackWrong : ChangeSpec := { name := "numberBack", fn := fun _ => fun
  | [d1, d2, d3] => { results := [.lit (.bool false)], args := [d1, d2, d3] }
  | _ => none }
def NumberBackWrongFalsely : Prop := numberBackRow.holds Try.pinned (OpenSpec.ofChange numberBackWrong)

/-- 'kraitlaw08.NumberParts': WHATEVER THE INPUT: true; the input reads as it did. -/
def numberPartsSpec : ChangeSpec := { name := "numberParts", fn := fun _ => fun
  | [d1, d2] => { results := [.lit (.bool true)], args := [d1, d2] }
  | _ => none }
def numberPartsRow : OpenClaim := { program := "ytcbfognflngbaaa", sum := "c9568737701128c5374d044da48aa1957552fdff8c6434c1f8c60b266e766e51", func := "krait/kraitlaw08.NumberParts", spec := "numberParts", unfollowed := true, recurses := true, apart := false }
def NumberPartsSaid : Prop := numberPartsRow.holds Try.pinned (OpenSpec.ofChange numberPartsSpec)

/-- ITS FALSE NEIGHBOUR: 'it returns false'. Refute it at one input. -/
def numberPartsWrong : ChangeSpec := { name := "numberParts", fn := fun _ => fun
  | [d1, d2] => { results := [.lit (.bool false)], args := [d1, d2] }
  | _ => none }
def NumberPartsWrongFalsely : Prop := numberPartsRow.holds Try.pinned (OpenSpec.ofChange numberPartsWrong)

/-- 'kraitlaw08.NumberSums': WHATEVER THE INPUT: true; the input reads as it did. -/
def numberSumsSpec : ChangeSpec := { name := "numberSums", fn := fun _ => fun
  | [d1, d2] => { results := [.lit (.bool true)], args := [d1, d2] }
  | _ => none }
def numberSumsRow : OpenClaim := { program := "ytcbfognflngbaaa", sum := "c9568737701128c5374d044da48aa1957552fdff8c6434c1f8c60b266e766e51", func := "krait/kraitlaw08.NumberSums", spec := "numberSums", unfollowed := true, recurses := true, apart := false }
def NumberSumsSaid : Prop := numberSumsRow.holds Try.pinned (OpenSpec.ofChange numberSumsSpec)

/-- ITS FALSE NEIGHBOUR: 'it returns false'. Refute it at one input. -/
def numberSumsWrong : ChangeSpec := { name := "numberSums", fn := fun _ => fun
  | [d1, d2] => { results := [.lit (.bool false)], args := [d1, d2] }
  | _ => none }
def NumberSumsWrongFalsely : Prop := numberSumsRow.holds Try.pinned (OpenSpec.ofChange numberSumsWrong)

/-- 'kraitlaw08.NumberProducts': WHATEVER THE INPUT: true; the input reads as it did. -/
def numberProductsSpec : ChangeSpec := { name := "numberProducts", fn := fun _ => fun
  | [d1, d2] => { results := [.lit (.bool true)], args := [d1, d2] }
  | _ => none }
def numberProductsRow : OpenClaim := { program := "ytcbfognflngbaaa", sum := "c9568737701128c5374d044da48aa1957552fdff8c6434c1f8c60b266e766e51", func := "krait/kraitlaw08.NumberProducts", spec := "numberProducts", unfollowed := true, recurses := true, apart := false }
def NumberProductsSaid : Prop := numberProductsRow.holds Try.pinned (OpenSpec.ofChange numberProductsSpec)

/-- ITS FALSE NEIGHBOUR: 'it returns false'. Refute it at one input. -/
def numberProductsWrong : ChangeSpec := { name := "numberProducts", fn := fun _ => fun
  | [d1, d2] => { results := [.lit (.bool false)], args := [d1, d2] }
  | _ => none }
def NumberProductsWrongFalsely : Prop := numberProductsRow.holds Try.pinned (OpenSpec.ofChange numberProductsWrong)

/-- 'kraitlaw08.NumberRings': WHATEVER THE INPUT: true; the input reads as it did. -/
def numberRingsSpec : ChangeSpec := { name := "numberRings", fn := fun _ => fun
  | [d1, d2, d3] => { results := [.lit (.bool true)], args := [d1, d2, d3] }
  | _ => none }
def numberRingsRow : OpenClaim := { program := "ytcbfognflngbaaa", sum := "c9568737701128c5374d044da48aa1957552fdff8c6434c1f8c60b266e766e51", func := "krait/kraitlaw08.NumberRings", spec := "numberRings", unfollowed := true, recurses := true, apart := false }
def NumberRingsSaid : Prop := numberRingsRow.holds Try.pinned (OpenSpec.ofChange numberRingsSpec)

/-- ITS FALSE NEIGHBOUR: 'it returns false'. Refute it at one input. -/
def numberRingsWrong : ChangeSpec := { name := "numberRings", fn := fun _ => fun
  | [d1, d2, d3] => { results := [.lit (.bool false)], args := [d1, d2, d3] }
  | _ => none }
def NumberRingsWrongFalsely : Prop := numberRingsRow.holds Try.pinned (OpenSpec.ofChange numberRingsWrong)

/-- 'kraitlaw08.NumberPowers': WHATEVER THE INPUT: true; the input reads as it did. -/
def numberPowersSpec : ChangeSpec := { name := "numberPowers", fn := fun _ => fun
  | [d1, d2] => { results := [.lit (.bool true)], args := [d1, d2] }
  | _ => none }
def numberPowersRow : OpenClaim := { program := "ytcbfognflngbaaa", sum := "c9568737701128c5374d044da48aa1957552fdff8c6434c1f8c60b266e766e51", func := "krait/kraitlaw08.NumberPowers", spec := "numberPowers", unfollowed := true, recurses := true, apart := false }
def NumberPowersSaid : Prop := numberPowersRow.holds Try.pinned (OpenSpec.ofChange numberPowersSpec)

/-- ITS FALSE NEIGHBOUR: 'it returns false'. Refute it at one input. -/
def numberPowersWrong : ChangeSpec := { name := "numberPowers", fn := fun _ => fun
  | [d1, d2] => { results := [.lit (.bool false)], args := [d1, d2] }
  | _ => none }
def NumberPowersWrongFalsely : Prop := numberPowersRow.holds Try.pinned (OpenSpec.ofChange numberPowersWrong)

/-- 'kraitlaw08.NumberFar': WHATEVER THE INPUT: true; the input reads as it did. -/
def numberFarSpec : ChangeSpec := { name := "numberFar", fn := fun _ => fun
  | [d1, d2] => { results := [.lit (.bool true)], args := [d1, d2] }
  | _ => none }
def numberFarRow : OpenClaim := { program := "ytcbfognflngbaaa", sum := "c9568737701128c5374d044da48aa1957552fdff8c6434c1f8c60b266e766e51", func := "krait/kraitlaw08.NumberFar", spec := "numberFar", unfollowed := true, recurses := true, apart := false }
def NumberFarSaid : Prop := numberFarRow.holds Try.pinned (OpenSpec.ofChange numberFarSpec)

/-- ITS FALSE NEIGHBOUR: 'it returns false'. Refute it at one input. -/
def numberFarWrong : ChangeSpec := { name := "numberFar", fn := fun _ => fun
  | [d1, d2] => { results := [.lit (.bool false)], args := [d1, d2] }
  | _ => none }
def NumberFarWrongFalsely : Prop := numberFarRow.holds Try.pinned (OpenSpec.ofChange numberFarWrong)

/-- 'kraitlaw08.NumberOrder': WHATEVER THE INPUT: true; the input reads as it did. -/
def numberOrderSpec : ChangeSpec := { name := "numberOrder", fn := fun _ => fun
  | [d1, d2, d3] => { results := [.lit (.bool true)], args := [d1, d2, d3] }
  | _ => none }
def numberOrderRow : OpenClaim := { program := "ytcbfognflngbaaa", sum := "c9568737701128c5374d044da48aa1957552fdff8c6434c1f8c60b266e766e51", func := "krait/kraitlaw08.NumberOrder", spec := "numberOrder", unfollowed := true, recurses := true, apart := false }
def NumberOrderSaid : Prop := numberOrderRow.holds Try.pinned (OpenSpec.ofChange numberOrderSpec)

/-- ITS FALSE NEIGHBOUR: 'it returns false'. Refute it at one input. -/
def numberOrderWrong : ChangeSpec := { name := "numberOrder", fn := fun _ => fun
  | [d1, d2, d3] => { results := [.lit (.bool false)], args := [d1, d2, d3] }
  | _ => none }
def NumberOrderWrongFalsely : Prop := numberOrderRow.holds Try.pinned (OpenSpec.ofChange numberOrderWrong)

/-- 'kraitlaw08.NumberTexts': WHATEVER THE INPUT: true; the input reads as it did. -/
def numberTextsSpec : ChangeSpec := { name := "numberTexts", fn := fun _ => fun
  | [d] => { results := [.lit (.bool true)], args := [d] }
  | _ => none }
def numberTextsRow : OpenClaim := { program := "ytcbfognflngbaaa", sum := "c9568737701128c5374d044da48aa1957552fdff8c6434c1f8c60b266e766e51", func := "krait/kraitlaw08.NumberTexts", spec := "numberTexts", unfollowed := true, recurses := true, apart := false }
def NumberTextsSaid : Prop := numberTextsRow.holds Try.pinned (OpenSpec.ofChange numberTextsSpec)

/-- ITS FALSE NEIGHBOUR: 'it returns false'. Refute it at one input. -/
def numberTextsWrong : ChangeSpec := { name := "numberTexts", fn := fun _ => fun
  | [d] => { results := [.lit (.bool false)], args := [d] }
  | _ => none }
def NumberTextsWrongFalsely : Prop := numberTextsRow.holds Try.pinned (OpenSpec.ofChange numberTextsWrong)

/- THE SECOND FORM. 'bulk': how many values and letters a reading holds, each counted each time it is reached (what is shared counts as often as it is met; a slice's spare places count too). A statement '..UptoSaid' is the law's where the arguments, and the package variables that the reading takes, are together of bulk at most 1048576: NARROWER than '..Said'. Prove '..Said' where nothing that the law and all that it calls make is longer than what came in: it says more and counts as full. Else prove '..UptoSaid'. A law counts once. -/
mutual
def uptoBulk {H : Type} : DataW H → Nat
  | .lit (.string bytes) => bytes.length + 1
  | .lit _ => 1
  | .nil => 1
  | .ptr d => uptoBulk d + 1
  | .slice elems spare => uptoBulkAll elems + uptoBulkAll spare + 1
  | .agg parts => uptoBulkAll parts + 1
  | .iface _ d => uptoBulk d + 1
  | .map entries => uptoBulkEntries entries + 1
  | .held _ => 1
def uptoBulkAll {H : Type} : List (DataW H) → Nat
  | [] => 0
  | d :: r => uptoBulk d + uptoBulkAll r
def uptoBulkEntries {H : Type} : List (Lit × DataW H) → Nat
  | [] => 0
  | x :: r => uptoBulkEntry x + uptoBulkEntries r
def uptoBulkEntry {H : Type} : Lit × DataW H → Nat
  | (.string bytes, d) => bytes.length + uptoBulk d + 1
  | (_, d) => uptoBulk d + 1
 end
def uptoSmall : (H : Type) → List (DataW H) → Bool := fun _ ds => decide (uptoBulkAll ds ≤ 1048576)
def OpenSpec.upto (s : _root_.Go.ChangeSpec) : _root_.Go.OpenSpec := { _root_.Go.OpenSpec.ofChange s with cond := some uptoSmall }

/-- 'kraitlaw08.NumberTells', WHERE WHAT IT READS IS OF BULK AT MOST 1048576: true; the input reads as it did. -/
def numberTellsUptoRow : OpenClaim := { program := "ytcbfognflngbaaa", sum := "c9568737701128c5374d044da48aa1957552fdff8c6434c1f8c60b266e766e51", func := "krait/kraitlaw08.NumberTells", spec := "numberTells", unfollowed := true, recurses := true, apart := false, narrowed := true }
def NumberTellsUptoSaid : Prop := numberTellsUptoRow.holds Try.pinned (OpenSpec.upto numberTellsSpec)

/-- 'kraitlaw08.NumberParses', WHERE WHAT IT READS IS OF BULK AT MOST 1048576: true; the input reads as it did. -/
def numberParsesUptoRow : OpenClaim := { program := "ytcbfognflngbaaa", sum := "c9568737701128c5374d044da48aa1957552fdff8c6434c1f8c60b266e766e51", func := "krait/kraitlaw08.NumberParses", spec := "numberParses", unfollowed := true, recurses := true, apart := false, narrowed := true }
def NumberParsesUptoSaid : Prop := numberParsesUptoRow.holds Try.pinned (OpenSpec.upto numberParsesSpec)

/-- 'kraitlaw08.NumberBack', WHERE WHAT IT READS IS OF BULK AT MOST 1048576: true; the input reads as it did. -/
def numberBackUptoRow : OpenClaim := { program := "ytcbfognflngbaaa", sum := "c9568737701128c5374d044da48aa1957552fdff8c6434c1f8c60b266e766e51", func := "krait/kraitlaw08.NumberBack", spec := "numberBack", unfollowed := true, recurses := true, apart := false, narrowed := true }
def NumberBackUptoSaid : Prop := numberBackUptoRow.holds Try.pinned (OpenSpec.upto numberBackSpec)

/-- 'kraitlaw08.NumberParts', WHERE WHAT IT READS IS OF BULK AT MOST 1048576: true; the input reads as it did. -/
def numberPartsUptoRow : OpenClaim := { program := "ytcbfognflngbaaa", sum := "c9568737701128c5374d044da48aa1957552fdff8c6434c1f8c60b266e766e51", func := "krait/kraitlaw08.NumberParts", spec := "numberParts", unfollowed := true, recurses := true, apart := false, narrowed := true }
def NumberPartsUptoSaid : Prop := numberPartsUptoRow.holds Try.pinned (OpenSpec.upto numberPartsSpec)

/-- 'kraitlaw08.NumberSums', WHERE WHAT IT READS IS OF BULK AT MOST 1048576: true; the input reads as it did. -/
def numberSumsUptoRow : OpenClaim := { program := "ytcbfognflngbaaa", sum := "c9568737701128c5374d044da48aa1957552fdff8c6434c1f8c60b266e766e51", func := "krait/kraitlaw08.NumberSums", spec := "numberSums", unfollowed := true, recurses := true, apart := false, narrowed := true }
def NumberSumsUptoSaid : Prop := numberSumsUptoRow.holds Try.pinned (OpenSpec.upto numberSumsSpec)

/-- 'kraitlaw08.NumberProducts', WHERE WHAT IT READS IS OF BULK AT MOST 1048576: true; the input reads as it did. -/
def numberProductsUptoRow : OpenClaim := { program := "ytcbfognflngbaaa", sum := "c9568737701128c5374d044da48aa1957552fdff8c6434c1f8c60b266e766e51", func := "krait/kraitlaw08.NumberProducts", spec := "numberProducts", unfollowed := true, recurses := true, apart := false, narrowed := true }
def NumberProductsUptoSaid : Prop := numberProductsUptoRow.holds Try.pinned (OpenSpec.upto numberProductsSpec)

/-- 'kraitlaw08.NumberRings', WHERE WHAT IT READS IS OF BULK AT MOST 1048576: true; the input reads as it did. -/
def numberRingsUptoRow : OpenClaim := { program := "ytcbfognflngbaaa", sum := "c9568737701128c5374d044da48aa1957552fdff8c6434c1f8c60b266e766e51", func := "krait/kraitlaw08.NumberRings", spec := "numberRings", unfollowed := true, recurses := true, apart := false, narrowed := true }
def NumberRingsUptoSaid : Prop := numberRingsUptoRow.holds Try.pinned (OpenSpec.upto numberRingsSpec)

/-- 'kraitlaw08.NumberPowers', WHERE WHAT IT READS IS OF BULK AT MOST 1048576: true; the input reads as it did. -/
def numberPowersUptoRow : OpenClaim := { program := "ytcbfognflngbaaa", sum := "c9568737701128c5374d044da48aa1957552fdff8c6434c1f8c60b266e766e51", func := "krait/kraitlaw08.NumberPowers", spec := "numberPowers", unfollowed := true, recurses := true, apart := false, narrowed := true }
def NumberPowersUptoSaid : Prop := numberPowersUptoRow.holds Try.pinned (OpenSpec.upto numberPowersSpec)

/-- 'kraitlaw08.NumberFar', WHERE WHAT IT READS IS OF BULK AT MOST 1048576: true; the input reads as it did. -/
def numberFarUptoRow : OpenClaim := { program := "ytcbfognflngbaaa", sum := "c9568737701128c5374d044da48aa1957552fdff8c6434c1f8c60b266e766e51", func := "krait/kraitlaw08.NumberFar", spec := "numberFar", unfollowed := true, recurses := true, apart := false, narrowed := true }
def NumberFarUptoSaid : Prop := numberFarUptoRow.holds Try.pinned (OpenSpec.upto numberFarSpec)

/-- 'kraitlaw08.NumberOrder', WHERE WHAT IT READS IS OF BULK AT MOST 1048576: true; the input reads as it did. -/
def numberOrderUptoRow : OpenClaim := { program := "ytcbfognflngbaaa", sum := "c9568737701128c5374d044da48aa1957552fdff8c6434c1f8c60b266e766e51", func := "krait/kraitlaw08.NumberOrder", spec := "numberOrder", unfollowed := true, recurses := true, apart := false, narrowed := true }
def NumberOrderUptoSaid : Prop := numberOrderUptoRow.holds Try.pinned (OpenSpec.upto numberOrderSpec)

/-- 'kraitlaw08.NumberTexts', WHERE WHAT IT READS IS OF BULK AT MOST 1048576: true; the input reads as it did. -/
def numberTextsUptoRow : OpenClaim := { program := "ytcbfognflngbaaa", sum := "c9568737701128c5374d044da48aa1957552fdff8c6434c1f8c60b266e766e51", func := "krait/kraitlaw08.NumberTexts", spec := "numberTexts", unfollowed := true, recurses := true, apart := false, narrowed := true }
def NumberTextsUptoSaid : Prop := numberTextsUptoRow.holds Try.pinned (OpenSpec.upto numberTextsSpec)

end Rows
end Go.Proofs.Ytcbfognflngbaaa
