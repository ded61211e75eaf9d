/-
  DERIVED. GIVEN WITH THE SEED: THE CARDS: each row of YtmelcflkbfhohaaGreatDoorRows.lean that lists a variable, with what it lists TIED to the program's text (the seventh form; the later family's looks); each row that meets fmt, with fmt's text TOLD by the authors' own Lean function (tested against real Go, not proved from fmt's source: count such statements apart). THE CARD IS WHAT COUNTS. Prove the row's statement (the work); the ties are given (YtmelcflkbfhohaaGreatDoorTie.lean); close each card by the builder's one call (the guide's Derived/Test/ToyasCard.lean, 'card_holds'). Laid BY PROGRAM, IN A SANDBOX (cutbox-door.mjs). By AI agents, Wed Nov 11 2026. No macro, syntax, notation, axiom, sorry.
-/
import Derived.Test.YtmelcflkbfhohaaGreatDoorRows
import GoSem.ClaimSeven
namespace Go.Proofs.YtmelcflkbfhohaaGreatDoor
namespace Rows

/-- THE TIED CARD OF 'kraitlaw18.WalkNested'. -/
def walkNestedCard : Claim7 := { stood := { row := walkNestedRow, standIns := [], harness := (true, "89587c52ff6d95576efce74b3e34796ddf7ff9cd136462baa7f98c2da4d695dd"), looks := false }, kinds := [], alts := [], laidByText := true, laidKinds := [.data, .listed, .data, .pinned], laidTests := true, laidLooks := .later }
def WalkNestedCardSaid : Prop := Claim7.holds Tryz.pinned (.plain (OpenSpec.ofChange walkNestedSpec)) walkNestedCard

/-- THE SECOND FORM's CARD OF 'kraitlaw18.WalkNested'. -/
def walkNestedUptoCard : Claim7 := { stood := { row := walkNestedUptoRow, standIns := [], harness := (true, "89587c52ff6d95576efce74b3e34796ddf7ff9cd136462baa7f98c2da4d695dd"), looks := false }, kinds := [], alts := [], laidByText := true, laidKinds := [.data, .listed, .data, .pinned], laidTests := true, laidLooks := .later }
def WalkNestedUptoCardSaid : Prop := Claim7.holds Tryz.pinned (.plain (OpenSpec.upto walkNestedSpec)) walkNestedUptoCard
end Rows
end Go.Proofs.YtmelcflkbfhohaaGreatDoor
