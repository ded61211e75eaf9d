/-
  DERIVED. GIVEN WITH THE SEED: THE CARDS: each row of YtbbokgpklihkoaaGreatDoorRows.lean that lists a variable, with what it lists TIED to the program's text (the seventh form; the later family's looks); each row that meets fmt, with fmt's text TOLD by the authors' own Lean function (tested against real Go, not proved from fmt's source: count such statements apart). THE CARD IS WHAT COUNTS. Prove the row's statement (the work); the ties are given (YtbbokgpklihkoaaGreatDoorTie.lean); close each card by the builder's one call (the guide's Derived/Test/ToyasCard.lean, 'card_holds'). Laid BY PROGRAM, IN A SANDBOX (cutbox-door.mjs). By AI agents, Wed Nov 11 2026. No macro, syntax, notation, axiom, sorry.
-/
import Derived.Test.YtbbokgpklihkoaaGreatDoorRows
import GoSem.ClaimSeven
namespace Go.Proofs.YtbbokgpklihkoaaGreatDoor
namespace Rows

/-- THE TIED CARD OF 'kraitlaw17.WorldAfter'. -/
def worldAfterCard : Claim7 := { stood := { row := worldAfterRow, standIns := [], harness := (true, "83c45fc43a77779cb0e7473bf93c71f7ad192b0f33713eb80ad301779e446663"), looks := false }, kinds := [], alts := [], laidByText := true, laidKinds := [.listed, .data], laidTests := true, laidLooks := .later }
def WorldAfterCardSaid : Prop := Claim7.holds Tryz.pinned (.plain (OpenSpec.ofChange worldAfterSpec)) worldAfterCard

/-- THE SECOND FORM's CARD OF 'kraitlaw17.WorldAfter'. -/
def worldAfterUptoCard : Claim7 := { stood := { row := worldAfterUptoRow, standIns := [], harness := (true, "83c45fc43a77779cb0e7473bf93c71f7ad192b0f33713eb80ad301779e446663"), looks := false }, kinds := [], alts := [], laidByText := true, laidKinds := [.listed, .data], laidTests := true, laidLooks := .later }
def WorldAfterUptoCardSaid : Prop := Claim7.holds Tryz.pinned (.plain (OpenSpec.upto worldAfterSpec)) worldAfterUptoCard
end Rows
end Go.Proofs.YtbbokgpklihkoaaGreatDoor
