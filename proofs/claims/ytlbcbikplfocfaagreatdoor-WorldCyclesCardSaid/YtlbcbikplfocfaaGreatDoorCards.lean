/-
  DERIVED. GIVEN WITH THE SEED: THE CARDS: each row of YtlbcbikplfocfaaGreatDoorRows.lean that lists a variable, with what it lists TIED to the program's text (the seventh form; the later family's looks); each row that meets fmt, with fmt's text TOLD by the authors' own Lean function (tested against real Go, not proved from fmt's source: count such statements apart). THE CARD IS WHAT COUNTS. Prove the row's statement (the work); the ties are given (YtlbcbikplfocfaaGreatDoorTie.lean); close each card by the builder's one call (the guide's Derived/Test/ToyasCard.lean, 'card_holds'). Laid BY PROGRAM, IN A SANDBOX (cutbox-door.mjs). By AI agents, Wed Nov 11 2026. No macro, syntax, notation, axiom, sorry.
-/
import Derived.Test.YtlbcbikplfocfaaGreatDoorRows
import GoSem.ClaimSeven
namespace Go.Proofs.YtlbcbikplfocfaaGreatDoor
namespace Rows

/-- THE TIED CARD OF 'kraitlaw17.WorldRuns'. -/
def worldRunsCard : Claim7 := { stood := { row := worldRunsRow, standIns := [], harness := (true, "dc92bd4387026cd28dff6f5581b6e64283f0ab8eba221ffec3606bd8a1f66895"), looks := false }, kinds := [], alts := [], laidByText := true, laidKinds := [.listed, .data], laidTests := true, laidLooks := .later }
def WorldRunsCardSaid : Prop := Claim7.holds Tryz.pinned (.plain (OpenSpec.ofChange worldRunsSpec)) worldRunsCard

/-- THE TIED CARD OF 'kraitlaw17.WorldSpecial'. -/
def worldSpecialCard : Claim7 := { stood := { row := worldSpecialRow, standIns := [], harness := (true, "dc92bd4387026cd28dff6f5581b6e64283f0ab8eba221ffec3606bd8a1f66895"), looks := false }, kinds := [], alts := [], laidByText := true, laidKinds := [.listed, .data], laidTests := true, laidLooks := .later }
def WorldSpecialCardSaid : Prop := Claim7.holds Tryz.pinned (.plain (OpenSpec.ofChange worldSpecialSpec)) worldSpecialCard

/-- THE TIED CARD OF 'kraitlaw17.WorldPrints'. -/
def worldPrintsCard : Claim7 := { stood := { row := worldPrintsRow, standIns := [], harness := (true, "dc92bd4387026cd28dff6f5581b6e64283f0ab8eba221ffec3606bd8a1f66895"), looks := false }, kinds := [], alts := [], laidByText := true, laidKinds := [.listed, .data], laidTests := true, laidLooks := .later }
def WorldPrintsCardSaid : Prop := Claim7.holds Tryz.pinned (.plain (OpenSpec.ofChange worldPrintsSpec)) worldPrintsCard

/-- THE TIED CARD OF 'kraitlaw17.WorldCycles'. -/
def worldCyclesCard : Claim7 := { stood := { row := worldCyclesRow, standIns := [], harness := (true, "dc92bd4387026cd28dff6f5581b6e64283f0ab8eba221ffec3606bd8a1f66895"), looks := false }, kinds := [], alts := [], laidByText := true, laidKinds := [.listed, .data], laidTests := true, laidLooks := .later }
def WorldCyclesCardSaid : Prop := Claim7.holds Tryz.pinned (.plain (OpenSpec.ofChange worldCyclesSpec)) worldCyclesCard

/-- THE SECOND FORM's CARD OF 'kraitlaw17.WorldRuns'. -/
def worldRunsUptoCard : Claim7 := { stood := { row := worldRunsUptoRow, standIns := [], harness := (true, "dc92bd4387026cd28dff6f5581b6e64283f0ab8eba221ffec3606bd8a1f66895"), looks := false }, kinds := [], alts := [], laidByText := true, laidKinds := [.listed, .data], laidTests := true, laidLooks := .later }
def WorldRunsUptoCardSaid : Prop := Claim7.holds Tryz.pinned (.plain (OpenSpec.upto worldRunsSpec)) worldRunsUptoCard

/-- THE SECOND FORM's CARD OF 'kraitlaw17.WorldSpecial'. -/
def worldSpecialUptoCard : Claim7 := { stood := { row := worldSpecialUptoRow, standIns := [], harness := (true, "dc92bd4387026cd28dff6f5581b6e64283f0ab8eba221ffec3606bd8a1f66895"), looks := false }, kinds := [], alts := [], laidByText := true, laidKinds := [.listed, .data], laidTests := true, laidLooks := .later }
def WorldSpecialUptoCardSaid : Prop := Claim7.holds Tryz.pinned (.plain (OpenSpec.upto worldSpecialSpec)) worldSpecialUptoCard

/-- THE SECOND FORM's CARD OF 'kraitlaw17.WorldPrints'. -/
def worldPrintsUptoCard : Claim7 := { stood := { row := worldPrintsUptoRow, standIns := [], harness := (true, "dc92bd4387026cd28dff6f5581b6e64283f0ab8eba221ffec3606bd8a1f66895"), looks := false }, kinds := [], alts := [], laidByText := true, laidKinds := [.listed, .data], laidTests := true, laidLooks := .later }
def WorldPrintsUptoCardSaid : Prop := Claim7.holds Tryz.pinned (.plain (OpenSpec.upto worldPrintsSpec)) worldPrintsUptoCard

/-- THE SECOND FORM's CARD OF 'kraitlaw17.WorldCycles'. -/
def worldCyclesUptoCard : Claim7 := { stood := { row := worldCyclesUptoRow, standIns := [], harness := (true, "dc92bd4387026cd28dff6f5581b6e64283f0ab8eba221ffec3606bd8a1f66895"), looks := false }, kinds := [], alts := [], laidByText := true, laidKinds := [.listed, .data], laidTests := true, laidLooks := .later }
def WorldCyclesUptoCardSaid : Prop := Claim7.holds Tryz.pinned (.plain (OpenSpec.upto worldCyclesSpec)) worldCyclesUptoCard
end Rows
end Go.Proofs.YtlbcbikplfocfaaGreatDoor
