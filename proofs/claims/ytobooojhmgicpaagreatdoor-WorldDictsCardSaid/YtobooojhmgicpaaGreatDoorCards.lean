/-
  DERIVED. GIVEN WITH THE SEED: THE CARDS: each row of YtobooojhmgicpaaGreatDoorRows.lean that lists a variable, with what it lists TIED to the program's text (the seventh form; the later family's looks); each row that meets fmt, with fmt's text TOLD by the authors' own Lean function (tested against real Go, not proved from fmt's source: count such statements apart). THE CARD IS WHAT COUNTS. Prove the row's statement (the work); the ties are given (YtobooojhmgicpaaGreatDoorTie.lean); close each card by the builder's one call (the guide's Derived/Test/ToyasCard.lean, 'card_holds'). Laid BY PROGRAM, IN A SANDBOX (cutbox-door.mjs). By AI agents, Wed Nov 11 2026. No macro, syntax, notation, axiom, sorry.
-/
import Derived.Test.YtobooojhmgicpaaGreatDoorRows
import GoSem.ClaimSeven
namespace Go.Proofs.YtobooojhmgicpaaGreatDoor
namespace Rows

/-- THE TIED CARD OF 'kraitlaw17.WorldRange'. -/
def worldRangeCard : Claim7 := { stood := { row := worldRangeRow, standIns := [], harness := (true, "0f5fe63aef2b137c4e66325a14be2a633133a3920ed86e936523153a4742a6e9"), looks := false }, kinds := [], alts := [], laidByText := true, laidKinds := [.listed, .data], laidTests := true, laidLooks := .later }
def WorldRangeCardSaid : Prop := Claim7.holds Tryz.pinned (.plain (OpenSpec.ofChange worldRangeSpec)) worldRangeCard

/-- THE TIED CARD OF 'kraitlaw17.WorldCells'. -/
def worldCellsCard : Claim7 := { stood := { row := worldCellsRow, standIns := [], harness := (true, "0f5fe63aef2b137c4e66325a14be2a633133a3920ed86e936523153a4742a6e9"), looks := false }, kinds := [], alts := [], laidByText := true, laidKinds := [.listed, .data], laidTests := true, laidLooks := .later }
def WorldCellsCardSaid : Prop := Claim7.holds Tryz.pinned (.plain (OpenSpec.ofChange worldCellsSpec)) worldCellsCard

/-- THE TIED CARD OF 'kraitlaw17.WorldRows'. -/
def worldRowsCard : Claim7 := { stood := { row := worldRowsRow, standIns := [], harness := (true, "0f5fe63aef2b137c4e66325a14be2a633133a3920ed86e936523153a4742a6e9"), looks := false }, kinds := [], alts := [], laidByText := true, laidKinds := [.listed, .data], laidTests := true, laidLooks := .later }
def WorldRowsCardSaid : Prop := Claim7.holds Tryz.pinned (.plain (OpenSpec.ofChange worldRowsSpec)) worldRowsCard

/-- THE TIED CARD OF 'kraitlaw17.WorldThrough'. -/
def worldThroughCard : Claim7 := { stood := { row := worldThroughRow, standIns := [], harness := (true, "0f5fe63aef2b137c4e66325a14be2a633133a3920ed86e936523153a4742a6e9"), looks := false }, kinds := [], alts := [], laidByText := true, laidKinds := [.listed, .data], laidTests := true, laidLooks := .later }
def WorldThroughCardSaid : Prop := Claim7.holds Tryz.pinned (.plain (OpenSpec.ofChange worldThroughSpec)) worldThroughCard

/-- THE TIED CARD OF 'kraitlaw17.WorldNames'. -/
def worldNamesCard : Claim7 := { stood := { row := worldNamesRow, standIns := [], harness := (true, "0f5fe63aef2b137c4e66325a14be2a633133a3920ed86e936523153a4742a6e9"), looks := false }, kinds := [], alts := [], laidByText := true, laidKinds := [.listed, .data], laidTests := true, laidLooks := .later }
def WorldNamesCardSaid : Prop := Claim7.holds Tryz.pinned (.plain (OpenSpec.ofChange worldNamesSpec)) worldNamesCard

/-- THE TIED CARD OF 'kraitlaw17.WorldDicts'. -/
def worldDictsCard : Claim7 := { stood := { row := worldDictsRow, standIns := [], harness := (true, "0f5fe63aef2b137c4e66325a14be2a633133a3920ed86e936523153a4742a6e9"), looks := false }, kinds := [], alts := [], laidByText := true, laidKinds := [.listed, .data], laidTests := true, laidLooks := .later }
def WorldDictsCardSaid : Prop := Claim7.holds Tryz.pinned (.plain (OpenSpec.ofChange worldDictsSpec)) worldDictsCard

/-- THE SECOND FORM's CARD OF 'kraitlaw17.WorldRange'. -/
def worldRangeUptoCard : Claim7 := { stood := { row := worldRangeUptoRow, standIns := [], harness := (true, "0f5fe63aef2b137c4e66325a14be2a633133a3920ed86e936523153a4742a6e9"), looks := false }, kinds := [], alts := [], laidByText := true, laidKinds := [.listed, .data], laidTests := true, laidLooks := .later }
def WorldRangeUptoCardSaid : Prop := Claim7.holds Tryz.pinned (.plain (OpenSpec.upto worldRangeSpec)) worldRangeUptoCard

/-- THE SECOND FORM's CARD OF 'kraitlaw17.WorldCells'. -/
def worldCellsUptoCard : Claim7 := { stood := { row := worldCellsUptoRow, standIns := [], harness := (true, "0f5fe63aef2b137c4e66325a14be2a633133a3920ed86e936523153a4742a6e9"), looks := false }, kinds := [], alts := [], laidByText := true, laidKinds := [.listed, .data], laidTests := true, laidLooks := .later }
def WorldCellsUptoCardSaid : Prop := Claim7.holds Tryz.pinned (.plain (OpenSpec.upto worldCellsSpec)) worldCellsUptoCard

/-- THE SECOND FORM's CARD OF 'kraitlaw17.WorldRows'. -/
def worldRowsUptoCard : Claim7 := { stood := { row := worldRowsUptoRow, standIns := [], harness := (true, "0f5fe63aef2b137c4e66325a14be2a633133a3920ed86e936523153a4742a6e9"), looks := false }, kinds := [], alts := [], laidByText := true, laidKinds := [.listed, .data], laidTests := true, laidLooks := .later }
def WorldRowsUptoCardSaid : Prop := Claim7.holds Tryz.pinned (.plain (OpenSpec.upto worldRowsSpec)) worldRowsUptoCard

/-- THE SECOND FORM's CARD OF 'kraitlaw17.WorldThrough'. -/
def worldThroughUptoCard : Claim7 := { stood := { row := worldThroughUptoRow, standIns := [], harness := (true, "0f5fe63aef2b137c4e66325a14be2a633133a3920ed86e936523153a4742a6e9"), looks := false }, kinds := [], alts := [], laidByText := true, laidKinds := [.listed, .data], laidTests := true, laidLooks := .later }
def WorldThroughUptoCardSaid : Prop := Claim7.holds Tryz.pinned (.plain (OpenSpec.upto worldThroughSpec)) worldThroughUptoCard

/-- THE SECOND FORM's CARD OF 'kraitlaw17.WorldNames'. -/
def worldNamesUptoCard : Claim7 := { stood := { row := worldNamesUptoRow, standIns := [], harness := (true, "0f5fe63aef2b137c4e66325a14be2a633133a3920ed86e936523153a4742a6e9"), looks := false }, kinds := [], alts := [], laidByText := true, laidKinds := [.listed, .data], laidTests := true, laidLooks := .later }
def WorldNamesUptoCardSaid : Prop := Claim7.holds Tryz.pinned (.plain (OpenSpec.upto worldNamesSpec)) worldNamesUptoCard

/-- THE SECOND FORM's CARD OF 'kraitlaw17.WorldDicts'. -/
def worldDictsUptoCard : Claim7 := { stood := { row := worldDictsUptoRow, standIns := [], harness := (true, "0f5fe63aef2b137c4e66325a14be2a633133a3920ed86e936523153a4742a6e9"), looks := false }, kinds := [], alts := [], laidByText := true, laidKinds := [.listed, .data], laidTests := true, laidLooks := .later }
def WorldDictsUptoCardSaid : Prop := Claim7.holds Tryz.pinned (.plain (OpenSpec.upto worldDictsSpec)) worldDictsUptoCard
end Rows
end Go.Proofs.YtobooojhmgicpaaGreatDoor
