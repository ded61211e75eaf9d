/-
  DERIVED. GIVEN WITH THE SEED: THE CARDS: each row of YtildnolfgdcndaaGreatDoorRows.lean that lists a variable, with what it lists TIED to the program's text (the seventh form; the later family's looks); each row that meets fmt, with fmt's text TOLD by the authors' own Lean function (tested against real Go, not proved from fmt's source: count such statements apart). THE CARD IS WHAT COUNTS. Prove the row's statement (the work); the ties are given (YtildnolfgdcndaaGreatDoorTie.lean); close each card by the builder's one call (the guide's Derived/Test/ToyasCard.lean, 'card_holds'). Laid BY PROGRAM, IN A SANDBOX (cutbox-door.mjs). By AI agents, Wed Nov 11 2026. No macro, syntax, notation, axiom, sorry.
-/
import Derived.Test.YtildnolfgdcndaaGreatDoorRows
import GoSem.ClaimSeven
namespace Go.Proofs.YtildnolfgdcndaaGreatDoor
namespace Rows

/-- THE TIED CARD OF 'kraitlaw17.WorldThrough'. -/
def worldThroughCard : Claim7 := { stood := { row := worldThroughRow, standIns := [], harness := (true, "502a05488a9e03fa43146d71fe2b9698a11f3c617c98ccbc24bdd5669b69e544"), looks := false }, kinds := [], alts := [], laidByText := true, laidKinds := [.listed, .data], laidTests := true, laidLooks := .later }
def WorldThroughCardSaid : Prop := Claim7.holds Tryz.pinned (.plain (OpenSpec.ofChange worldThroughSpec)) worldThroughCard

/-- THE TIED CARD OF 'kraitlaw17.WorldPrints'. -/
def worldPrintsCard : Claim7 := { stood := { row := worldPrintsRow, standIns := [], harness := (true, "502a05488a9e03fa43146d71fe2b9698a11f3c617c98ccbc24bdd5669b69e544"), looks := false }, kinds := [], alts := [], laidByText := true, laidKinds := [.listed, .data], laidTests := true, laidLooks := .later }
def WorldPrintsCardSaid : Prop := Claim7.holds Tryz.pinned (.plain (OpenSpec.ofChange worldPrintsSpec)) worldPrintsCard

/-- THE TIED CARD OF 'kraitlaw17.WorldTexts'. -/
def worldTextsCard : Claim7 := { stood := { row := worldTextsRow, standIns := [], harness := (true, "502a05488a9e03fa43146d71fe2b9698a11f3c617c98ccbc24bdd5669b69e544"), looks := false }, kinds := [], alts := [], laidByText := true, laidKinds := [.listed, .data], laidTests := true, laidLooks := .later }
def WorldTextsCardSaid : Prop := Claim7.holds Tryz.pinned (.plain (OpenSpec.ofChange worldTextsSpec)) worldTextsCard

/-- THE TIED CARD OF 'kraitlaw17.WorldRuns'. -/
def worldRunsCard : Claim7 := { stood := { row := worldRunsRow, standIns := [], harness := (true, "502a05488a9e03fa43146d71fe2b9698a11f3c617c98ccbc24bdd5669b69e544"), looks := false }, kinds := [], alts := [], laidByText := true, laidKinds := [.listed, .data], laidTests := true, laidLooks := .later }
def WorldRunsCardSaid : Prop := Claim7.holds Tryz.pinned (.plain (OpenSpec.ofChange worldRunsSpec)) worldRunsCard

/-- THE TIED CARD OF 'kraitlaw17.WorldSpecial'. -/
def worldSpecialCard : Claim7 := { stood := { row := worldSpecialRow, standIns := [], harness := (true, "502a05488a9e03fa43146d71fe2b9698a11f3c617c98ccbc24bdd5669b69e544"), looks := false }, kinds := [], alts := [], laidByText := true, laidKinds := [.listed, .data], laidTests := true, laidLooks := .later }
def WorldSpecialCardSaid : Prop := Claim7.holds Tryz.pinned (.plain (OpenSpec.ofChange worldSpecialSpec)) worldSpecialCard

/-- THE TIED CARD OF 'kraitlaw17.WorldMatches'. -/
def worldMatchesCard : Claim7 := { stood := { row := worldMatchesRow, standIns := [], harness := (true, "502a05488a9e03fa43146d71fe2b9698a11f3c617c98ccbc24bdd5669b69e544"), looks := false }, kinds := [], alts := [], laidByText := true, laidKinds := [.listed, .data], laidTests := true, laidLooks := .later }
def WorldMatchesCardSaid : Prop := Claim7.holds Tryz.pinned (.plain (OpenSpec.ofChange worldMatchesSpec)) worldMatchesCard

/-- THE TIED CARD OF 'kraitlaw17.WorldCycles'. -/
def worldCyclesCard : Claim7 := { stood := { row := worldCyclesRow, standIns := [], harness := (true, "502a05488a9e03fa43146d71fe2b9698a11f3c617c98ccbc24bdd5669b69e544"), looks := false }, kinds := [], alts := [], laidByText := true, laidKinds := [.listed, .data], laidTests := true, laidLooks := .later }
def WorldCyclesCardSaid : Prop := Claim7.holds Tryz.pinned (.plain (OpenSpec.ofChange worldCyclesSpec)) worldCyclesCard

/-- THE SECOND FORM's CARD OF 'kraitlaw17.WorldThrough'. -/
def worldThroughUptoCard : Claim7 := { stood := { row := worldThroughUptoRow, standIns := [], harness := (true, "502a05488a9e03fa43146d71fe2b9698a11f3c617c98ccbc24bdd5669b69e544"), looks := false }, kinds := [], alts := [], laidByText := true, laidKinds := [.listed, .data], laidTests := true, laidLooks := .later }
def WorldThroughUptoCardSaid : Prop := Claim7.holds Tryz.pinned (.plain (OpenSpec.upto worldThroughSpec)) worldThroughUptoCard

/-- THE SECOND FORM's CARD OF 'kraitlaw17.WorldPrints'. -/
def worldPrintsUptoCard : Claim7 := { stood := { row := worldPrintsUptoRow, standIns := [], harness := (true, "502a05488a9e03fa43146d71fe2b9698a11f3c617c98ccbc24bdd5669b69e544"), looks := false }, kinds := [], alts := [], laidByText := true, laidKinds := [.listed, .data], laidTests := true, laidLooks := .later }
def WorldPrintsUptoCardSaid : Prop := Claim7.holds Tryz.pinned (.plain (OpenSpec.upto worldPrintsSpec)) worldPrintsUptoCard

/-- THE SECOND FORM's CARD OF 'kraitlaw17.WorldTexts'. -/
def worldTextsUptoCard : Claim7 := { stood := { row := worldTextsUptoRow, standIns := [], harness := (true, "502a05488a9e03fa43146d71fe2b9698a11f3c617c98ccbc24bdd5669b69e544"), looks := false }, kinds := [], alts := [], laidByText := true, laidKinds := [.listed, .data], laidTests := true, laidLooks := .later }
def WorldTextsUptoCardSaid : Prop := Claim7.holds Tryz.pinned (.plain (OpenSpec.upto worldTextsSpec)) worldTextsUptoCard

/-- THE SECOND FORM's CARD OF 'kraitlaw17.WorldRuns'. -/
def worldRunsUptoCard : Claim7 := { stood := { row := worldRunsUptoRow, standIns := [], harness := (true, "502a05488a9e03fa43146d71fe2b9698a11f3c617c98ccbc24bdd5669b69e544"), looks := false }, kinds := [], alts := [], laidByText := true, laidKinds := [.listed, .data], laidTests := true, laidLooks := .later }
def WorldRunsUptoCardSaid : Prop := Claim7.holds Tryz.pinned (.plain (OpenSpec.upto worldRunsSpec)) worldRunsUptoCard

/-- THE SECOND FORM's CARD OF 'kraitlaw17.WorldSpecial'. -/
def worldSpecialUptoCard : Claim7 := { stood := { row := worldSpecialUptoRow, standIns := [], harness := (true, "502a05488a9e03fa43146d71fe2b9698a11f3c617c98ccbc24bdd5669b69e544"), looks := false }, kinds := [], alts := [], laidByText := true, laidKinds := [.listed, .data], laidTests := true, laidLooks := .later }
def WorldSpecialUptoCardSaid : Prop := Claim7.holds Tryz.pinned (.plain (OpenSpec.upto worldSpecialSpec)) worldSpecialUptoCard

/-- THE SECOND FORM's CARD OF 'kraitlaw17.WorldMatches'. -/
def worldMatchesUptoCard : Claim7 := { stood := { row := worldMatchesUptoRow, standIns := [], harness := (true, "502a05488a9e03fa43146d71fe2b9698a11f3c617c98ccbc24bdd5669b69e544"), looks := false }, kinds := [], alts := [], laidByText := true, laidKinds := [.listed, .data], laidTests := true, laidLooks := .later }
def WorldMatchesUptoCardSaid : Prop := Claim7.holds Tryz.pinned (.plain (OpenSpec.upto worldMatchesSpec)) worldMatchesUptoCard

/-- THE SECOND FORM's CARD OF 'kraitlaw17.WorldCycles'. -/
def worldCyclesUptoCard : Claim7 := { stood := { row := worldCyclesUptoRow, standIns := [], harness := (true, "502a05488a9e03fa43146d71fe2b9698a11f3c617c98ccbc24bdd5669b69e544"), looks := false }, kinds := [], alts := [], laidByText := true, laidKinds := [.listed, .data], laidTests := true, laidLooks := .later }
def WorldCyclesUptoCardSaid : Prop := Claim7.holds Tryz.pinned (.plain (OpenSpec.upto worldCyclesSpec)) worldCyclesUptoCard
end Rows
end Go.Proofs.YtildnolfgdcndaaGreatDoor
