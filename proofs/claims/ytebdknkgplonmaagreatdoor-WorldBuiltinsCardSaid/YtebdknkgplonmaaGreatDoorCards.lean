/-
  DERIVED. GIVEN WITH THE SEED: THE CARDS: each row of YtebdknkgplonmaaGreatDoorRows.lean that lists a variable, with what it lists TIED to the program's text (the seventh form; the later family's looks); each row that meets fmt, with fmt's text TOLD by the authors' own Lean function (tested against real Go, not proved from fmt's source: count such statements apart). THE CARD IS WHAT COUNTS. Prove the row's statement (the work); the ties are given (YtebdknkgplonmaaGreatDoorTie.lean); close each card by the builder's one call (the guide's Derived/Test/ToyasCard.lean, 'card_holds'). Laid BY PROGRAM, IN A SANDBOX (cutbox-door.mjs). By AI agents, Wed Nov 11 2026. No macro, syntax, notation, axiom, sorry.
-/
import Derived.Test.YtebdknkgplonmaaGreatDoorRows
import GoSem.ClaimSeven
namespace Go.Proofs.YtebdknkgplonmaaGreatDoor
namespace Rows

/-- THE TIED CARD OF 'kraitlaw17.WorldInits'. -/
def worldInitsCard : Claim7 := { stood := { row := worldInitsRow, standIns := [], harness := (true, "4da3074802a7d71f98667f7c41bc54ec72b57e908c168459d4fd6011d5200f9e"), looks := false }, kinds := [], alts := [], laidByText := true, laidKinds := [.listed, .data], laidTests := true, laidLooks := .later }
def WorldInitsCardSaid : Prop := Claim7.holds Tryz.pinned (.plain (OpenSpec.ofChange worldInitsSpec)) worldInitsCard

/-- THE TIED CARD OF 'kraitlaw17.WorldSpecial'. -/
def worldSpecialCard : Claim7 := { stood := { row := worldSpecialRow, standIns := [], harness := (true, "4da3074802a7d71f98667f7c41bc54ec72b57e908c168459d4fd6011d5200f9e"), looks := false }, kinds := [], alts := [], laidByText := true, laidKinds := [.listed, .data], laidTests := true, laidLooks := .later }
def WorldSpecialCardSaid : Prop := Claim7.holds Tryz.pinned (.plain (OpenSpec.ofChange worldSpecialSpec)) worldSpecialCard

/-- THE TIED CARD OF 'kraitlaw17.WorldMatches'. -/
def worldMatchesCard : Claim7 := { stood := { row := worldMatchesRow, standIns := [], harness := (true, "4da3074802a7d71f98667f7c41bc54ec72b57e908c168459d4fd6011d5200f9e"), looks := false }, kinds := [], alts := [], laidByText := true, laidKinds := [.listed, .data], laidTests := true, laidLooks := .later }
def WorldMatchesCardSaid : Prop := Claim7.holds Tryz.pinned (.plain (OpenSpec.ofChange worldMatchesSpec)) worldMatchesCard

/-- THE TIED CARD OF 'kraitlaw17.WorldNothing'. -/
def worldNothingCard : Claim7 := { stood := { row := worldNothingRow, standIns := [], harness := (true, "4da3074802a7d71f98667f7c41bc54ec72b57e908c168459d4fd6011d5200f9e"), looks := false }, kinds := [], alts := [], laidByText := true, laidKinds := [.listed, .data], laidTests := true, laidLooks := .later }
def WorldNothingCardSaid : Prop := Claim7.holds Tryz.pinned (.plain (OpenSpec.ofChange worldNothingSpec)) worldNothingCard

/-- THE TIED CARD OF 'kraitlaw17.WorldTexts'. -/
def worldTextsCard : Claim7 := { stood := { row := worldTextsRow, standIns := [], harness := (true, "4da3074802a7d71f98667f7c41bc54ec72b57e908c168459d4fd6011d5200f9e"), looks := false }, kinds := [], alts := [], laidByText := true, laidKinds := [.listed, .data], laidTests := true, laidLooks := .later }
def WorldTextsCardSaid : Prop := Claim7.holds Tryz.pinned (.plain (OpenSpec.ofChange worldTextsSpec)) worldTextsCard

/-- THE TIED CARD OF 'kraitlaw17.WorldWeak'. -/
def worldWeakCard : Claim7 := { stood := { row := worldWeakRow, standIns := [], harness := (true, "4da3074802a7d71f98667f7c41bc54ec72b57e908c168459d4fd6011d5200f9e"), looks := false }, kinds := [], alts := [], laidByText := true, laidKinds := [.listed, .data], laidTests := true, laidLooks := .later }
def WorldWeakCardSaid : Prop := Claim7.holds Tryz.pinned (.plain (OpenSpec.ofChange worldWeakSpec)) worldWeakCard

/-- THE TIED CARD OF 'kraitlaw17.WorldCycles'. -/
def worldCyclesCard : Claim7 := { stood := { row := worldCyclesRow, standIns := [], harness := (true, "4da3074802a7d71f98667f7c41bc54ec72b57e908c168459d4fd6011d5200f9e"), looks := false }, kinds := [], alts := [], laidByText := true, laidKinds := [.listed, .data], laidTests := true, laidLooks := .later }
def WorldCyclesCardSaid : Prop := Claim7.holds Tryz.pinned (.plain (OpenSpec.ofChange worldCyclesSpec)) worldCyclesCard

/-- THE TIED CARD OF 'kraitlaw17.WorldBuiltins'. -/
def worldBuiltinsCard : Claim7 := { stood := { row := worldBuiltinsRow, standIns := [], harness := (true, "4da3074802a7d71f98667f7c41bc54ec72b57e908c168459d4fd6011d5200f9e"), looks := false }, kinds := [], alts := [], laidByText := true, laidKinds := [.listed, .data], laidTests := true, laidLooks := .later }
def WorldBuiltinsCardSaid : Prop := Claim7.holds Tryz.pinned (.plain (OpenSpec.ofChange worldBuiltinsSpec)) worldBuiltinsCard

/-- THE SECOND FORM's CARD OF 'kraitlaw17.WorldInits'. -/
def worldInitsUptoCard : Claim7 := { stood := { row := worldInitsUptoRow, standIns := [], harness := (true, "4da3074802a7d71f98667f7c41bc54ec72b57e908c168459d4fd6011d5200f9e"), looks := false }, kinds := [], alts := [], laidByText := true, laidKinds := [.listed, .data], laidTests := true, laidLooks := .later }
def WorldInitsUptoCardSaid : Prop := Claim7.holds Tryz.pinned (.plain (OpenSpec.upto worldInitsSpec)) worldInitsUptoCard

/-- THE SECOND FORM's CARD OF 'kraitlaw17.WorldSpecial'. -/
def worldSpecialUptoCard : Claim7 := { stood := { row := worldSpecialUptoRow, standIns := [], harness := (true, "4da3074802a7d71f98667f7c41bc54ec72b57e908c168459d4fd6011d5200f9e"), looks := false }, kinds := [], alts := [], laidByText := true, laidKinds := [.listed, .data], laidTests := true, laidLooks := .later }
def WorldSpecialUptoCardSaid : Prop := Claim7.holds Tryz.pinned (.plain (OpenSpec.upto worldSpecialSpec)) worldSpecialUptoCard

/-- THE SECOND FORM's CARD OF 'kraitlaw17.WorldMatches'. -/
def worldMatchesUptoCard : Claim7 := { stood := { row := worldMatchesUptoRow, standIns := [], harness := (true, "4da3074802a7d71f98667f7c41bc54ec72b57e908c168459d4fd6011d5200f9e"), looks := false }, kinds := [], alts := [], laidByText := true, laidKinds := [.listed, .data], laidTests := true, laidLooks := .later }
def WorldMatchesUptoCardSaid : Prop := Claim7.holds Tryz.pinned (.plain (OpenSpec.upto worldMatchesSpec)) worldMatchesUptoCard

/-- THE SECOND FORM's CARD OF 'kraitlaw17.WorldNothing'. -/
def worldNothingUptoCard : Claim7 := { stood := { row := worldNothingUptoRow, standIns := [], harness := (true, "4da3074802a7d71f98667f7c41bc54ec72b57e908c168459d4fd6011d5200f9e"), looks := false }, kinds := [], alts := [], laidByText := true, laidKinds := [.listed, .data], laidTests := true, laidLooks := .later }
def WorldNothingUptoCardSaid : Prop := Claim7.holds Tryz.pinned (.plain (OpenSpec.upto worldNothingSpec)) worldNothingUptoCard

/-- THE SECOND FORM's CARD OF 'kraitlaw17.WorldTexts'. -/
def worldTextsUptoCard : Claim7 := { stood := { row := worldTextsUptoRow, standIns := [], harness := (true, "4da3074802a7d71f98667f7c41bc54ec72b57e908c168459d4fd6011d5200f9e"), looks := false }, kinds := [], alts := [], laidByText := true, laidKinds := [.listed, .data], laidTests := true, laidLooks := .later }
def WorldTextsUptoCardSaid : Prop := Claim7.holds Tryz.pinned (.plain (OpenSpec.upto worldTextsSpec)) worldTextsUptoCard

/-- THE SECOND FORM's CARD OF 'kraitlaw17.WorldWeak'. -/
def worldWeakUptoCard : Claim7 := { stood := { row := worldWeakUptoRow, standIns := [], harness := (true, "4da3074802a7d71f98667f7c41bc54ec72b57e908c168459d4fd6011d5200f9e"), looks := false }, kinds := [], alts := [], laidByText := true, laidKinds := [.listed, .data], laidTests := true, laidLooks := .later }
def WorldWeakUptoCardSaid : Prop := Claim7.holds Tryz.pinned (.plain (OpenSpec.upto worldWeakSpec)) worldWeakUptoCard

/-- THE SECOND FORM's CARD OF 'kraitlaw17.WorldCycles'. -/
def worldCyclesUptoCard : Claim7 := { stood := { row := worldCyclesUptoRow, standIns := [], harness := (true, "4da3074802a7d71f98667f7c41bc54ec72b57e908c168459d4fd6011d5200f9e"), looks := false }, kinds := [], alts := [], laidByText := true, laidKinds := [.listed, .data], laidTests := true, laidLooks := .later }
def WorldCyclesUptoCardSaid : Prop := Claim7.holds Tryz.pinned (.plain (OpenSpec.upto worldCyclesSpec)) worldCyclesUptoCard

/-- THE SECOND FORM's CARD OF 'kraitlaw17.WorldBuiltins'. -/
def worldBuiltinsUptoCard : Claim7 := { stood := { row := worldBuiltinsUptoRow, standIns := [], harness := (true, "4da3074802a7d71f98667f7c41bc54ec72b57e908c168459d4fd6011d5200f9e"), looks := false }, kinds := [], alts := [], laidByText := true, laidKinds := [.listed, .data], laidTests := true, laidLooks := .later }
def WorldBuiltinsUptoCardSaid : Prop := Claim7.holds Tryz.pinned (.plain (OpenSpec.upto worldBuiltinsSpec)) worldBuiltinsUptoCard
end Rows
end Go.Proofs.YtebdknkgplonmaaGreatDoor
