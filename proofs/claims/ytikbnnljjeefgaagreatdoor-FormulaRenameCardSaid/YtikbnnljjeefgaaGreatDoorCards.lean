/-
  DERIVED. GIVEN WITH THE SEED: THE CARDS: each row of YtikbnnljjeefgaaGreatDoorRows.lean that lists a variable, with what it lists TIED to the program's text (the seventh form; the later family's looks); each row that meets fmt, with fmt's text TOLD by the authors' own Lean function (tested against real Go, not proved from fmt's source: count such statements apart). THE CARD IS WHAT COUNTS. Prove the row's statement (the work); the ties are given (YtikbnnljjeefgaaGreatDoorTie.lean); close each card by the builder's one call (the guide's Derived/Test/ToyasCard.lean, 'card_holds'). Laid BY PROGRAM, IN A SANDBOX (cutbox-door.mjs). By AI agents, Wed Nov 11 2026. No macro, syntax, notation, axiom, sorry.
-/
import Derived.Test.YtikbnnljjeefgaaGreatDoorRows
import GoSem.ClaimSeven
namespace Go.Proofs.YtikbnnljjeefgaaGreatDoor
namespace Rows

/-- THE TIED CARD OF 'setsquarelaw22.FormulaValid'. -/
def formulaValidCard : Claim7 := { stood := { row := formulaValidRow, standIns := [], harness := (true, "ce971bfd6a61219f487c5e41344583d2d50e39ba8e1549497b15fe78bb6ab68d"), looks := false }, kinds := [], alts := [], laidByText := true, laidKinds := [.data, .data, .data, .data, .data, .data, .pinned], laidTests := true, laidLooks := .later }
def FormulaValidCardSaid : Prop := Claim7.holds Tryz.pinned (.plain (OpenSpec.ofChange formulaValidSpec)) formulaValidCard

/-- THE TIED CARD OF 'setsquarelaw22.FormulaParse'. -/
def formulaParseCard : Claim7 := { stood := { row := formulaParseRow, standIns := [], harness := (true, "ce971bfd6a61219f487c5e41344583d2d50e39ba8e1549497b15fe78bb6ab68d"), looks := false }, kinds := [], alts := [], laidByText := true, laidKinds := [.data, .data, .data, .data, .data, .data, .pinned], laidTests := true, laidLooks := .later }
def FormulaParseCardSaid : Prop := Claim7.holds Tryz.pinned (.plain (OpenSpec.ofChange formulaParseSpec)) formulaParseCard

/-- THE TIED CARD OF 'setsquarelaw22.FormulaRoundTrip'. -/
def formulaRoundTripCard : Claim7 := { stood := { row := formulaRoundTripRow, standIns := [], harness := (true, "ce971bfd6a61219f487c5e41344583d2d50e39ba8e1549497b15fe78bb6ab68d"), looks := false }, kinds := [], alts := [], laidByText := true, laidKinds := [.data, .data, .data, .data, .data, .data, .pinned], laidTests := true, laidLooks := .later }
def FormulaRoundTripCardSaid : Prop := Claim7.holds Tryz.pinned (.plain (OpenSpec.ofChange formulaRoundTripSpec)) formulaRoundTripCard

/-- THE TIED CARD OF 'setsquarelaw22.FormulaReturns'. -/
def formulaReturnsCard : Claim7 := { stood := { row := formulaReturnsRow, standIns := [], harness := (true, "ce971bfd6a61219f487c5e41344583d2d50e39ba8e1549497b15fe78bb6ab68d"), looks := false }, kinds := [], alts := [], laidByText := true, laidKinds := [.data, .data, .data, .data, .data, .data, .pinned], laidTests := true, laidLooks := .later }
def FormulaReturnsCardSaid : Prop := Claim7.holds Tryz.pinned (.plain (OpenSpec.ofChange formulaReturnsSpec)) formulaReturnsCard

/-- THE TIED CARD OF 'setsquarelaw22.FormulaOperands'. -/
def formulaOperandsCard : Claim7 := { stood := { row := formulaOperandsRow, standIns := [], harness := (true, "ce971bfd6a61219f487c5e41344583d2d50e39ba8e1549497b15fe78bb6ab68d"), looks := false }, kinds := [], alts := [], laidByText := true, laidKinds := [.data, .data, .data, .data, .data, .data, .pinned], laidTests := true, laidLooks := .later }
def FormulaOperandsCardSaid : Prop := Claim7.holds Tryz.pinned (.plain (OpenSpec.ofChange formulaOperandsSpec)) formulaOperandsCard

/-- THE TIED CARD OF 'setsquarelaw22.FormulaRename'. -/
def formulaRenameCard : Claim7 := { stood := { row := formulaRenameRow, standIns := [], harness := (true, "ce971bfd6a61219f487c5e41344583d2d50e39ba8e1549497b15fe78bb6ab68d"), looks := false }, kinds := [], alts := [], laidByText := true, laidKinds := [.data, .data, .data, .data, .data, .data, .pinned], laidTests := true, laidLooks := .later }
def FormulaRenameCardSaid : Prop := Claim7.holds Tryz.pinned (.plain (OpenSpec.ofChange formulaRenameSpec)) formulaRenameCard

/-- THE TIED CARD OF 'setsquarelaw22.FormulaEqual'. -/
def formulaEqualCard : Claim7 := { stood := { row := formulaEqualRow, standIns := [], harness := (true, "ce971bfd6a61219f487c5e41344583d2d50e39ba8e1549497b15fe78bb6ab68d"), looks := false }, kinds := [], alts := [], laidByText := true, laidKinds := [.data, .data, .data, .data, .data, .data, .pinned], laidTests := true, laidLooks := .later }
def FormulaEqualCardSaid : Prop := Claim7.holds Tryz.pinned (.plain (OpenSpec.ofChange formulaEqualSpec)) formulaEqualCard

/-- THE SECOND FORM's CARD OF 'setsquarelaw22.FormulaValid'. -/
def formulaValidUptoCard : Claim7 := { stood := { row := formulaValidUptoRow, standIns := [], harness := (true, "ce971bfd6a61219f487c5e41344583d2d50e39ba8e1549497b15fe78bb6ab68d"), looks := false }, kinds := [], alts := [], laidByText := true, laidKinds := [.data, .data, .data, .data, .data, .data, .pinned], laidTests := true, laidLooks := .later }
def FormulaValidUptoCardSaid : Prop := Claim7.holds Tryz.pinned (.plain (OpenSpec.upto formulaValidSpec)) formulaValidUptoCard

/-- THE SECOND FORM's CARD OF 'setsquarelaw22.FormulaParse'. -/
def formulaParseUptoCard : Claim7 := { stood := { row := formulaParseUptoRow, standIns := [], harness := (true, "ce971bfd6a61219f487c5e41344583d2d50e39ba8e1549497b15fe78bb6ab68d"), looks := false }, kinds := [], alts := [], laidByText := true, laidKinds := [.data, .data, .data, .data, .data, .data, .pinned], laidTests := true, laidLooks := .later }
def FormulaParseUptoCardSaid : Prop := Claim7.holds Tryz.pinned (.plain (OpenSpec.upto formulaParseSpec)) formulaParseUptoCard

/-- THE SECOND FORM's CARD OF 'setsquarelaw22.FormulaRoundTrip'. -/
def formulaRoundTripUptoCard : Claim7 := { stood := { row := formulaRoundTripUptoRow, standIns := [], harness := (true, "ce971bfd6a61219f487c5e41344583d2d50e39ba8e1549497b15fe78bb6ab68d"), looks := false }, kinds := [], alts := [], laidByText := true, laidKinds := [.data, .data, .data, .data, .data, .data, .pinned], laidTests := true, laidLooks := .later }
def FormulaRoundTripUptoCardSaid : Prop := Claim7.holds Tryz.pinned (.plain (OpenSpec.upto formulaRoundTripSpec)) formulaRoundTripUptoCard

/-- THE SECOND FORM's CARD OF 'setsquarelaw22.FormulaReturns'. -/
def formulaReturnsUptoCard : Claim7 := { stood := { row := formulaReturnsUptoRow, standIns := [], harness := (true, "ce971bfd6a61219f487c5e41344583d2d50e39ba8e1549497b15fe78bb6ab68d"), looks := false }, kinds := [], alts := [], laidByText := true, laidKinds := [.data, .data, .data, .data, .data, .data, .pinned], laidTests := true, laidLooks := .later }
def FormulaReturnsUptoCardSaid : Prop := Claim7.holds Tryz.pinned (.plain (OpenSpec.upto formulaReturnsSpec)) formulaReturnsUptoCard

/-- THE SECOND FORM's CARD OF 'setsquarelaw22.FormulaOperands'. -/
def formulaOperandsUptoCard : Claim7 := { stood := { row := formulaOperandsUptoRow, standIns := [], harness := (true, "ce971bfd6a61219f487c5e41344583d2d50e39ba8e1549497b15fe78bb6ab68d"), looks := false }, kinds := [], alts := [], laidByText := true, laidKinds := [.data, .data, .data, .data, .data, .data, .pinned], laidTests := true, laidLooks := .later }
def FormulaOperandsUptoCardSaid : Prop := Claim7.holds Tryz.pinned (.plain (OpenSpec.upto formulaOperandsSpec)) formulaOperandsUptoCard

/-- THE SECOND FORM's CARD OF 'setsquarelaw22.FormulaRename'. -/
def formulaRenameUptoCard : Claim7 := { stood := { row := formulaRenameUptoRow, standIns := [], harness := (true, "ce971bfd6a61219f487c5e41344583d2d50e39ba8e1549497b15fe78bb6ab68d"), looks := false }, kinds := [], alts := [], laidByText := true, laidKinds := [.data, .data, .data, .data, .data, .data, .pinned], laidTests := true, laidLooks := .later }
def FormulaRenameUptoCardSaid : Prop := Claim7.holds Tryz.pinned (.plain (OpenSpec.upto formulaRenameSpec)) formulaRenameUptoCard

/-- THE SECOND FORM's CARD OF 'setsquarelaw22.FormulaEqual'. -/
def formulaEqualUptoCard : Claim7 := { stood := { row := formulaEqualUptoRow, standIns := [], harness := (true, "ce971bfd6a61219f487c5e41344583d2d50e39ba8e1549497b15fe78bb6ab68d"), looks := false }, kinds := [], alts := [], laidByText := true, laidKinds := [.data, .data, .data, .data, .data, .data, .pinned], laidTests := true, laidLooks := .later }
def FormulaEqualUptoCardSaid : Prop := Claim7.holds Tryz.pinned (.plain (OpenSpec.upto formulaEqualSpec)) formulaEqualUptoCard
end Rows
end Go.Proofs.YtikbnnljjeefgaaGreatDoor
