/-
  DERIVED. GIVEN WITH THE SEED: THE CARDS: each row of YtmkggcjajcdlcaaGreatDoorRows.lean that lists a variable, with what it lists TIED to the program's text (the seventh form; the later family's looks); each row that meets fmt, with fmt's text TOLD by the authors' own Lean function (tested against real Go, not proved from fmt's source: count such statements apart). THE CARD IS WHAT COUNTS. Prove the row's statement (the work); the ties are given (YtmkggcjajcdlcaaGreatDoorTie.lean); close each card by the builder's one call (the guide's Derived/Test/ToyasCard.lean, 'card_holds'). Laid BY PROGRAM, IN A SANDBOX (cutbox-door.mjs). By AI agents, Wed Nov 11 2026. No macro, syntax, notation, axiom, sorry.
-/
import Derived.Test.YtmkggcjajcdlcaaGreatDoorRows
import GoSem.ClaimSeven
namespace Go.Proofs.YtmkggcjajcdlcaaGreatDoor
namespace Rows

/-- THE TIED CARD OF 'setsquarelaw24.ParameterOrder'. -/
def parameterOrderCard : Claim7 := { stood := { row := parameterOrderRow, standIns := [], harness := (true, "bd1ed385b8fe58bcb80dfefc9852ab57aba966816f780e690fbe950f19441307"), looks := false }, kinds := [], alts := [], laidByText := true, laidKinds := [.data, .data, .data, .data, .data], laidTests := true, laidLooks := .later }
def ParameterOrderCardSaid : Prop := Claim7.holds Tryz.pinned (.plain (OpenSpec.ofChange parameterOrderSpec)) parameterOrderCard

/-- THE TIED CARD OF 'setsquarelaw24.ParameterSet'. -/
def parameterSetCard : Claim7 := { stood := { row := parameterSetRow, standIns := [], harness := (true, "bd1ed385b8fe58bcb80dfefc9852ab57aba966816f780e690fbe950f19441307"), looks := false }, kinds := [], alts := [], laidByText := true, laidKinds := [.data, .data, .data, .data, .data], laidTests := true, laidLooks := .later }
def ParameterSetCardSaid : Prop := Claim7.holds Tryz.pinned (.plain (OpenSpec.ofChange parameterSetSpec)) parameterSetCard

/-- THE TIED CARD OF 'setsquarelaw24.ParameterRename'. -/
def parameterRenameCard : Claim7 := { stood := { row := parameterRenameRow, standIns := [], harness := (true, "bd1ed385b8fe58bcb80dfefc9852ab57aba966816f780e690fbe950f19441307"), looks := false }, kinds := [], alts := [], laidByText := true, laidKinds := [.data, .data, .data, .data, .data], laidTests := true, laidLooks := .later }
def ParameterRenameCardSaid : Prop := Claim7.holds Tryz.pinned (.plain (OpenSpec.ofChange parameterRenameSpec)) parameterRenameCard

/-- THE TIED CARD OF 'setsquarelaw24.ParameterDependents'. -/
def parameterDependentsCard : Claim7 := { stood := { row := parameterDependentsRow, standIns := [], harness := (true, "bd1ed385b8fe58bcb80dfefc9852ab57aba966816f780e690fbe950f19441307"), looks := false }, kinds := [], alts := [], laidByText := true, laidKinds := [.data, .data, .data, .data, .data], laidTests := true, laidLooks := .later }
def ParameterDependentsCardSaid : Prop := Claim7.holds Tryz.pinned (.plain (OpenSpec.ofChange parameterDependentsSpec)) parameterDependentsCard

/-- THE TIED CARD OF 'setsquarelaw24.ParameterEval'. -/
def parameterEvalCard : Claim7 := { stood := { row := parameterEvalRow, standIns := [], harness := (true, "bd1ed385b8fe58bcb80dfefc9852ab57aba966816f780e690fbe950f19441307"), looks := false }, kinds := [], alts := [], laidByText := true, laidKinds := [.data, .data, .data, .data, .data], laidTests := true, laidLooks := .later }
def ParameterEvalCardSaid : Prop := Claim7.holds Tryz.pinned (.plain (OpenSpec.ofChange parameterEvalSpec)) parameterEvalCard

/-- THE TIED CARD OF 'setsquarelaw24.ParameterUnaffected'. -/
def parameterUnaffectedCard : Claim7 := { stood := { row := parameterUnaffectedRow, standIns := [], harness := (true, "bd1ed385b8fe58bcb80dfefc9852ab57aba966816f780e690fbe950f19441307"), looks := false }, kinds := [], alts := [], laidByText := true, laidKinds := [.data, .data, .data, .data, .data], laidTests := true, laidLooks := .later }
def ParameterUnaffectedCardSaid : Prop := Claim7.holds Tryz.pinned (.plain (OpenSpec.ofChange parameterUnaffectedSpec)) parameterUnaffectedCard

/-- THE TIED CARD OF 'setsquarelaw24.ParameterValues'. -/
def parameterValuesCard : Claim7 := { stood := { row := parameterValuesRow, standIns := [], harness := (true, "bd1ed385b8fe58bcb80dfefc9852ab57aba966816f780e690fbe950f19441307"), looks := false }, kinds := [], alts := [], laidByText := true, laidKinds := [.data, .data, .data, .data, .data], laidTests := true, laidLooks := .later }
def ParameterValuesCardSaid : Prop := Claim7.holds Tryz.pinned (.plain (OpenSpec.ofChange parameterValuesSpec)) parameterValuesCard

/-- THE TIED CARD OF 'setsquarelaw24.ParameterRemove'. -/
def parameterRemoveCard : Claim7 := { stood := { row := parameterRemoveRow, standIns := [], harness := (true, "bd1ed385b8fe58bcb80dfefc9852ab57aba966816f780e690fbe950f19441307"), looks := false }, kinds := [], alts := [], laidByText := true, laidKinds := [.data, .data, .data, .data, .data], laidTests := true, laidLooks := .later }
def ParameterRemoveCardSaid : Prop := Claim7.holds Tryz.pinned (.plain (OpenSpec.ofChange parameterRemoveSpec)) parameterRemoveCard

/-- THE TIED CARD OF 'setsquarelaw02.RationalSqrt'. -/
def rationalSqrtCard : Claim7 := { stood := { row := rationalSqrtRow, standIns := [], harness := (true, "bd1ed385b8fe58bcb80dfefc9852ab57aba966816f780e690fbe950f19441307"), looks := false }, kinds := [], alts := [], laidByText := true, laidKinds := [.data, .data, .data, .data, .pinned], laidTests := true, laidLooks := .later }
def RationalSqrtCardSaid : Prop := Claim7.holds Tryz.pinned (.plain (OpenSpec.ofChange rationalSqrtSpec)) rationalSqrtCard

/-- THE SECOND FORM's CARD OF 'setsquarelaw24.ParameterOrder'. -/
def parameterOrderUptoCard : Claim7 := { stood := { row := parameterOrderUptoRow, standIns := [], harness := (true, "bd1ed385b8fe58bcb80dfefc9852ab57aba966816f780e690fbe950f19441307"), looks := false }, kinds := [], alts := [], laidByText := true, laidKinds := [.data, .data, .data, .data, .data], laidTests := true, laidLooks := .later }
def ParameterOrderUptoCardSaid : Prop := Claim7.holds Tryz.pinned (.plain (OpenSpec.upto parameterOrderSpec)) parameterOrderUptoCard

/-- THE SECOND FORM's CARD OF 'setsquarelaw24.ParameterSet'. -/
def parameterSetUptoCard : Claim7 := { stood := { row := parameterSetUptoRow, standIns := [], harness := (true, "bd1ed385b8fe58bcb80dfefc9852ab57aba966816f780e690fbe950f19441307"), looks := false }, kinds := [], alts := [], laidByText := true, laidKinds := [.data, .data, .data, .data, .data], laidTests := true, laidLooks := .later }
def ParameterSetUptoCardSaid : Prop := Claim7.holds Tryz.pinned (.plain (OpenSpec.upto parameterSetSpec)) parameterSetUptoCard

/-- THE SECOND FORM's CARD OF 'setsquarelaw24.ParameterRename'. -/
def parameterRenameUptoCard : Claim7 := { stood := { row := parameterRenameUptoRow, standIns := [], harness := (true, "bd1ed385b8fe58bcb80dfefc9852ab57aba966816f780e690fbe950f19441307"), looks := false }, kinds := [], alts := [], laidByText := true, laidKinds := [.data, .data, .data, .data, .data], laidTests := true, laidLooks := .later }
def ParameterRenameUptoCardSaid : Prop := Claim7.holds Tryz.pinned (.plain (OpenSpec.upto parameterRenameSpec)) parameterRenameUptoCard

/-- THE SECOND FORM's CARD OF 'setsquarelaw24.ParameterDependents'. -/
def parameterDependentsUptoCard : Claim7 := { stood := { row := parameterDependentsUptoRow, standIns := [], harness := (true, "bd1ed385b8fe58bcb80dfefc9852ab57aba966816f780e690fbe950f19441307"), looks := false }, kinds := [], alts := [], laidByText := true, laidKinds := [.data, .data, .data, .data, .data], laidTests := true, laidLooks := .later }
def ParameterDependentsUptoCardSaid : Prop := Claim7.holds Tryz.pinned (.plain (OpenSpec.upto parameterDependentsSpec)) parameterDependentsUptoCard

/-- THE SECOND FORM's CARD OF 'setsquarelaw24.ParameterEval'. -/
def parameterEvalUptoCard : Claim7 := { stood := { row := parameterEvalUptoRow, standIns := [], harness := (true, "bd1ed385b8fe58bcb80dfefc9852ab57aba966816f780e690fbe950f19441307"), looks := false }, kinds := [], alts := [], laidByText := true, laidKinds := [.data, .data, .data, .data, .data], laidTests := true, laidLooks := .later }
def ParameterEvalUptoCardSaid : Prop := Claim7.holds Tryz.pinned (.plain (OpenSpec.upto parameterEvalSpec)) parameterEvalUptoCard

/-- THE SECOND FORM's CARD OF 'setsquarelaw24.ParameterUnaffected'. -/
def parameterUnaffectedUptoCard : Claim7 := { stood := { row := parameterUnaffectedUptoRow, standIns := [], harness := (true, "bd1ed385b8fe58bcb80dfefc9852ab57aba966816f780e690fbe950f19441307"), looks := false }, kinds := [], alts := [], laidByText := true, laidKinds := [.data, .data, .data, .data, .data], laidTests := true, laidLooks := .later }
def ParameterUnaffectedUptoCardSaid : Prop := Claim7.holds Tryz.pinned (.plain (OpenSpec.upto parameterUnaffectedSpec)) parameterUnaffectedUptoCard

/-- THE SECOND FORM's CARD OF 'setsquarelaw24.ParameterValues'. -/
def parameterValuesUptoCard : Claim7 := { stood := { row := parameterValuesUptoRow, standIns := [], harness := (true, "bd1ed385b8fe58bcb80dfefc9852ab57aba966816f780e690fbe950f19441307"), looks := false }, kinds := [], alts := [], laidByText := true, laidKinds := [.data, .data, .data, .data, .data], laidTests := true, laidLooks := .later }
def ParameterValuesUptoCardSaid : Prop := Claim7.holds Tryz.pinned (.plain (OpenSpec.upto parameterValuesSpec)) parameterValuesUptoCard

/-- THE SECOND FORM's CARD OF 'setsquarelaw24.ParameterRemove'. -/
def parameterRemoveUptoCard : Claim7 := { stood := { row := parameterRemoveUptoRow, standIns := [], harness := (true, "bd1ed385b8fe58bcb80dfefc9852ab57aba966816f780e690fbe950f19441307"), looks := false }, kinds := [], alts := [], laidByText := true, laidKinds := [.data, .data, .data, .data, .data], laidTests := true, laidLooks := .later }
def ParameterRemoveUptoCardSaid : Prop := Claim7.holds Tryz.pinned (.plain (OpenSpec.upto parameterRemoveSpec)) parameterRemoveUptoCard

/-- THE SECOND FORM's CARD OF 'setsquarelaw02.RationalSqrt'. -/
def rationalSqrtUptoCard : Claim7 := { stood := { row := rationalSqrtUptoRow, standIns := [], harness := (true, "bd1ed385b8fe58bcb80dfefc9852ab57aba966816f780e690fbe950f19441307"), looks := false }, kinds := [], alts := [], laidByText := true, laidKinds := [.data, .data, .data, .data, .pinned], laidTests := true, laidLooks := .later }
def RationalSqrtUptoCardSaid : Prop := Claim7.holds Tryz.pinned (.plain (OpenSpec.upto rationalSqrtSpec)) rationalSqrtUptoCard
end Rows
end Go.Proofs.YtmkggcjajcdlcaaGreatDoor
