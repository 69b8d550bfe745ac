/-
  DERIVED. GIVEN WITH THE SEED: THE CARDS: each row of YtmpadildchphgaaGreatDoorRows.lean that lists a variable, with what it lists TIED to the program's text (the seventh form; the later family's looks); each row that meets fmt, with fmt's text TOLD by the authors' own Lean function (tested against real Go, not proved from fmt's source: count such statements apart). THE CARD IS WHAT COUNTS. Prove the row's statement (the work); the ties are given (YtmpadildchphgaaGreatDoorTie.lean); close each card by the builder's one call (the guide's Derived/Test/ToyasCard.lean, 'card_holds'). Laid BY PROGRAM, IN A SANDBOX (cutbox-door.mjs). By AI agents, Wed Nov 11 2026. No macro, syntax, notation, axiom, sorry.
-/
import Derived.Test.YtmpadildchphgaaGreatDoorRows
import GoSem.ClaimSeven
namespace Go.Proofs.YtmpadildchphgaaGreatDoor
namespace Rows

/-- THE TIED CARD OF 'setsquarelaw23.UnitArithmetic'. -/
def unitArithmeticCard : Claim7 := { stood := { row := unitArithmeticRow, standIns := [], harness := (true, "c85a1a535918bc2545e059ab9f24f5f9242015ab5fd3d2e0e636bf26319e3cb4"), looks := false }, kinds := [], alts := [], laidByText := true, laidKinds := [.data, .data, .data, .data], laidTests := true, laidLooks := .later }
def UnitArithmeticCardSaid : Prop := Claim7.holds Tryz.pinned (.plain (OpenSpec.ofChange unitArithmeticSpec)) unitArithmeticCard

/-- THE TIED CARD OF 'setsquarelaw23.UnitEval'. -/
def unitEvalCard : Claim7 := { stood := { row := unitEvalRow, standIns := [], harness := (true, "c85a1a535918bc2545e059ab9f24f5f9242015ab5fd3d2e0e636bf26319e3cb4"), looks := false }, kinds := [], alts := [], laidByText := true, laidKinds := [.data, .data, .data, .data], laidTests := true, laidLooks := .later }
def UnitEvalCardSaid : Prop := Claim7.holds Tryz.pinned (.plain (OpenSpec.ofChange unitEvalSpec)) unitEvalCard

/-- THE TIED CARD OF 'setsquarelaw23.UnitFormat'. -/
def unitFormatCard : Claim7 := { stood := { row := unitFormatRow, standIns := [], harness := (true, "c85a1a535918bc2545e059ab9f24f5f9242015ab5fd3d2e0e636bf26319e3cb4"), looks := false }, kinds := [], alts := [], laidByText := true, laidKinds := [.data, .data, .data, .data], laidTests := true, laidLooks := .later }
def UnitFormatCardSaid : Prop := Claim7.holds Tryz.pinned (.plain (OpenSpec.ofChange unitFormatSpec)) unitFormatCard

/-- THE TIED CARD OF 'setsquarelaw23.UnitInverse'. -/
def unitInverseCard : Claim7 := { stood := { row := unitInverseRow, standIns := [], harness := (true, "c85a1a535918bc2545e059ab9f24f5f9242015ab5fd3d2e0e636bf26319e3cb4"), looks := false }, kinds := [], alts := [], laidByText := true, laidKinds := [.data, .data, .data, .data], laidTests := true, laidLooks := .later }
def UnitInverseCardSaid : Prop := Claim7.holds Tryz.pinned (.plain (OpenSpec.ofChange unitInverseSpec)) unitInverseCard

/-- THE TIED CARD OF 'setsquarelaw23.UnitSubstitution'. -/
def unitSubstitutionCard : Claim7 := { stood := { row := unitSubstitutionRow, standIns := [], harness := (true, "c85a1a535918bc2545e059ab9f24f5f9242015ab5fd3d2e0e636bf26319e3cb4"), looks := false }, kinds := [], alts := [], laidByText := true, laidKinds := [.data, .data, .data, .data], laidTests := true, laidLooks := .later }
def UnitSubstitutionCardSaid : Prop := Claim7.holds Tryz.pinned (.plain (OpenSpec.ofChange unitSubstitutionSpec)) unitSubstitutionCard

/-- THE TIED CARD OF 'setsquarelaw23.UnitTable'. -/
def unitTableCard : Claim7 := { stood := { row := unitTableRow, standIns := [], harness := (true, "c85a1a535918bc2545e059ab9f24f5f9242015ab5fd3d2e0e636bf26319e3cb4"), looks := false }, kinds := [], alts := [], laidByText := true, laidKinds := [.data, .data, .data, .data], laidTests := true, laidLooks := .later }
def UnitTableCardSaid : Prop := Claim7.holds Tryz.pinned (.plain (OpenSpec.ofChange unitTableSpec)) unitTableCard

/-- THE TIED CARD OF 'setsquarelaw23.UnitConvert'. -/
def unitConvertCard : Claim7 := { stood := { row := unitConvertRow, standIns := [], harness := (true, "c85a1a535918bc2545e059ab9f24f5f9242015ab5fd3d2e0e636bf26319e3cb4"), looks := false }, kinds := [], alts := [], laidByText := true, laidKinds := [.data, .data, .data, .data], laidTests := true, laidLooks := .later }
def UnitConvertCardSaid : Prop := Claim7.holds Tryz.pinned (.plain (OpenSpec.ofChange unitConvertSpec)) unitConvertCard

/-- THE SECOND FORM's CARD OF 'setsquarelaw23.UnitArithmetic'. -/
def unitArithmeticUptoCard : Claim7 := { stood := { row := unitArithmeticUptoRow, standIns := [], harness := (true, "c85a1a535918bc2545e059ab9f24f5f9242015ab5fd3d2e0e636bf26319e3cb4"), looks := false }, kinds := [], alts := [], laidByText := true, laidKinds := [.data, .data, .data, .data], laidTests := true, laidLooks := .later }
def UnitArithmeticUptoCardSaid : Prop := Claim7.holds Tryz.pinned (.plain (OpenSpec.upto unitArithmeticSpec)) unitArithmeticUptoCard

/-- THE SECOND FORM's CARD OF 'setsquarelaw23.UnitEval'. -/
def unitEvalUptoCard : Claim7 := { stood := { row := unitEvalUptoRow, standIns := [], harness := (true, "c85a1a535918bc2545e059ab9f24f5f9242015ab5fd3d2e0e636bf26319e3cb4"), looks := false }, kinds := [], alts := [], laidByText := true, laidKinds := [.data, .data, .data, .data], laidTests := true, laidLooks := .later }
def UnitEvalUptoCardSaid : Prop := Claim7.holds Tryz.pinned (.plain (OpenSpec.upto unitEvalSpec)) unitEvalUptoCard

/-- THE SECOND FORM's CARD OF 'setsquarelaw23.UnitFormat'. -/
def unitFormatUptoCard : Claim7 := { stood := { row := unitFormatUptoRow, standIns := [], harness := (true, "c85a1a535918bc2545e059ab9f24f5f9242015ab5fd3d2e0e636bf26319e3cb4"), looks := false }, kinds := [], alts := [], laidByText := true, laidKinds := [.data, .data, .data, .data], laidTests := true, laidLooks := .later }
def UnitFormatUptoCardSaid : Prop := Claim7.holds Tryz.pinned (.plain (OpenSpec.upto unitFormatSpec)) unitFormatUptoCard

/-- THE SECOND FORM's CARD OF 'setsquarelaw23.UnitInverse'. -/
def unitInverseUptoCard : Claim7 := { stood := { row := unitInverseUptoRow, standIns := [], harness := (true, "c85a1a535918bc2545e059ab9f24f5f9242015ab5fd3d2e0e636bf26319e3cb4"), looks := false }, kinds := [], alts := [], laidByText := true, laidKinds := [.data, .data, .data, .data], laidTests := true, laidLooks := .later }
def UnitInverseUptoCardSaid : Prop := Claim7.holds Tryz.pinned (.plain (OpenSpec.upto unitInverseSpec)) unitInverseUptoCard

/-- THE SECOND FORM's CARD OF 'setsquarelaw23.UnitSubstitution'. -/
def unitSubstitutionUptoCard : Claim7 := { stood := { row := unitSubstitutionUptoRow, standIns := [], harness := (true, "c85a1a535918bc2545e059ab9f24f5f9242015ab5fd3d2e0e636bf26319e3cb4"), looks := false }, kinds := [], alts := [], laidByText := true, laidKinds := [.data, .data, .data, .data], laidTests := true, laidLooks := .later }
def UnitSubstitutionUptoCardSaid : Prop := Claim7.holds Tryz.pinned (.plain (OpenSpec.upto unitSubstitutionSpec)) unitSubstitutionUptoCard

/-- THE SECOND FORM's CARD OF 'setsquarelaw23.UnitTable'. -/
def unitTableUptoCard : Claim7 := { stood := { row := unitTableUptoRow, standIns := [], harness := (true, "c85a1a535918bc2545e059ab9f24f5f9242015ab5fd3d2e0e636bf26319e3cb4"), looks := false }, kinds := [], alts := [], laidByText := true, laidKinds := [.data, .data, .data, .data], laidTests := true, laidLooks := .later }
def UnitTableUptoCardSaid : Prop := Claim7.holds Tryz.pinned (.plain (OpenSpec.upto unitTableSpec)) unitTableUptoCard

/-- THE SECOND FORM's CARD OF 'setsquarelaw23.UnitConvert'. -/
def unitConvertUptoCard : Claim7 := { stood := { row := unitConvertUptoRow, standIns := [], harness := (true, "c85a1a535918bc2545e059ab9f24f5f9242015ab5fd3d2e0e636bf26319e3cb4"), looks := false }, kinds := [], alts := [], laidByText := true, laidKinds := [.data, .data, .data, .data], laidTests := true, laidLooks := .later }
def UnitConvertUptoCardSaid : Prop := Claim7.holds Tryz.pinned (.plain (OpenSpec.upto unitConvertSpec)) unitConvertUptoCard
end Rows
end Go.Proofs.YtmpadildchphgaaGreatDoor
