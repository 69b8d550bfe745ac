/-
  DERIVED. GIVEN WITH THE SEED: THE CARDS: each row of YtnchbpoopnjghaaGreatDoorRows.lean that lists a variable, with what it lists TIED to the program's text (the seventh form; the later family's looks); each row that meets fmt, with fmt's text TOLD by the authors' own Lean function (tested against real Go, not proved from fmt's source: count such statements apart). THE CARD IS WHAT COUNTS. Prove the row's statement (the work); the ties are given (YtnchbpoopnjghaaGreatDoorTie.lean); close each card by the builder's one call (the guide's Derived/Test/ToyasCard.lean, 'card_holds'). Laid BY PROGRAM, IN A SANDBOX (cutbox-door.mjs). By AI agents, Wed Nov 11 2026. No macro, syntax, notation, axiom, sorry.
-/
import Derived.Test.YtnchbpoopnjghaaGreatDoorRows
import GoSem.ClaimSeven
namespace Go.Proofs.YtnchbpoopnjghaaGreatDoor
namespace Rows

/-- THE TIED CARD OF 'setsquarelaw25.ConstraintKind'. -/
def constraintKindCard : Claim7 := { stood := { row := constraintKindRow, standIns := [], harness := (true, "25c86bd66589960307155246b8fe43c01520037888ea7c58eed9425ab0b3c4d4"), looks := true }, kinds := [], alts := [], laidByText := true, laidKinds := [.data, .data, .data, .data, .sentinel, .sentinel, .data, .data, .data, .data, .pinned], laidTests := true, laidLooks := .later }
def ConstraintKindCardSaid : Prop := Claim7.holds Tryz.pinned (.plain (OpenSpec.ofChange constraintKindSpec)) constraintKindCard

/-- THE TIED CARD OF 'setsquarelaw25.ConstraintValid'. -/
def constraintValidCard : Claim7 := { stood := { row := constraintValidRow, standIns := [], harness := (true, "25c86bd66589960307155246b8fe43c01520037888ea7c58eed9425ab0b3c4d4"), looks := true }, kinds := [], alts := [], laidByText := true, laidKinds := [.data, .data, .data, .data, .sentinel, .sentinel, .data, .data, .data, .data, .pinned], laidTests := true, laidLooks := .later }
def ConstraintValidCardSaid : Prop := Claim7.holds Tryz.pinned (.plain (OpenSpec.ofChange constraintValidSpec)) constraintValidCard

/-- THE TIED CARD OF 'setsquarelaw25.ConstraintValues'. -/
def constraintValuesCard : Claim7 := { stood := { row := constraintValuesRow, standIns := [], harness := (true, "25c86bd66589960307155246b8fe43c01520037888ea7c58eed9425ab0b3c4d4"), looks := true }, kinds := [], alts := [], laidByText := true, laidKinds := [.data, .data, .data, .data, .sentinel, .sentinel, .data, .data, .data, .data, .pinned], laidTests := true, laidLooks := .later }
def ConstraintValuesCardSaid : Prop := Claim7.holds Tryz.pinned (.plain (OpenSpec.ofChange constraintValuesSpec)) constraintValuesCard

/-- THE TIED CARD OF 'setsquarelaw25.ConstraintText'. -/
def constraintTextCard : Claim7 := { stood := { row := constraintTextRow, standIns := [], harness := (true, "25c86bd66589960307155246b8fe43c01520037888ea7c58eed9425ab0b3c4d4"), looks := true }, kinds := [], alts := [], laidByText := true, laidKinds := [.data, .data, .data, .data, .sentinel, .sentinel, .data, .data, .data, .data, .pinned], laidTests := true, laidLooks := .later }
def ConstraintTextCardSaid : Prop := Claim7.holds Tryz.pinned (.plain (OpenSpec.ofChange constraintTextSpec)) constraintTextCard

/-- THE TIED CARD OF 'setsquarelaw25.ConstraintParse'. -/
def constraintParseCard : Claim7 := { stood := { row := constraintParseRow, standIns := [], harness := (true, "25c86bd66589960307155246b8fe43c01520037888ea7c58eed9425ab0b3c4d4"), looks := true }, kinds := [], alts := [], laidByText := true, laidKinds := [.data, .data, .data, .data, .sentinel, .sentinel, .data, .data, .data, .data, .pinned], laidTests := true, laidLooks := .later }
def ConstraintParseCardSaid : Prop := Claim7.holds Tryz.pinned (.plain (OpenSpec.ofChange constraintParseSpec)) constraintParseCard

/-- THE TIED CARD OF 'setsquarelaw25.ConstraintRenumbered'. -/
def constraintRenumberedCard : Claim7 := { stood := { row := constraintRenumberedRow, standIns := [], harness := (true, "25c86bd66589960307155246b8fe43c01520037888ea7c58eed9425ab0b3c4d4"), looks := true }, kinds := [], alts := [], laidByText := true, laidKinds := [.data, .data, .data, .data, .sentinel, .sentinel, .data, .data, .data, .data, .pinned], laidTests := true, laidLooks := .later }
def ConstraintRenumberedCardSaid : Prop := Claim7.holds Tryz.pinned (.plain (OpenSpec.ofChange constraintRenumberedSpec)) constraintRenumberedCard

/-- THE TIED CARD OF 'setsquarelaw25.ConstraintShape'. -/
def constraintShapeCard : Claim7 := { stood := { row := constraintShapeRow, standIns := [], harness := (true, "25c86bd66589960307155246b8fe43c01520037888ea7c58eed9425ab0b3c4d4"), looks := true }, kinds := [], alts := [], laidByText := true, laidKinds := [.data, .data, .data, .data, .sentinel, .sentinel, .data, .data, .data, .data, .pinned], laidTests := true, laidLooks := .later }
def ConstraintShapeCardSaid : Prop := Claim7.holds Tryz.pinned (.plain (OpenSpec.ofChange constraintShapeSpec)) constraintShapeCard

/-- THE TIED CARD OF 'setsquarelaw25.ConstraintEqual'. -/
def constraintEqualCard : Claim7 := { stood := { row := constraintEqualRow, standIns := [], harness := (true, "25c86bd66589960307155246b8fe43c01520037888ea7c58eed9425ab0b3c4d4"), looks := true }, kinds := [], alts := [], laidByText := true, laidKinds := [.data, .data, .data, .data, .sentinel, .sentinel, .data, .data, .data, .data, .pinned], laidTests := true, laidLooks := .later }
def ConstraintEqualCardSaid : Prop := Claim7.holds Tryz.pinned (.plain (OpenSpec.ofChange constraintEqualSpec)) constraintEqualCard

/-- THE SECOND FORM's CARD OF 'setsquarelaw25.ConstraintKind'. -/
def constraintKindUptoCard : Claim7 := { stood := { row := constraintKindUptoRow, standIns := [], harness := (true, "25c86bd66589960307155246b8fe43c01520037888ea7c58eed9425ab0b3c4d4"), looks := true }, kinds := [], alts := [], laidByText := true, laidKinds := [.data, .data, .data, .data, .sentinel, .sentinel, .data, .data, .data, .data, .pinned], laidTests := true, laidLooks := .later }
def ConstraintKindUptoCardSaid : Prop := Claim7.holds Tryz.pinned (.plain (OpenSpec.upto constraintKindSpec)) constraintKindUptoCard

/-- THE SECOND FORM's CARD OF 'setsquarelaw25.ConstraintValid'. -/
def constraintValidUptoCard : Claim7 := { stood := { row := constraintValidUptoRow, standIns := [], harness := (true, "25c86bd66589960307155246b8fe43c01520037888ea7c58eed9425ab0b3c4d4"), looks := true }, kinds := [], alts := [], laidByText := true, laidKinds := [.data, .data, .data, .data, .sentinel, .sentinel, .data, .data, .data, .data, .pinned], laidTests := true, laidLooks := .later }
def ConstraintValidUptoCardSaid : Prop := Claim7.holds Tryz.pinned (.plain (OpenSpec.upto constraintValidSpec)) constraintValidUptoCard

/-- THE SECOND FORM's CARD OF 'setsquarelaw25.ConstraintValues'. -/
def constraintValuesUptoCard : Claim7 := { stood := { row := constraintValuesUptoRow, standIns := [], harness := (true, "25c86bd66589960307155246b8fe43c01520037888ea7c58eed9425ab0b3c4d4"), looks := true }, kinds := [], alts := [], laidByText := true, laidKinds := [.data, .data, .data, .data, .sentinel, .sentinel, .data, .data, .data, .data, .pinned], laidTests := true, laidLooks := .later }
def ConstraintValuesUptoCardSaid : Prop := Claim7.holds Tryz.pinned (.plain (OpenSpec.upto constraintValuesSpec)) constraintValuesUptoCard

/-- THE SECOND FORM's CARD OF 'setsquarelaw25.ConstraintText'. -/
def constraintTextUptoCard : Claim7 := { stood := { row := constraintTextUptoRow, standIns := [], harness := (true, "25c86bd66589960307155246b8fe43c01520037888ea7c58eed9425ab0b3c4d4"), looks := true }, kinds := [], alts := [], laidByText := true, laidKinds := [.data, .data, .data, .data, .sentinel, .sentinel, .data, .data, .data, .data, .pinned], laidTests := true, laidLooks := .later }
def ConstraintTextUptoCardSaid : Prop := Claim7.holds Tryz.pinned (.plain (OpenSpec.upto constraintTextSpec)) constraintTextUptoCard

/-- THE SECOND FORM's CARD OF 'setsquarelaw25.ConstraintParse'. -/
def constraintParseUptoCard : Claim7 := { stood := { row := constraintParseUptoRow, standIns := [], harness := (true, "25c86bd66589960307155246b8fe43c01520037888ea7c58eed9425ab0b3c4d4"), looks := true }, kinds := [], alts := [], laidByText := true, laidKinds := [.data, .data, .data, .data, .sentinel, .sentinel, .data, .data, .data, .data, .pinned], laidTests := true, laidLooks := .later }
def ConstraintParseUptoCardSaid : Prop := Claim7.holds Tryz.pinned (.plain (OpenSpec.upto constraintParseSpec)) constraintParseUptoCard

/-- THE SECOND FORM's CARD OF 'setsquarelaw25.ConstraintRenumbered'. -/
def constraintRenumberedUptoCard : Claim7 := { stood := { row := constraintRenumberedUptoRow, standIns := [], harness := (true, "25c86bd66589960307155246b8fe43c01520037888ea7c58eed9425ab0b3c4d4"), looks := true }, kinds := [], alts := [], laidByText := true, laidKinds := [.data, .data, .data, .data, .sentinel, .sentinel, .data, .data, .data, .data, .pinned], laidTests := true, laidLooks := .later }
def ConstraintRenumberedUptoCardSaid : Prop := Claim7.holds Tryz.pinned (.plain (OpenSpec.upto constraintRenumberedSpec)) constraintRenumberedUptoCard

/-- THE SECOND FORM's CARD OF 'setsquarelaw25.ConstraintShape'. -/
def constraintShapeUptoCard : Claim7 := { stood := { row := constraintShapeUptoRow, standIns := [], harness := (true, "25c86bd66589960307155246b8fe43c01520037888ea7c58eed9425ab0b3c4d4"), looks := true }, kinds := [], alts := [], laidByText := true, laidKinds := [.data, .data, .data, .data, .sentinel, .sentinel, .data, .data, .data, .data, .pinned], laidTests := true, laidLooks := .later }
def ConstraintShapeUptoCardSaid : Prop := Claim7.holds Tryz.pinned (.plain (OpenSpec.upto constraintShapeSpec)) constraintShapeUptoCard

/-- THE SECOND FORM's CARD OF 'setsquarelaw25.ConstraintEqual'. -/
def constraintEqualUptoCard : Claim7 := { stood := { row := constraintEqualUptoRow, standIns := [], harness := (true, "25c86bd66589960307155246b8fe43c01520037888ea7c58eed9425ab0b3c4d4"), looks := true }, kinds := [], alts := [], laidByText := true, laidKinds := [.data, .data, .data, .data, .sentinel, .sentinel, .data, .data, .data, .data, .pinned], laidTests := true, laidLooks := .later }
def ConstraintEqualUptoCardSaid : Prop := Claim7.holds Tryz.pinned (.plain (OpenSpec.upto constraintEqualSpec)) constraintEqualUptoCard
end Rows
end Go.Proofs.YtnchbpoopnjghaaGreatDoor
