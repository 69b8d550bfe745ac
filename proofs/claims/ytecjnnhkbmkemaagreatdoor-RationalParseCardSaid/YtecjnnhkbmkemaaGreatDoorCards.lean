/-
  DERIVED. GIVEN WITH THE SEED: THE CARDS: each row of YtecjnnhkbmkemaaGreatDoorRows.lean that lists a variable, with what it lists TIED to the program's text (the seventh form; the later family's looks); each row that meets fmt, with fmt's text TOLD by the authors' own Lean function (tested against real Go, not proved from fmt's source: count such statements apart). THE CARD IS WHAT COUNTS. Prove the row's statement (the work); the ties are given (YtecjnnhkbmkemaaGreatDoorTie.lean); close each card by the builder's one call (the guide's Derived/Test/ToyasCard.lean, 'card_holds'). Laid BY PROGRAM, IN A SANDBOX (cutbox-door.mjs). By AI agents, Wed Nov 11 2026. No macro, syntax, notation, axiom, sorry.
-/
import Derived.Test.YtecjnnhkbmkemaaGreatDoorRows
import GoSem.ClaimSeven
namespace Go.Proofs.YtecjnnhkbmkemaaGreatDoor
namespace Rows

/-- THE TIED CARD OF 'setsquarelaw02.RationalFloor'. -/
def rationalFloorCard : Claim7 := { stood := { row := rationalFloorRow, standIns := [], harness := (true, "df384f189231cf02a8903b65f52d1e773c5f3381cd4bb6cae65e13789325afb1"), looks := false }, kinds := [], alts := [], laidByText := true, laidKinds := [.data, .data, .data, .data, .pinned], laidTests := true, laidLooks := .later }
def RationalFloorCardSaid : Prop := Claim7.holds Tryz.pinned (.plain (OpenSpec.ofChange rationalFloorSpec)) rationalFloorCard

/-- THE TIED CARD OF 'setsquarelaw02.RationalSqrt'. -/
def rationalSqrtCard : Claim7 := { stood := { row := rationalSqrtRow, standIns := [], harness := (true, "df384f189231cf02a8903b65f52d1e773c5f3381cd4bb6cae65e13789325afb1"), looks := false }, kinds := [], alts := [], laidByText := true, laidKinds := [.data, .data, .data, .data, .pinned], laidTests := true, laidLooks := .later }
def RationalSqrtCardSaid : Prop := Claim7.holds Tryz.pinned (.plain (OpenSpec.ofChange rationalSqrtSpec)) rationalSqrtCard

/-- THE TIED CARD OF 'setsquarelaw02.RationalText'. -/
def rationalTextCard : Claim7 := { stood := { row := rationalTextRow, standIns := [], harness := (true, "df384f189231cf02a8903b65f52d1e773c5f3381cd4bb6cae65e13789325afb1"), looks := false }, kinds := [], alts := [], laidByText := true, laidKinds := [.data, .data, .data, .data, .pinned], laidTests := true, laidLooks := .later }
def RationalTextCardSaid : Prop := Claim7.holds Tryz.pinned (.plain (OpenSpec.ofChange rationalTextSpec)) rationalTextCard

/-- THE TIED CARD OF 'setsquarelaw02.RationalParse'. -/
def rationalParseCard : Claim7 := { stood := { row := rationalParseRow, standIns := [], harness := (true, "df384f189231cf02a8903b65f52d1e773c5f3381cd4bb6cae65e13789325afb1"), looks := false }, kinds := [], alts := [], laidByText := true, laidKinds := [.data, .data, .data, .data, .pinned], laidTests := true, laidLooks := .later }
def RationalParseCardSaid : Prop := Claim7.holds Tryz.pinned (.plain (OpenSpec.ofChange rationalParseSpec)) rationalParseCard

/-- THE TIED CARD OF 'setsquarelaw02.RationalMake'. -/
def rationalMakeCard : Claim7 := { stood := { row := rationalMakeRow, standIns := [], harness := (true, "df384f189231cf02a8903b65f52d1e773c5f3381cd4bb6cae65e13789325afb1"), looks := false }, kinds := [], alts := [], laidByText := true, laidKinds := [.data, .data, .data, .data, .pinned], laidTests := true, laidLooks := .later }
def RationalMakeCardSaid : Prop := Claim7.holds Tryz.pinned (.plain (OpenSpec.ofChange rationalMakeSpec)) rationalMakeCard

/-- THE TIED CARD OF 'setsquarelaw02.RationalSmall'. -/
def rationalSmallCard : Claim7 := { stood := { row := rationalSmallRow, standIns := [], harness := (true, "df384f189231cf02a8903b65f52d1e773c5f3381cd4bb6cae65e13789325afb1"), looks := false }, kinds := [], alts := [], laidByText := true, laidKinds := [.data, .data, .data, .data, .pinned], laidTests := true, laidLooks := .later }
def RationalSmallCardSaid : Prop := Claim7.holds Tryz.pinned (.plain (OpenSpec.ofChange rationalSmallSpec)) rationalSmallCard

/-- THE TIED CARD OF 'setsquarelaw02.RationalArithmetic'. -/
def rationalArithmeticCard : Claim7 := { stood := { row := rationalArithmeticRow, standIns := [], harness := (true, "df384f189231cf02a8903b65f52d1e773c5f3381cd4bb6cae65e13789325afb1"), looks := false }, kinds := [], alts := [], laidByText := true, laidKinds := [.data, .data, .data, .data, .pinned], laidTests := true, laidLooks := .later }
def RationalArithmeticCardSaid : Prop := Claim7.holds Tryz.pinned (.plain (OpenSpec.ofChange rationalArithmeticSpec)) rationalArithmeticCard

/-- THE TIED CARD OF 'setsquarelaw02.RationalField'. -/
def rationalFieldCard : Claim7 := { stood := { row := rationalFieldRow, standIns := [], harness := (true, "df384f189231cf02a8903b65f52d1e773c5f3381cd4bb6cae65e13789325afb1"), looks := false }, kinds := [], alts := [], laidByText := true, laidKinds := [.data, .data, .data, .data, .pinned], laidTests := true, laidLooks := .later }
def RationalFieldCardSaid : Prop := Claim7.holds Tryz.pinned (.plain (OpenSpec.ofChange rationalFieldSpec)) rationalFieldCard

/-- THE TIED CARD OF 'setsquarelaw02.RationalOrder'. -/
def rationalOrderCard : Claim7 := { stood := { row := rationalOrderRow, standIns := [], harness := (true, "df384f189231cf02a8903b65f52d1e773c5f3381cd4bb6cae65e13789325afb1"), looks := false }, kinds := [], alts := [], laidByText := true, laidKinds := [.data, .data, .data, .data, .pinned], laidTests := true, laidLooks := .later }
def RationalOrderCardSaid : Prop := Claim7.holds Tryz.pinned (.plain (OpenSpec.ofChange rationalOrderSpec)) rationalOrderCard

/-- THE SECOND FORM's CARD OF 'setsquarelaw02.RationalFloor'. -/
def rationalFloorUptoCard : Claim7 := { stood := { row := rationalFloorUptoRow, standIns := [], harness := (true, "df384f189231cf02a8903b65f52d1e773c5f3381cd4bb6cae65e13789325afb1"), looks := false }, kinds := [], alts := [], laidByText := true, laidKinds := [.data, .data, .data, .data, .pinned], laidTests := true, laidLooks := .later }
def RationalFloorUptoCardSaid : Prop := Claim7.holds Tryz.pinned (.plain (OpenSpec.upto rationalFloorSpec)) rationalFloorUptoCard

/-- THE SECOND FORM's CARD OF 'setsquarelaw02.RationalSqrt'. -/
def rationalSqrtUptoCard : Claim7 := { stood := { row := rationalSqrtUptoRow, standIns := [], harness := (true, "df384f189231cf02a8903b65f52d1e773c5f3381cd4bb6cae65e13789325afb1"), looks := false }, kinds := [], alts := [], laidByText := true, laidKinds := [.data, .data, .data, .data, .pinned], laidTests := true, laidLooks := .later }
def RationalSqrtUptoCardSaid : Prop := Claim7.holds Tryz.pinned (.plain (OpenSpec.upto rationalSqrtSpec)) rationalSqrtUptoCard

/-- THE SECOND FORM's CARD OF 'setsquarelaw02.RationalText'. -/
def rationalTextUptoCard : Claim7 := { stood := { row := rationalTextUptoRow, standIns := [], harness := (true, "df384f189231cf02a8903b65f52d1e773c5f3381cd4bb6cae65e13789325afb1"), looks := false }, kinds := [], alts := [], laidByText := true, laidKinds := [.data, .data, .data, .data, .pinned], laidTests := true, laidLooks := .later }
def RationalTextUptoCardSaid : Prop := Claim7.holds Tryz.pinned (.plain (OpenSpec.upto rationalTextSpec)) rationalTextUptoCard

/-- THE SECOND FORM's CARD OF 'setsquarelaw02.RationalParse'. -/
def rationalParseUptoCard : Claim7 := { stood := { row := rationalParseUptoRow, standIns := [], harness := (true, "df384f189231cf02a8903b65f52d1e773c5f3381cd4bb6cae65e13789325afb1"), looks := false }, kinds := [], alts := [], laidByText := true, laidKinds := [.data, .data, .data, .data, .pinned], laidTests := true, laidLooks := .later }
def RationalParseUptoCardSaid : Prop := Claim7.holds Tryz.pinned (.plain (OpenSpec.upto rationalParseSpec)) rationalParseUptoCard

/-- THE SECOND FORM's CARD OF 'setsquarelaw02.RationalMake'. -/
def rationalMakeUptoCard : Claim7 := { stood := { row := rationalMakeUptoRow, standIns := [], harness := (true, "df384f189231cf02a8903b65f52d1e773c5f3381cd4bb6cae65e13789325afb1"), looks := false }, kinds := [], alts := [], laidByText := true, laidKinds := [.data, .data, .data, .data, .pinned], laidTests := true, laidLooks := .later }
def RationalMakeUptoCardSaid : Prop := Claim7.holds Tryz.pinned (.plain (OpenSpec.upto rationalMakeSpec)) rationalMakeUptoCard

/-- THE SECOND FORM's CARD OF 'setsquarelaw02.RationalSmall'. -/
def rationalSmallUptoCard : Claim7 := { stood := { row := rationalSmallUptoRow, standIns := [], harness := (true, "df384f189231cf02a8903b65f52d1e773c5f3381cd4bb6cae65e13789325afb1"), looks := false }, kinds := [], alts := [], laidByText := true, laidKinds := [.data, .data, .data, .data, .pinned], laidTests := true, laidLooks := .later }
def RationalSmallUptoCardSaid : Prop := Claim7.holds Tryz.pinned (.plain (OpenSpec.upto rationalSmallSpec)) rationalSmallUptoCard

/-- THE SECOND FORM's CARD OF 'setsquarelaw02.RationalArithmetic'. -/
def rationalArithmeticUptoCard : Claim7 := { stood := { row := rationalArithmeticUptoRow, standIns := [], harness := (true, "df384f189231cf02a8903b65f52d1e773c5f3381cd4bb6cae65e13789325afb1"), looks := false }, kinds := [], alts := [], laidByText := true, laidKinds := [.data, .data, .data, .data, .pinned], laidTests := true, laidLooks := .later }
def RationalArithmeticUptoCardSaid : Prop := Claim7.holds Tryz.pinned (.plain (OpenSpec.upto rationalArithmeticSpec)) rationalArithmeticUptoCard

/-- THE SECOND FORM's CARD OF 'setsquarelaw02.RationalField'. -/
def rationalFieldUptoCard : Claim7 := { stood := { row := rationalFieldUptoRow, standIns := [], harness := (true, "df384f189231cf02a8903b65f52d1e773c5f3381cd4bb6cae65e13789325afb1"), looks := false }, kinds := [], alts := [], laidByText := true, laidKinds := [.data, .data, .data, .data, .pinned], laidTests := true, laidLooks := .later }
def RationalFieldUptoCardSaid : Prop := Claim7.holds Tryz.pinned (.plain (OpenSpec.upto rationalFieldSpec)) rationalFieldUptoCard

/-- THE SECOND FORM's CARD OF 'setsquarelaw02.RationalOrder'. -/
def rationalOrderUptoCard : Claim7 := { stood := { row := rationalOrderUptoRow, standIns := [], harness := (true, "df384f189231cf02a8903b65f52d1e773c5f3381cd4bb6cae65e13789325afb1"), looks := false }, kinds := [], alts := [], laidByText := true, laidKinds := [.data, .data, .data, .data, .pinned], laidTests := true, laidLooks := .later }
def RationalOrderUptoCardSaid : Prop := Claim7.holds Tryz.pinned (.plain (OpenSpec.upto rationalOrderSpec)) rationalOrderUptoCard
end Rows
end Go.Proofs.YtecjnnhkbmkemaaGreatDoor
