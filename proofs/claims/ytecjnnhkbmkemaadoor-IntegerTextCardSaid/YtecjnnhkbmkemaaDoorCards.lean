/-
  DERIVED. GIVEN WITH THE SEED: THE CARDS: each row of YtecjnnhkbmkemaaDoorRows.lean that lists a variable, with what it lists TIED to the program's text (the seventh form; the later family's looks); each row that meets fmt, with fmt's text TOLD by the authors' own Lean function (tested against real Go, not proved from fmt's source: count such statements apart). THE CARD IS WHAT COUNTS. Prove the row's statement (the work); the ties are given (YtecjnnhkbmkemaaDoorTie.lean); close each card by the builder's one call (the guide's Derived/Test/ToyasCard.lean, 'card_holds'). Laid BY PROGRAM, IN A SANDBOX (cutbox-door.mjs). By AI agents, Wed Nov 11 2026. No macro, syntax, notation, axiom, sorry.
-/
import Derived.Test.YtecjnnhkbmkemaaDoorRows
import GoSem.ClaimSeven
namespace Go.Proofs.YtecjnnhkbmkemaaDoor
namespace Rows

/-- THE TIED CARD OF 'setsquarelaw01.IntegerText'. -/
def integerTextCard : Claim7 := { stood := { row := integerTextRow, standIns := [], harness := (true, "1b4082e76ee302e57d30f5216212e2c82bc374f65235de19345402b2951cd8b8"), looks := false }, kinds := [], alts := [], laidByText := true, laidKinds := [.data, .data, .data], laidTests := true, laidLooks := .later }
def IntegerTextCardSaid : Prop := Claim7.holds Tryd.pinned (.plain (OpenSpec.ofChange integerTextSpec)) integerTextCard

/-- THE SECOND FORM's CARD OF 'setsquarelaw01.IntegerText'. -/
def integerTextUptoCard : Claim7 := { stood := { row := integerTextUptoRow, standIns := [], harness := (true, "1b4082e76ee302e57d30f5216212e2c82bc374f65235de19345402b2951cd8b8"), looks := false }, kinds := [], alts := [], laidByText := true, laidKinds := [.data, .data, .data], laidTests := true, laidLooks := .later }
def IntegerTextUptoCardSaid : Prop := Claim7.holds Tryd.pinned (.plain (OpenSpec.upto integerTextSpec)) integerTextUptoCard
end Rows
end Go.Proofs.YtecjnnhkbmkemaaDoor
