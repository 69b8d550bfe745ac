/-
  NARROWER THAN 'FOR EVERY INPUT', by the rows' own cells (each row's printed sentence says how): ParameterOrder: loops, laid · ParameterSet: loops, laid · ParameterRename: loops, laid · ParameterDependents: loops, laid · ParameterEval: loops, laid · ParameterUnaffected: loops, laid · ParameterValues: loops, laid · ParameterRemove: loops, laid · RationalSqrt: laid.
  DERIVED. THE GIVEN ROWS OF THIS SEAT. 9 by the template 'for every input the law returns true; each argument reads behind the call as it read before'; 0 by the template 'total and deterministic' (their statements: YtmkggcjajcdlcaaGreatDoorTotals.lean).
  GIVEN WITH THE SEED: the statements are not yours to turn. If you find one false, say at which input.
  Laid BY PROGRAM, IN A SANDBOX (cutbox-rows.mjs): the forced cells as the released guide's own fill.sh prints them over the translation 4c35b8e681066c4b… (all of the seat's roots in one cut). By AI agents, Wed Nov 11 2026. No macro, syntax, notation, axiom, sorry.
-/
import Derived.Test.YtmkggcjajcdlcaaGreatDoorChecked
import GoSem.PinnedTables
import GoSem.Claim
import GoSem.ClaimJoined
import GoSem.ClaimMapViews
import Derived.JoinedTies
import Derived.KernelRfl
namespace Go.Proofs.YtmkggcjajcdlcaaGreatDoor
/- THE CELL 'sum', in the pinned program and in every row, IS THE sha256 OF THE DUMP (.gsa) THAT YtmkggcjajcdlcaaGreatDoorProg.lean LOADS. Nothing in Lean hashes anything: it is a label: what it is worth is what the hold of that sum in a sandbox is worth. -/
noncomputable def Tryz.pinned : Pinned := { name := "ytmkggcjajcdlcaagreatdoor", sum := "4c35b8e681066c4bbd710b4db52daac480d410685232cf2f4448469c4141638f", checked := Tryz.checked }
namespace Rows
def none {H : Type} : Left H := { results := [], args := [] }

/- WHAT THE LISTED PACKAGE-LEVEL VARIABLES READ AS WHEN THE CALL BEGINS. Each datum BY PROGRAM (the guide's laid-datum.mjs) off the statement by which the dump's own 'gosem.cut.vars' lays the variable. In a bare row this is a premise. The card (YtmkggcjajcdlcaaGreatDoorCards.lean) ties it to the program's text. -/
def laid_math_bits_deBruijn32tab {H : Type} : DataW H := .agg [.lit (.int .u8 0), .lit (.int .u8 1), .lit (.int .u8 28), .lit (.int .u8 2), .lit (.int .u8 29), .lit (.int .u8 14), .lit (.int .u8 24), .lit (.int .u8 3), .lit (.int .u8 30), .lit (.int .u8 22), .lit (.int .u8 20), .lit (.int .u8 15), .lit (.int .u8 25), .lit (.int .u8 17), .lit (.int .u8 4), .lit (.int .u8 8), .lit (.int .u8 31), .lit (.int .u8 27), .lit (.int .u8 13), .lit (.int .u8 23), .lit (.int .u8 21), .lit (.int .u8 19), .lit (.int .u8 16), .lit (.int .u8 7), .lit (.int .u8 26), .lit (.int .u8 12), .lit (.int .u8 18), .lit (.int .u8 6), .lit (.int .u8 11), .lit (.int .u8 5), .lit (.int .u8 10), .lit (.int .u8 9)]
def laid_math_bits_deBruijn64tab {H : Type} : DataW H := .agg [.lit (.int .u8 0), .lit (.int .u8 1), .lit (.int .u8 56), .lit (.int .u8 2), .lit (.int .u8 57), .lit (.int .u8 49), .lit (.int .u8 28), .lit (.int .u8 3), .lit (.int .u8 61), .lit (.int .u8 58), .lit (.int .u8 42), .lit (.int .u8 50), .lit (.int .u8 38), .lit (.int .u8 29), .lit (.int .u8 17), .lit (.int .u8 4), .lit (.int .u8 62), .lit (.int .u8 47), .lit (.int .u8 59), .lit (.int .u8 36), .lit (.int .u8 45), .lit (.int .u8 43), .lit (.int .u8 51), .lit (.int .u8 22), .lit (.int .u8 53), .lit (.int .u8 39), .lit (.int .u8 33), .lit (.int .u8 30), .lit (.int .u8 24), .lit (.int .u8 18), .lit (.int .u8 12), .lit (.int .u8 5), .lit (.int .u8 63), .lit (.int .u8 55), .lit (.int .u8 48), .lit (.int .u8 27), .lit (.int .u8 60), .lit (.int .u8 41), .lit (.int .u8 37), .lit (.int .u8 16), .lit (.int .u8 46), .lit (.int .u8 35), .lit (.int .u8 44), .lit (.int .u8 21), .lit (.int .u8 52), .lit (.int .u8 32), .lit (.int .u8 23), .lit (.int .u8 11), .lit (.int .u8 54), .lit (.int .u8 26), .lit (.int .u8 40), .lit (.int .u8 15), .lit (.int .u8 34), .lit (.int .u8 20), .lit (.int .u8 31), .lit (.int .u8 10), .lit (.int .u8 25), .lit (.int .u8 14), .lit (.int .u8 19), .lit (.int .u8 9), .lit (.int .u8 13), .lit (.int .u8 8), .lit (.int .u8 7), .lit (.int .u8 6)]
def laid_internal_strconv_uint64pow10 {H : Type} : DataW H := .agg [.lit (.int .u64 1), .lit (.int .u64 10), .lit (.int .u64 100), .lit (.int .u64 1000), .lit (.int .u64 10000), .lit (.int .u64 100000), .lit (.int .u64 1000000), .lit (.int .u64 10000000), .lit (.int .u64 100000000), .lit (.int .u64 1000000000), .lit (.int .u64 10000000000), .lit (.int .u64 100000000000), .lit (.int .u64 1000000000000), .lit (.int .u64 10000000000000), .lit (.int .u64 100000000000000), .lit (.int .u64 1000000000000000), .lit (.int .u64 10000000000000000), .lit (.int .u64 100000000000000000), .lit (.int .u64 1000000000000000000), .lit (.int .u64 10000000000000000000)]
def laid_setsquare_formula_operands {H : Type} : DataW H := .agg [.lit (.int .i64 0), .lit (.int .i64 0), .lit (.int .i64 0), .lit (.int .i64 1), .lit (.int .i64 2), .lit (.int .i64 2), .lit (.int .i64 2), .lit (.int .i64 2)]
def laid_setsquare_unit_units {H : Type} : DataW H := .slice [.agg [.lit (.string [99, 109]), .lit (.int .i64 10), .lit (.int .i64 1)], .agg [.lit (.string [102, 116]), .lit (.int .i64 1524), .lit (.int .i64 5)], .agg [.lit (.string [105, 110]), .lit (.int .i64 127), .lit (.int .i64 5)], .agg [.lit (.string [109]), .lit (.int .i64 1000), .lit (.int .i64 1)], .agg [.lit (.string [109, 109]), .lit (.int .i64 1), .lit (.int .i64 1)]] []
def laid_unicode_utf8_acceptRanges {H : Type} : DataW H := .agg [.agg [.lit (.int .u8 128), .lit (.int .u8 191)], .agg [.lit (.int .u8 160), .lit (.int .u8 191)], .agg [.lit (.int .u8 128), .lit (.int .u8 159)], .agg [.lit (.int .u8 144), .lit (.int .u8 191)], .agg [.lit (.int .u8 128), .lit (.int .u8 143)], .agg [.lit (.int .u8 0), .lit (.int .u8 0)], .agg [.lit (.int .u8 0), .lit (.int .u8 0)], .agg [.lit (.int .u8 0), .lit (.int .u8 0)], .agg [.lit (.int .u8 0), .lit (.int .u8 0)], .agg [.lit (.int .u8 0), .lit (.int .u8 0)], .agg [.lit (.int .u8 0), .lit (.int .u8 0)], .agg [.lit (.int .u8 0), .lit (.int .u8 0)], .agg [.lit (.int .u8 0), .lit (.int .u8 0)], .agg [.lit (.int .u8 0), .lit (.int .u8 0)], .agg [.lit (.int .u8 0), .lit (.int .u8 0)], .agg [.lit (.int .u8 0), .lit (.int .u8 0)]]
/-- One of Go's own tables, pinned by name: the form's constant. -/
def laid_unicode_utf8_first : DataW Unit := Go.Pinned.utf8First

/-- 'setsquarelaw24.ParameterOrder': WHATEVER THE INPUT: true; the input reads as it did. -/
def parameterOrderSpec : ChangeSpec := { name := "parameterOrder", fn := fun _ => fun
  | [d] => { results := [.lit (.bool true)], args := [d] }
  | _ => none }
def parameterOrderRow : OpenClaim := { program := "ytmkggcjajcdlcaagreatdoor", sum := "4c35b8e681066c4bbd710b4db52daac480d410685232cf2f4448469c4141638f", func := "setsquare/setsquarelaw24.ParameterOrder", spec := "parameterOrder", inPlace := ["internal/abi.NoEscape", "internal/bytealg.MakeNoZero", "slices.overlaps[string]", "slices.overlaps[setsquare/api.Quantity]"], unfollowed := true, recurses := true, named := ["setsquare/formula.operands", "internal/strconv.uint64pow10", "math/bits.deBruijn32tab", "math/bits.deBruijn64tab", "setsquare/unit.units"], loops := true, apart := false, laid := [("math/bits.deBruijn32tab", laid_math_bits_deBruijn32tab), ("math/bits.deBruijn64tab", laid_math_bits_deBruijn64tab), ("internal/strconv.uint64pow10", laid_internal_strconv_uint64pow10), ("setsquare/formula.operands", laid_setsquare_formula_operands), ("setsquare/unit.units", laid_setsquare_unit_units)] }
def ParameterOrderSaid : Prop := parameterOrderRow.holds Tryz.pinned (OpenSpec.ofChange parameterOrderSpec)

/-- ITS FALSE NEIGHBOUR: 'it returns false'. Refute it at one input. -/
def parameterOrderWrong : ChangeSpec := { name := "parameterOrder", fn := fun _ => fun
  | [d] => { results := [.lit (.bool false)], args := [d] }
  | _ => none }
def ParameterOrderWrongFalsely : Prop := parameterOrderRow.holds Tryz.pinned (OpenSpec.ofChange parameterOrderWrong)

/-- 'setsquarelaw24.ParameterSet': WHATEVER THE INPUT: true; the input reads as it did. -/
def parameterSetSpec : ChangeSpec := { name := "parameterSet", fn := fun _ => fun
  | [d1, d2] => { results := [.lit (.bool true)], args := [d1, d2] }
  | _ => none }
def parameterSetRow : OpenClaim := { program := "ytmkggcjajcdlcaagreatdoor", sum := "4c35b8e681066c4bbd710b4db52daac480d410685232cf2f4448469c4141638f", func := "setsquare/setsquarelaw24.ParameterSet", spec := "parameterSet", inPlace := ["internal/abi.NoEscape", "internal/bytealg.MakeNoZero", "slices.overlaps[string]", "slices.overlaps[setsquare/api.Quantity]"], unfollowed := true, recurses := true, named := ["setsquare/formula.operands", "internal/strconv.uint64pow10", "math/bits.deBruijn32tab", "math/bits.deBruijn64tab", "setsquare/unit.units"], loops := true, apart := false, laid := [("math/bits.deBruijn32tab", laid_math_bits_deBruijn32tab), ("math/bits.deBruijn64tab", laid_math_bits_deBruijn64tab), ("internal/strconv.uint64pow10", laid_internal_strconv_uint64pow10), ("setsquare/formula.operands", laid_setsquare_formula_operands), ("setsquare/unit.units", laid_setsquare_unit_units)] }
def ParameterSetSaid : Prop := parameterSetRow.holds Tryz.pinned (OpenSpec.ofChange parameterSetSpec)

/-- ITS FALSE NEIGHBOUR: 'it returns false'. Refute it at one input. -/
def parameterSetWrong : ChangeSpec := { name := "parameterSet", fn := fun _ => fun
  | [d1, d2] => { results := [.lit (.bool false)], args := [d1, d2] }
  | _ => none }
def ParameterSetWrongFalsely : Prop := parameterSetRow.holds Tryz.pinned (OpenSpec.ofChange parameterSetWrong)

/-- 'setsquarelaw24.ParameterRename': WHATEVER THE INPUT: true; the input reads as it did. -/
def parameterRenameSpec : ChangeSpec := { name := "parameterRename", fn := fun _ => fun
  | [d1, d2, d3] => { results := [.lit (.bool true)], args := [d1, d2, d3] }
  | _ => none }
def parameterRenameRow : OpenClaim := { program := "ytmkggcjajcdlcaagreatdoor", sum := "4c35b8e681066c4bbd710b4db52daac480d410685232cf2f4448469c4141638f", func := "setsquare/setsquarelaw24.ParameterRename", spec := "parameterRename", inPlace := ["internal/abi.NoEscape", "internal/bytealg.MakeNoZero", "slices.overlaps[string]", "slices.overlaps[setsquare/api.Quantity]"], unfollowed := true, recurses := true, named := ["setsquare/formula.operands", "internal/strconv.uint64pow10", "math/bits.deBruijn32tab", "math/bits.deBruijn64tab", "setsquare/unit.units"], loops := true, apart := false, laid := [("math/bits.deBruijn32tab", laid_math_bits_deBruijn32tab), ("math/bits.deBruijn64tab", laid_math_bits_deBruijn64tab), ("internal/strconv.uint64pow10", laid_internal_strconv_uint64pow10), ("setsquare/formula.operands", laid_setsquare_formula_operands), ("setsquare/unit.units", laid_setsquare_unit_units)] }
def ParameterRenameSaid : Prop := parameterRenameRow.holds Tryz.pinned (OpenSpec.ofChange parameterRenameSpec)

/-- ITS FALSE NEIGHBOUR: 'it returns false'. Refute it at one input. -/
def parameterRenameWrong : ChangeSpec := { name := "parameterRename", fn := fun _ => fun
  | [d1, d2, d3] => { results := [.lit (.bool false)], args := [d1, d2, d3] }
  | _ => none }
def ParameterRenameWrongFalsely : Prop := parameterRenameRow.holds Tryz.pinned (OpenSpec.ofChange parameterRenameWrong)

/-- 'setsquarelaw24.ParameterDependents': WHATEVER THE INPUT: true; the input reads as it did. -/
def parameterDependentsSpec : ChangeSpec := { name := "parameterDependents", fn := fun _ => fun
  | [d1, d2] => { results := [.lit (.bool true)], args := [d1, d2] }
  | _ => none }
def parameterDependentsRow : OpenClaim := { program := "ytmkggcjajcdlcaagreatdoor", sum := "4c35b8e681066c4bbd710b4db52daac480d410685232cf2f4448469c4141638f", func := "setsquare/setsquarelaw24.ParameterDependents", spec := "parameterDependents", inPlace := ["internal/abi.NoEscape", "internal/bytealg.MakeNoZero", "slices.overlaps[string]", "slices.overlaps[setsquare/api.Quantity]"], unfollowed := true, recurses := true, named := ["setsquare/formula.operands", "internal/strconv.uint64pow10", "math/bits.deBruijn32tab", "math/bits.deBruijn64tab", "setsquare/unit.units"], loops := true, apart := false, laid := [("math/bits.deBruijn32tab", laid_math_bits_deBruijn32tab), ("math/bits.deBruijn64tab", laid_math_bits_deBruijn64tab), ("internal/strconv.uint64pow10", laid_internal_strconv_uint64pow10), ("setsquare/formula.operands", laid_setsquare_formula_operands), ("setsquare/unit.units", laid_setsquare_unit_units)] }
def ParameterDependentsSaid : Prop := parameterDependentsRow.holds Tryz.pinned (OpenSpec.ofChange parameterDependentsSpec)

/-- ITS FALSE NEIGHBOUR: 'it returns false'. Refute it at one input. -/
def parameterDependentsWrong : ChangeSpec := { name := "parameterDependents", fn := fun _ => fun
  | [d1, d2] => { results := [.lit (.bool false)], args := [d1, d2] }
  | _ => none }
def ParameterDependentsWrongFalsely : Prop := parameterDependentsRow.holds Tryz.pinned (OpenSpec.ofChange parameterDependentsWrong)

/-- 'setsquarelaw24.ParameterEval': WHATEVER THE INPUT: true; the input reads as it did. -/
def parameterEvalSpec : ChangeSpec := { name := "parameterEval", fn := fun _ => fun
  | [d1, d2] => { results := [.lit (.bool true)], args := [d1, d2] }
  | _ => none }
def parameterEvalRow : OpenClaim := { program := "ytmkggcjajcdlcaagreatdoor", sum := "4c35b8e681066c4bbd710b4db52daac480d410685232cf2f4448469c4141638f", func := "setsquare/setsquarelaw24.ParameterEval", spec := "parameterEval", inPlace := ["internal/abi.NoEscape", "internal/bytealg.MakeNoZero", "slices.overlaps[string]", "slices.overlaps[setsquare/api.Quantity]"], unfollowed := true, recurses := true, named := ["setsquare/formula.operands", "internal/strconv.uint64pow10", "math/bits.deBruijn32tab", "math/bits.deBruijn64tab", "setsquare/unit.units"], loops := true, apart := false, laid := [("math/bits.deBruijn32tab", laid_math_bits_deBruijn32tab), ("math/bits.deBruijn64tab", laid_math_bits_deBruijn64tab), ("internal/strconv.uint64pow10", laid_internal_strconv_uint64pow10), ("setsquare/formula.operands", laid_setsquare_formula_operands), ("setsquare/unit.units", laid_setsquare_unit_units)] }
def ParameterEvalSaid : Prop := parameterEvalRow.holds Tryz.pinned (OpenSpec.ofChange parameterEvalSpec)

/-- ITS FALSE NEIGHBOUR: 'it returns false'. Refute it at one input. -/
def parameterEvalWrong : ChangeSpec := { name := "parameterEval", fn := fun _ => fun
  | [d1, d2] => { results := [.lit (.bool false)], args := [d1, d2] }
  | _ => none }
def ParameterEvalWrongFalsely : Prop := parameterEvalRow.holds Tryz.pinned (OpenSpec.ofChange parameterEvalWrong)

/-- 'setsquarelaw24.ParameterUnaffected': WHATEVER THE INPUT: true; the input reads as it did. -/
def parameterUnaffectedSpec : ChangeSpec := { name := "parameterUnaffected", fn := fun _ => fun
  | [d1, d2] => { results := [.lit (.bool true)], args := [d1, d2] }
  | _ => none }
def parameterUnaffectedRow : OpenClaim := { program := "ytmkggcjajcdlcaagreatdoor", sum := "4c35b8e681066c4bbd710b4db52daac480d410685232cf2f4448469c4141638f", func := "setsquare/setsquarelaw24.ParameterUnaffected", spec := "parameterUnaffected", inPlace := ["internal/abi.NoEscape", "internal/bytealg.MakeNoZero", "slices.overlaps[string]", "slices.overlaps[setsquare/api.Quantity]"], unfollowed := true, recurses := true, named := ["setsquare/formula.operands", "internal/strconv.uint64pow10", "math/bits.deBruijn32tab", "math/bits.deBruijn64tab", "setsquare/unit.units"], loops := true, apart := false, laid := [("math/bits.deBruijn32tab", laid_math_bits_deBruijn32tab), ("math/bits.deBruijn64tab", laid_math_bits_deBruijn64tab), ("internal/strconv.uint64pow10", laid_internal_strconv_uint64pow10), ("setsquare/formula.operands", laid_setsquare_formula_operands), ("setsquare/unit.units", laid_setsquare_unit_units)] }
def ParameterUnaffectedSaid : Prop := parameterUnaffectedRow.holds Tryz.pinned (OpenSpec.ofChange parameterUnaffectedSpec)

/-- ITS FALSE NEIGHBOUR: 'it returns false'. Refute it at one input. -/
def parameterUnaffectedWrong : ChangeSpec := { name := "parameterUnaffected", fn := fun _ => fun
  | [d1, d2] => { results := [.lit (.bool false)], args := [d1, d2] }
  | _ => none }
def ParameterUnaffectedWrongFalsely : Prop := parameterUnaffectedRow.holds Tryz.pinned (OpenSpec.ofChange parameterUnaffectedWrong)

/-- 'setsquarelaw24.ParameterValues': WHATEVER THE INPUT: true; the input reads as it did. -/
def parameterValuesSpec : ChangeSpec := { name := "parameterValues", fn := fun _ => fun
  | [d] => { results := [.lit (.bool true)], args := [d] }
  | _ => none }
def parameterValuesRow : OpenClaim := { program := "ytmkggcjajcdlcaagreatdoor", sum := "4c35b8e681066c4bbd710b4db52daac480d410685232cf2f4448469c4141638f", func := "setsquare/setsquarelaw24.ParameterValues", spec := "parameterValues", inPlace := ["internal/abi.NoEscape", "internal/bytealg.MakeNoZero", "slices.overlaps[string]", "slices.overlaps[setsquare/api.Quantity]"], unfollowed := true, recurses := true, named := ["setsquare/formula.operands", "internal/strconv.uint64pow10", "math/bits.deBruijn32tab", "math/bits.deBruijn64tab", "setsquare/unit.units"], loops := true, apart := false, laid := [("math/bits.deBruijn32tab", laid_math_bits_deBruijn32tab), ("math/bits.deBruijn64tab", laid_math_bits_deBruijn64tab), ("internal/strconv.uint64pow10", laid_internal_strconv_uint64pow10), ("setsquare/formula.operands", laid_setsquare_formula_operands), ("setsquare/unit.units", laid_setsquare_unit_units)] }
def ParameterValuesSaid : Prop := parameterValuesRow.holds Tryz.pinned (OpenSpec.ofChange parameterValuesSpec)

/-- ITS FALSE NEIGHBOUR: 'it returns false'. Refute it at one input. -/
def parameterValuesWrong : ChangeSpec := { name := "parameterValues", fn := fun _ => fun
  | [d] => { results := [.lit (.bool false)], args := [d] }
  | _ => none }
def ParameterValuesWrongFalsely : Prop := parameterValuesRow.holds Tryz.pinned (OpenSpec.ofChange parameterValuesWrong)

/-- 'setsquarelaw24.ParameterRemove': WHATEVER THE INPUT: true; the input reads as it did. -/
def parameterRemoveSpec : ChangeSpec := { name := "parameterRemove", fn := fun _ => fun
  | [d1, d2] => { results := [.lit (.bool true)], args := [d1, d2] }
  | _ => none }
def parameterRemoveRow : OpenClaim := { program := "ytmkggcjajcdlcaagreatdoor", sum := "4c35b8e681066c4bbd710b4db52daac480d410685232cf2f4448469c4141638f", func := "setsquare/setsquarelaw24.ParameterRemove", spec := "parameterRemove", inPlace := ["internal/abi.NoEscape", "internal/bytealg.MakeNoZero", "slices.overlaps[string]", "slices.overlaps[setsquare/api.Quantity]"], unfollowed := true, recurses := true, named := ["setsquare/formula.operands", "internal/strconv.uint64pow10", "math/bits.deBruijn32tab", "math/bits.deBruijn64tab", "setsquare/unit.units"], loops := true, apart := false, laid := [("math/bits.deBruijn32tab", laid_math_bits_deBruijn32tab), ("math/bits.deBruijn64tab", laid_math_bits_deBruijn64tab), ("internal/strconv.uint64pow10", laid_internal_strconv_uint64pow10), ("setsquare/formula.operands", laid_setsquare_formula_operands), ("setsquare/unit.units", laid_setsquare_unit_units)] }
def ParameterRemoveSaid : Prop := parameterRemoveRow.holds Tryz.pinned (OpenSpec.ofChange parameterRemoveSpec)

/-- ITS FALSE NEIGHBOUR: 'it returns false'. Refute it at one input. -/
def parameterRemoveWrong : ChangeSpec := { name := "parameterRemove", fn := fun _ => fun
  | [d1, d2] => { results := [.lit (.bool false)], args := [d1, d2] }
  | _ => none }
def ParameterRemoveWrongFalsely : Prop := parameterRemoveRow.holds Tryz.pinned (OpenSpec.ofChange parameterRemoveWrong)

/-- 'setsquarelaw02.RationalSqrt': WHATEVER THE INPUT: true; the input reads as it did. -/
def rationalSqrtSpec : ChangeSpec := { name := "rationalSqrt", fn := fun _ => fun
  | [d] => { results := [.lit (.bool true)], args := [d] }
  | _ => none }
def rationalSqrtRow : OpenClaim := { program := "ytmkggcjajcdlcaagreatdoor", sum := "4c35b8e681066c4bbd710b4db52daac480d410685232cf2f4448469c4141638f", func := "setsquare/setsquarelaw02.RationalSqrt", spec := "rationalSqrt", inPlace := ["internal/bytealg.IndexByteString", "internal/bytealg.IndexString", "internal/abi.NoEscape", "internal/bytealg.MakeNoZero"], unfollowed := true, recurses := true, named := ["internal/bytealg.MaxLen", "unicode/utf8.first", "unicode/utf8.acceptRanges", "internal/strconv.uint64pow10", "math/bits.deBruijn32tab", "math/bits.deBruijn64tab"], apart := false, laid := [("math/bits.deBruijn32tab", laid_math_bits_deBruijn32tab), ("math/bits.deBruijn64tab", laid_math_bits_deBruijn64tab), ("internal/strconv.uint64pow10", laid_internal_strconv_uint64pow10), ("unicode/utf8.acceptRanges", laid_unicode_utf8_acceptRanges), ("unicode/utf8.first", laid_unicode_utf8_first)] }
def RationalSqrtSaid : Prop := rationalSqrtRow.holds Tryz.pinned (OpenSpec.ofChange rationalSqrtSpec)

/-- ITS FALSE NEIGHBOUR: 'it returns false'. Refute it at one input. -/
def rationalSqrtWrong : ChangeSpec := { name := "rationalSqrt", fn := fun _ => fun
  | [d] => { results := [.lit (.bool false)], args := [d] }
  | _ => none }
def RationalSqrtWrongFalsely : Prop := rationalSqrtRow.holds Tryz.pinned (OpenSpec.ofChange rationalSqrtWrong)

/- THE SECOND FORM. 'bulk': how many values and letters a reading holds, each counted each time it is reached (what is shared counts as often as it is met; a slice's spare places count too). A statement '..UptoSaid' is the law's where the arguments, and the package variables that the reading takes, are together of bulk at most 1048576: NARROWER than '..Said'. Prove '..Said' where nothing that the law and all that it calls make is longer than what came in: it says more and counts as full. Else prove '..UptoSaid'. A law counts once. -/
mutual
def uptoBulk {H : Type} : DataW H → Nat
  | .lit (.string bytes) => bytes.length + 1
  | .lit _ => 1
  | .nil => 1
  | .ptr d => uptoBulk d + 1
  | .slice elems spare => uptoBulkAll elems + uptoBulkAll spare + 1
  | .agg parts => uptoBulkAll parts + 1
  | .iface _ d => uptoBulk d + 1
  | .map entries => uptoBulkEntries entries + 1
  | .held _ => 1
def uptoBulkAll {H : Type} : List (DataW H) → Nat
  | [] => 0
  | d :: r => uptoBulk d + uptoBulkAll r
def uptoBulkEntries {H : Type} : List (Lit × DataW H) → Nat
  | [] => 0
  | x :: r => uptoBulkEntry x + uptoBulkEntries r
def uptoBulkEntry {H : Type} : Lit × DataW H → Nat
  | (.string bytes, d) => bytes.length + uptoBulk d + 1
  | (_, d) => uptoBulk d + 1
 end
def uptoSmall : (H : Type) → List (DataW H) → Bool := fun _ ds => decide (uptoBulkAll ds ≤ 1048576)
def OpenSpec.upto (s : _root_.Go.ChangeSpec) : _root_.Go.OpenSpec := { _root_.Go.OpenSpec.ofChange s with cond := some uptoSmall }

/-- 'setsquarelaw24.ParameterOrder', WHERE WHAT IT READS IS OF BULK AT MOST 1048576: true; the input reads as it did. -/
def parameterOrderUptoRow : OpenClaim := { program := "ytmkggcjajcdlcaagreatdoor", sum := "4c35b8e681066c4bbd710b4db52daac480d410685232cf2f4448469c4141638f", func := "setsquare/setsquarelaw24.ParameterOrder", spec := "parameterOrder", inPlace := ["internal/abi.NoEscape", "internal/bytealg.MakeNoZero", "slices.overlaps[string]", "slices.overlaps[setsquare/api.Quantity]"], unfollowed := true, recurses := true, named := ["setsquare/formula.operands", "internal/strconv.uint64pow10", "math/bits.deBruijn32tab", "math/bits.deBruijn64tab", "setsquare/unit.units"], loops := true, apart := false, laid := [("math/bits.deBruijn32tab", laid_math_bits_deBruijn32tab), ("math/bits.deBruijn64tab", laid_math_bits_deBruijn64tab), ("internal/strconv.uint64pow10", laid_internal_strconv_uint64pow10), ("setsquare/formula.operands", laid_setsquare_formula_operands), ("setsquare/unit.units", laid_setsquare_unit_units)], narrowed := true }
def ParameterOrderUptoSaid : Prop := parameterOrderUptoRow.holds Tryz.pinned (OpenSpec.upto parameterOrderSpec)

/-- 'setsquarelaw24.ParameterSet', WHERE WHAT IT READS IS OF BULK AT MOST 1048576: true; the input reads as it did. -/
def parameterSetUptoRow : OpenClaim := { program := "ytmkggcjajcdlcaagreatdoor", sum := "4c35b8e681066c4bbd710b4db52daac480d410685232cf2f4448469c4141638f", func := "setsquare/setsquarelaw24.ParameterSet", spec := "parameterSet", inPlace := ["internal/abi.NoEscape", "internal/bytealg.MakeNoZero", "slices.overlaps[string]", "slices.overlaps[setsquare/api.Quantity]"], unfollowed := true, recurses := true, named := ["setsquare/formula.operands", "internal/strconv.uint64pow10", "math/bits.deBruijn32tab", "math/bits.deBruijn64tab", "setsquare/unit.units"], loops := true, apart := false, laid := [("math/bits.deBruijn32tab", laid_math_bits_deBruijn32tab), ("math/bits.deBruijn64tab", laid_math_bits_deBruijn64tab), ("internal/strconv.uint64pow10", laid_internal_strconv_uint64pow10), ("setsquare/formula.operands", laid_setsquare_formula_operands), ("setsquare/unit.units", laid_setsquare_unit_units)], narrowed := true }
def ParameterSetUptoSaid : Prop := parameterSetUptoRow.holds Tryz.pinned (OpenSpec.upto parameterSetSpec)

/-- 'setsquarelaw24.ParameterRename', WHERE WHAT IT READS IS OF BULK AT MOST 1048576: true; the input reads as it did. -/
def parameterRenameUptoRow : OpenClaim := { program := "ytmkggcjajcdlcaagreatdoor", sum := "4c35b8e681066c4bbd710b4db52daac480d410685232cf2f4448469c4141638f", func := "setsquare/setsquarelaw24.ParameterRename", spec := "parameterRename", inPlace := ["internal/abi.NoEscape", "internal/bytealg.MakeNoZero", "slices.overlaps[string]", "slices.overlaps[setsquare/api.Quantity]"], unfollowed := true, recurses := true, named := ["setsquare/formula.operands", "internal/strconv.uint64pow10", "math/bits.deBruijn32tab", "math/bits.deBruijn64tab", "setsquare/unit.units"], loops := true, apart := false, laid := [("math/bits.deBruijn32tab", laid_math_bits_deBruijn32tab), ("math/bits.deBruijn64tab", laid_math_bits_deBruijn64tab), ("internal/strconv.uint64pow10", laid_internal_strconv_uint64pow10), ("setsquare/formula.operands", laid_setsquare_formula_operands), ("setsquare/unit.units", laid_setsquare_unit_units)], narrowed := true }
def ParameterRenameUptoSaid : Prop := parameterRenameUptoRow.holds Tryz.pinned (OpenSpec.upto parameterRenameSpec)

/-- 'setsquarelaw24.ParameterDependents', WHERE WHAT IT READS IS OF BULK AT MOST 1048576: true; the input reads as it did. -/
def parameterDependentsUptoRow : OpenClaim := { program := "ytmkggcjajcdlcaagreatdoor", sum := "4c35b8e681066c4bbd710b4db52daac480d410685232cf2f4448469c4141638f", func := "setsquare/setsquarelaw24.ParameterDependents", spec := "parameterDependents", inPlace := ["internal/abi.NoEscape", "internal/bytealg.MakeNoZero", "slices.overlaps[string]", "slices.overlaps[setsquare/api.Quantity]"], unfollowed := true, recurses := true, named := ["setsquare/formula.operands", "internal/strconv.uint64pow10", "math/bits.deBruijn32tab", "math/bits.deBruijn64tab", "setsquare/unit.units"], loops := true, apart := false, laid := [("math/bits.deBruijn32tab", laid_math_bits_deBruijn32tab), ("math/bits.deBruijn64tab", laid_math_bits_deBruijn64tab), ("internal/strconv.uint64pow10", laid_internal_strconv_uint64pow10), ("setsquare/formula.operands", laid_setsquare_formula_operands), ("setsquare/unit.units", laid_setsquare_unit_units)], narrowed := true }
def ParameterDependentsUptoSaid : Prop := parameterDependentsUptoRow.holds Tryz.pinned (OpenSpec.upto parameterDependentsSpec)

/-- 'setsquarelaw24.ParameterEval', WHERE WHAT IT READS IS OF BULK AT MOST 1048576: true; the input reads as it did. -/
def parameterEvalUptoRow : OpenClaim := { program := "ytmkggcjajcdlcaagreatdoor", sum := "4c35b8e681066c4bbd710b4db52daac480d410685232cf2f4448469c4141638f", func := "setsquare/setsquarelaw24.ParameterEval", spec := "parameterEval", inPlace := ["internal/abi.NoEscape", "internal/bytealg.MakeNoZero", "slices.overlaps[string]", "slices.overlaps[setsquare/api.Quantity]"], unfollowed := true, recurses := true, named := ["setsquare/formula.operands", "internal/strconv.uint64pow10", "math/bits.deBruijn32tab", "math/bits.deBruijn64tab", "setsquare/unit.units"], loops := true, apart := false, laid := [("math/bits.deBruijn32tab", laid_math_bits_deBruijn32tab), ("math/bits.deBruijn64tab", laid_math_bits_deBruijn64tab), ("internal/strconv.uint64pow10", laid_internal_strconv_uint64pow10), ("setsquare/formula.operands", laid_setsquare_formula_operands), ("setsquare/unit.units", laid_setsquare_unit_units)], narrowed := true }
def ParameterEvalUptoSaid : Prop := parameterEvalUptoRow.holds Tryz.pinned (OpenSpec.upto parameterEvalSpec)

/-- 'setsquarelaw24.ParameterUnaffected', WHERE WHAT IT READS IS OF BULK AT MOST 1048576: true; the input reads as it did. -/
def parameterUnaffectedUptoRow : OpenClaim := { program := "ytmkggcjajcdlcaagreatdoor", sum := "4c35b8e681066c4bbd710b4db52daac480d410685232cf2f4448469c4141638f", func := "setsquare/setsquarelaw24.ParameterUnaffected", spec := "parameterUnaffected", inPlace := ["internal/abi.NoEscape", "internal/bytealg.MakeNoZero", "slices.overlaps[string]", "slices.overlaps[setsquare/api.Quantity]"], unfollowed := true, recurses := true, named := ["setsquare/formula.operands", "internal/strconv.uint64pow10", "math/bits.deBruijn32tab", "math/bits.deBruijn64tab", "setsquare/unit.units"], loops := true, apart := false, laid := [("math/bits.deBruijn32tab", laid_math_bits_deBruijn32tab), ("math/bits.deBruijn64tab", laid_math_bits_deBruijn64tab), ("internal/strconv.uint64pow10", laid_internal_strconv_uint64pow10), ("setsquare/formula.operands", laid_setsquare_formula_operands), ("setsquare/unit.units", laid_setsquare_unit_units)], narrowed := true }
def ParameterUnaffectedUptoSaid : Prop := parameterUnaffectedUptoRow.holds Tryz.pinned (OpenSpec.upto parameterUnaffectedSpec)

/-- 'setsquarelaw24.ParameterValues', WHERE WHAT IT READS IS OF BULK AT MOST 1048576: true; the input reads as it did. -/
def parameterValuesUptoRow : OpenClaim := { program := "ytmkggcjajcdlcaagreatdoor", sum := "4c35b8e681066c4bbd710b4db52daac480d410685232cf2f4448469c4141638f", func := "setsquare/setsquarelaw24.ParameterValues", spec := "parameterValues", inPlace := ["internal/abi.NoEscape", "internal/bytealg.MakeNoZero", "slices.overlaps[string]", "slices.overlaps[setsquare/api.Quantity]"], unfollowed := true, recurses := true, named := ["setsquare/formula.operands", "internal/strconv.uint64pow10", "math/bits.deBruijn32tab", "math/bits.deBruijn64tab", "setsquare/unit.units"], loops := true, apart := false, laid := [("math/bits.deBruijn32tab", laid_math_bits_deBruijn32tab), ("math/bits.deBruijn64tab", laid_math_bits_deBruijn64tab), ("internal/strconv.uint64pow10", laid_internal_strconv_uint64pow10), ("setsquare/formula.operands", laid_setsquare_formula_operands), ("setsquare/unit.units", laid_setsquare_unit_units)], narrowed := true }
def ParameterValuesUptoSaid : Prop := parameterValuesUptoRow.holds Tryz.pinned (OpenSpec.upto parameterValuesSpec)

/-- 'setsquarelaw24.ParameterRemove', WHERE WHAT IT READS IS OF BULK AT MOST 1048576: true; the input reads as it did. -/
def parameterRemoveUptoRow : OpenClaim := { program := "ytmkggcjajcdlcaagreatdoor", sum := "4c35b8e681066c4bbd710b4db52daac480d410685232cf2f4448469c4141638f", func := "setsquare/setsquarelaw24.ParameterRemove", spec := "parameterRemove", inPlace := ["internal/abi.NoEscape", "internal/bytealg.MakeNoZero", "slices.overlaps[string]", "slices.overlaps[setsquare/api.Quantity]"], unfollowed := true, recurses := true, named := ["setsquare/formula.operands", "internal/strconv.uint64pow10", "math/bits.deBruijn32tab", "math/bits.deBruijn64tab", "setsquare/unit.units"], loops := true, apart := false, laid := [("math/bits.deBruijn32tab", laid_math_bits_deBruijn32tab), ("math/bits.deBruijn64tab", laid_math_bits_deBruijn64tab), ("internal/strconv.uint64pow10", laid_internal_strconv_uint64pow10), ("setsquare/formula.operands", laid_setsquare_formula_operands), ("setsquare/unit.units", laid_setsquare_unit_units)], narrowed := true }
def ParameterRemoveUptoSaid : Prop := parameterRemoveUptoRow.holds Tryz.pinned (OpenSpec.upto parameterRemoveSpec)

/-- 'setsquarelaw02.RationalSqrt', WHERE WHAT IT READS IS OF BULK AT MOST 1048576: true; the input reads as it did. -/
def rationalSqrtUptoRow : OpenClaim := { program := "ytmkggcjajcdlcaagreatdoor", sum := "4c35b8e681066c4bbd710b4db52daac480d410685232cf2f4448469c4141638f", func := "setsquare/setsquarelaw02.RationalSqrt", spec := "rationalSqrt", inPlace := ["internal/bytealg.IndexByteString", "internal/bytealg.IndexString", "internal/abi.NoEscape", "internal/bytealg.MakeNoZero"], unfollowed := true, recurses := true, named := ["internal/bytealg.MaxLen", "unicode/utf8.first", "unicode/utf8.acceptRanges", "internal/strconv.uint64pow10", "math/bits.deBruijn32tab", "math/bits.deBruijn64tab"], apart := false, laid := [("math/bits.deBruijn32tab", laid_math_bits_deBruijn32tab), ("math/bits.deBruijn64tab", laid_math_bits_deBruijn64tab), ("internal/strconv.uint64pow10", laid_internal_strconv_uint64pow10), ("unicode/utf8.acceptRanges", laid_unicode_utf8_acceptRanges), ("unicode/utf8.first", laid_unicode_utf8_first)], narrowed := true }
def RationalSqrtUptoSaid : Prop := rationalSqrtUptoRow.holds Tryz.pinned (OpenSpec.upto rationalSqrtSpec)

end Rows
end Go.Proofs.YtmkggcjajcdlcaaGreatDoor
