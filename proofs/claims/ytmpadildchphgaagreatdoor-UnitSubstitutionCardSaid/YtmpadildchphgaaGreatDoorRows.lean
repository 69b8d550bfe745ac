/-
  NARROWER THAN 'FOR EVERY INPUT', by the rows' own cells (each row's printed sentence says how): UnitArithmetic: laid · UnitEval: loops, laid · UnitFormat: laid · UnitInverse: laid · UnitSubstitution: loops, laid · UnitTable: laid · UnitConvert: laid.
  DERIVED. THE GIVEN ROWS OF THIS SEAT. 7 by the template 'for every input the law returns true; each argument reads behind the call as it read before'; 0 by the template 'total and deterministic' (their statements: YtmpadildchphgaaGreatDoorTotals.lean).
  GIVEN WITH THE SEED: the statements are not yours to turn. If you find one false, say at which input.
  Laid BY PROGRAM, IN A SANDBOX (cutbox-rows.mjs): the forced cells as the released guide's own fill.sh prints them over the translation d3493dc1a21ddc3e… (all of the seat's roots in one cut). By AI agents, Wed Nov 11 2026. No macro, syntax, notation, axiom, sorry.
-/
import Derived.Test.YtmpadildchphgaaGreatDoorChecked
import GoSem.Claim
import GoSem.ClaimJoined
import GoSem.ClaimMapViews
import Derived.JoinedTies
import Derived.KernelRfl
namespace Go.Proofs.YtmpadildchphgaaGreatDoor
/- THE CELL 'sum', in the pinned program and in every row, IS THE sha256 OF THE DUMP (.gsa) THAT YtmpadildchphgaaGreatDoorProg.lean LOADS. Nothing in Lean hashes anything: it is a label: what it is worth is what the hold of that sum in a sandbox is worth. -/
noncomputable def Tryz.pinned : Pinned := { name := "ytmpadildchphgaagreatdoor", sum := "d3493dc1a21ddc3ef5dffb5e4da19074417d996941ce1e379449116930b10fb5", checked := Tryz.checked }
namespace Rows
def none {H : Type} : Left H := { results := [], args := [] }

/- WHAT THE LISTED PACKAGE-LEVEL VARIABLES READ AS WHEN THE CALL BEGINS. Each datum BY PROGRAM (the guide's laid-datum.mjs) off the statement by which the dump's own 'gosem.cut.vars' lays the variable. In a bare row this is a premise. The card (YtmpadildchphgaaGreatDoorCards.lean) ties it to the program's text. -/
def laid_math_bits_deBruijn32tab {H : Type} : DataW H := .agg [.lit (.int .u8 0), .lit (.int .u8 1), .lit (.int .u8 28), .lit (.int .u8 2), .lit (.int .u8 29), .lit (.int .u8 14), .lit (.int .u8 24), .lit (.int .u8 3), .lit (.int .u8 30), .lit (.int .u8 22), .lit (.int .u8 20), .lit (.int .u8 15), .lit (.int .u8 25), .lit (.int .u8 17), .lit (.int .u8 4), .lit (.int .u8 8), .lit (.int .u8 31), .lit (.int .u8 27), .lit (.int .u8 13), .lit (.int .u8 23), .lit (.int .u8 21), .lit (.int .u8 19), .lit (.int .u8 16), .lit (.int .u8 7), .lit (.int .u8 26), .lit (.int .u8 12), .lit (.int .u8 18), .lit (.int .u8 6), .lit (.int .u8 11), .lit (.int .u8 5), .lit (.int .u8 10), .lit (.int .u8 9)]
def laid_math_bits_deBruijn64tab {H : Type} : DataW H := .agg [.lit (.int .u8 0), .lit (.int .u8 1), .lit (.int .u8 56), .lit (.int .u8 2), .lit (.int .u8 57), .lit (.int .u8 49), .lit (.int .u8 28), .lit (.int .u8 3), .lit (.int .u8 61), .lit (.int .u8 58), .lit (.int .u8 42), .lit (.int .u8 50), .lit (.int .u8 38), .lit (.int .u8 29), .lit (.int .u8 17), .lit (.int .u8 4), .lit (.int .u8 62), .lit (.int .u8 47), .lit (.int .u8 59), .lit (.int .u8 36), .lit (.int .u8 45), .lit (.int .u8 43), .lit (.int .u8 51), .lit (.int .u8 22), .lit (.int .u8 53), .lit (.int .u8 39), .lit (.int .u8 33), .lit (.int .u8 30), .lit (.int .u8 24), .lit (.int .u8 18), .lit (.int .u8 12), .lit (.int .u8 5), .lit (.int .u8 63), .lit (.int .u8 55), .lit (.int .u8 48), .lit (.int .u8 27), .lit (.int .u8 60), .lit (.int .u8 41), .lit (.int .u8 37), .lit (.int .u8 16), .lit (.int .u8 46), .lit (.int .u8 35), .lit (.int .u8 44), .lit (.int .u8 21), .lit (.int .u8 52), .lit (.int .u8 32), .lit (.int .u8 23), .lit (.int .u8 11), .lit (.int .u8 54), .lit (.int .u8 26), .lit (.int .u8 40), .lit (.int .u8 15), .lit (.int .u8 34), .lit (.int .u8 20), .lit (.int .u8 31), .lit (.int .u8 10), .lit (.int .u8 25), .lit (.int .u8 14), .lit (.int .u8 19), .lit (.int .u8 9), .lit (.int .u8 13), .lit (.int .u8 8), .lit (.int .u8 7), .lit (.int .u8 6)]
def laid_internal_strconv_uint64pow10 {H : Type} : DataW H := .agg [.lit (.int .u64 1), .lit (.int .u64 10), .lit (.int .u64 100), .lit (.int .u64 1000), .lit (.int .u64 10000), .lit (.int .u64 100000), .lit (.int .u64 1000000), .lit (.int .u64 10000000), .lit (.int .u64 100000000), .lit (.int .u64 1000000000), .lit (.int .u64 10000000000), .lit (.int .u64 100000000000), .lit (.int .u64 1000000000000), .lit (.int .u64 10000000000000), .lit (.int .u64 100000000000000), .lit (.int .u64 1000000000000000), .lit (.int .u64 10000000000000000), .lit (.int .u64 100000000000000000), .lit (.int .u64 1000000000000000000), .lit (.int .u64 10000000000000000000)]
def laid_setsquare_unit_units {H : Type} : DataW H := .slice [.agg [.lit (.string [99, 109]), .lit (.int .i64 10), .lit (.int .i64 1)], .agg [.lit (.string [102, 116]), .lit (.int .i64 1524), .lit (.int .i64 5)], .agg [.lit (.string [105, 110]), .lit (.int .i64 127), .lit (.int .i64 5)], .agg [.lit (.string [109]), .lit (.int .i64 1000), .lit (.int .i64 1)], .agg [.lit (.string [109, 109]), .lit (.int .i64 1), .lit (.int .i64 1)]] []

/-- 'setsquarelaw23.UnitArithmetic': WHATEVER THE INPUT: true; the input reads as it did. -/
def unitArithmeticSpec : ChangeSpec := { name := "unitArithmetic", fn := fun _ => fun
  | [d1, d2] => { results := [.lit (.bool true)], args := [d1, d2] }
  | _ => none }
def unitArithmeticRow : OpenClaim := { program := "ytmpadildchphgaagreatdoor", sum := "d3493dc1a21ddc3ef5dffb5e4da19074417d996941ce1e379449116930b10fb5", func := "setsquare/setsquarelaw23.UnitArithmetic", spec := "unitArithmetic", inPlace := ["internal/abi.NoEscape", "internal/bytealg.MakeNoZero"], unfollowed := true, recurses := true, named := ["setsquare/unit.units", "internal/strconv.uint64pow10", "math/bits.deBruijn32tab", "math/bits.deBruijn64tab"], apart := false, laid := [("math/bits.deBruijn32tab", laid_math_bits_deBruijn32tab), ("math/bits.deBruijn64tab", laid_math_bits_deBruijn64tab), ("internal/strconv.uint64pow10", laid_internal_strconv_uint64pow10), ("setsquare/unit.units", laid_setsquare_unit_units)] }
def UnitArithmeticSaid : Prop := unitArithmeticRow.holds Tryz.pinned (OpenSpec.ofChange unitArithmeticSpec)

/-- ITS FALSE NEIGHBOUR: 'it returns false'. Refute it at one input. -/
def unitArithmeticWrong : ChangeSpec := { name := "unitArithmetic", fn := fun _ => fun
  | [d1, d2] => { results := [.lit (.bool false)], args := [d1, d2] }
  | _ => none }
def UnitArithmeticWrongFalsely : Prop := unitArithmeticRow.holds Tryz.pinned (OpenSpec.ofChange unitArithmeticWrong)

/-- 'setsquarelaw23.UnitEval': WHATEVER THE INPUT: true; the input reads as it did. -/
def unitEvalSpec : ChangeSpec := { name := "unitEval", fn := fun _ => fun
  | [d1, d2] => { results := [.lit (.bool true)], args := [d1, d2] }
  | _ => none }
def unitEvalRow : OpenClaim := { program := "ytmpadildchphgaagreatdoor", sum := "d3493dc1a21ddc3ef5dffb5e4da19074417d996941ce1e379449116930b10fb5", func := "setsquare/setsquarelaw23.UnitEval", spec := "unitEval", inPlace := ["internal/abi.NoEscape", "internal/bytealg.MakeNoZero"], unfollowed := true, recurses := true, named := ["setsquare/unit.units", "internal/strconv.uint64pow10", "math/bits.deBruijn32tab", "math/bits.deBruijn64tab"], loops := true, apart := false, laid := [("math/bits.deBruijn32tab", laid_math_bits_deBruijn32tab), ("math/bits.deBruijn64tab", laid_math_bits_deBruijn64tab), ("internal/strconv.uint64pow10", laid_internal_strconv_uint64pow10), ("setsquare/unit.units", laid_setsquare_unit_units)] }
def UnitEvalSaid : Prop := unitEvalRow.holds Tryz.pinned (OpenSpec.ofChange unitEvalSpec)

/-- ITS FALSE NEIGHBOUR: 'it returns false'. Refute it at one input. -/
def unitEvalWrong : ChangeSpec := { name := "unitEval", fn := fun _ => fun
  | [d1, d2] => { results := [.lit (.bool false)], args := [d1, d2] }
  | _ => none }
def UnitEvalWrongFalsely : Prop := unitEvalRow.holds Tryz.pinned (OpenSpec.ofChange unitEvalWrong)

/-- 'setsquarelaw23.UnitFormat': WHATEVER THE INPUT: true; the input reads as it did. -/
def unitFormatSpec : ChangeSpec := { name := "unitFormat", fn := fun _ => fun
  | [d1, d2] => { results := [.lit (.bool true)], args := [d1, d2] }
  | _ => none }
def unitFormatRow : OpenClaim := { program := "ytmpadildchphgaagreatdoor", sum := "d3493dc1a21ddc3ef5dffb5e4da19074417d996941ce1e379449116930b10fb5", func := "setsquare/setsquarelaw23.UnitFormat", spec := "unitFormat", inPlace := ["internal/abi.NoEscape", "internal/bytealg.MakeNoZero"], unfollowed := true, recurses := true, named := ["setsquare/unit.units", "internal/strconv.uint64pow10", "math/bits.deBruijn32tab", "math/bits.deBruijn64tab"], apart := false, laid := [("math/bits.deBruijn32tab", laid_math_bits_deBruijn32tab), ("math/bits.deBruijn64tab", laid_math_bits_deBruijn64tab), ("internal/strconv.uint64pow10", laid_internal_strconv_uint64pow10), ("setsquare/unit.units", laid_setsquare_unit_units)] }
def UnitFormatSaid : Prop := unitFormatRow.holds Tryz.pinned (OpenSpec.ofChange unitFormatSpec)

/-- ITS FALSE NEIGHBOUR: 'it returns false'. Refute it at one input. -/
def unitFormatWrong : ChangeSpec := { name := "unitFormat", fn := fun _ => fun
  | [d1, d2] => { results := [.lit (.bool false)], args := [d1, d2] }
  | _ => none }
def UnitFormatWrongFalsely : Prop := unitFormatRow.holds Tryz.pinned (OpenSpec.ofChange unitFormatWrong)

/-- 'setsquarelaw23.UnitInverse': WHATEVER THE INPUT: true; the input reads as it did. -/
def unitInverseSpec : ChangeSpec := { name := "unitInverse", fn := fun _ => fun
  | [d1, d2] => { results := [.lit (.bool true)], args := [d1, d2] }
  | _ => none }
def unitInverseRow : OpenClaim := { program := "ytmpadildchphgaagreatdoor", sum := "d3493dc1a21ddc3ef5dffb5e4da19074417d996941ce1e379449116930b10fb5", func := "setsquare/setsquarelaw23.UnitInverse", spec := "unitInverse", inPlace := ["internal/abi.NoEscape", "internal/bytealg.MakeNoZero"], unfollowed := true, recurses := true, named := ["setsquare/unit.units", "internal/strconv.uint64pow10", "math/bits.deBruijn32tab", "math/bits.deBruijn64tab"], apart := false, laid := [("math/bits.deBruijn32tab", laid_math_bits_deBruijn32tab), ("math/bits.deBruijn64tab", laid_math_bits_deBruijn64tab), ("internal/strconv.uint64pow10", laid_internal_strconv_uint64pow10), ("setsquare/unit.units", laid_setsquare_unit_units)] }
def UnitInverseSaid : Prop := unitInverseRow.holds Tryz.pinned (OpenSpec.ofChange unitInverseSpec)

/-- ITS FALSE NEIGHBOUR: 'it returns false'. Refute it at one input. -/
def unitInverseWrong : ChangeSpec := { name := "unitInverse", fn := fun _ => fun
  | [d1, d2] => { results := [.lit (.bool false)], args := [d1, d2] }
  | _ => none }
def UnitInverseWrongFalsely : Prop := unitInverseRow.holds Tryz.pinned (OpenSpec.ofChange unitInverseWrong)

/-- 'setsquarelaw23.UnitSubstitution': WHATEVER THE INPUT: true; the input reads as it did. -/
def unitSubstitutionSpec : ChangeSpec := { name := "unitSubstitution", fn := fun _ => fun
  | [d1, d2, d3] => { results := [.lit (.bool true)], args := [d1, d2, d3] }
  | _ => none }
def unitSubstitutionRow : OpenClaim := { program := "ytmpadildchphgaagreatdoor", sum := "d3493dc1a21ddc3ef5dffb5e4da19074417d996941ce1e379449116930b10fb5", func := "setsquare/setsquarelaw23.UnitSubstitution", spec := "unitSubstitution", inPlace := ["internal/abi.NoEscape", "internal/bytealg.MakeNoZero"], unfollowed := true, recurses := true, named := ["setsquare/unit.units", "internal/strconv.uint64pow10", "math/bits.deBruijn32tab", "math/bits.deBruijn64tab"], loops := true, apart := false, laid := [("math/bits.deBruijn32tab", laid_math_bits_deBruijn32tab), ("math/bits.deBruijn64tab", laid_math_bits_deBruijn64tab), ("internal/strconv.uint64pow10", laid_internal_strconv_uint64pow10), ("setsquare/unit.units", laid_setsquare_unit_units)] }
def UnitSubstitutionSaid : Prop := unitSubstitutionRow.holds Tryz.pinned (OpenSpec.ofChange unitSubstitutionSpec)

/-- ITS FALSE NEIGHBOUR: 'it returns false'. Refute it at one input. -/
def unitSubstitutionWrong : ChangeSpec := { name := "unitSubstitution", fn := fun _ => fun
  | [d1, d2, d3] => { results := [.lit (.bool false)], args := [d1, d2, d3] }
  | _ => none }
def UnitSubstitutionWrongFalsely : Prop := unitSubstitutionRow.holds Tryz.pinned (OpenSpec.ofChange unitSubstitutionWrong)

/-- 'setsquarelaw23.UnitTable': WHATEVER THE INPUT: true; the input reads as it did. -/
def unitTableSpec : ChangeSpec := { name := "unitTable", fn := fun _ => fun
  | [d] => { results := [.lit (.bool true)], args := [d] }
  | _ => none }
def unitTableRow : OpenClaim := { program := "ytmpadildchphgaagreatdoor", sum := "d3493dc1a21ddc3ef5dffb5e4da19074417d996941ce1e379449116930b10fb5", func := "setsquare/setsquarelaw23.UnitTable", spec := "unitTable", inPlace := ["internal/abi.NoEscape", "internal/bytealg.MakeNoZero"], unfollowed := true, recurses := true, named := ["setsquare/unit.units", "internal/strconv.uint64pow10", "math/bits.deBruijn32tab", "math/bits.deBruijn64tab"], apart := false, laid := [("math/bits.deBruijn32tab", laid_math_bits_deBruijn32tab), ("math/bits.deBruijn64tab", laid_math_bits_deBruijn64tab), ("internal/strconv.uint64pow10", laid_internal_strconv_uint64pow10), ("setsquare/unit.units", laid_setsquare_unit_units)] }
def UnitTableSaid : Prop := unitTableRow.holds Tryz.pinned (OpenSpec.ofChange unitTableSpec)

/-- ITS FALSE NEIGHBOUR: 'it returns false'. Refute it at one input. -/
def unitTableWrong : ChangeSpec := { name := "unitTable", fn := fun _ => fun
  | [d] => { results := [.lit (.bool false)], args := [d] }
  | _ => none }
def UnitTableWrongFalsely : Prop := unitTableRow.holds Tryz.pinned (OpenSpec.ofChange unitTableWrong)

/-- 'setsquarelaw23.UnitConvert': WHATEVER THE INPUT: true; the input reads as it did. -/
def unitConvertSpec : ChangeSpec := { name := "unitConvert", fn := fun _ => fun
  | [d1, d2] => { results := [.lit (.bool true)], args := [d1, d2] }
  | _ => none }
def unitConvertRow : OpenClaim := { program := "ytmpadildchphgaagreatdoor", sum := "d3493dc1a21ddc3ef5dffb5e4da19074417d996941ce1e379449116930b10fb5", func := "setsquare/setsquarelaw23.UnitConvert", spec := "unitConvert", inPlace := ["internal/abi.NoEscape", "internal/bytealg.MakeNoZero"], unfollowed := true, recurses := true, named := ["setsquare/unit.units", "internal/strconv.uint64pow10", "math/bits.deBruijn32tab", "math/bits.deBruijn64tab"], apart := false, laid := [("math/bits.deBruijn32tab", laid_math_bits_deBruijn32tab), ("math/bits.deBruijn64tab", laid_math_bits_deBruijn64tab), ("internal/strconv.uint64pow10", laid_internal_strconv_uint64pow10), ("setsquare/unit.units", laid_setsquare_unit_units)] }
def UnitConvertSaid : Prop := unitConvertRow.holds Tryz.pinned (OpenSpec.ofChange unitConvertSpec)

/-- ITS FALSE NEIGHBOUR: 'it returns false'. Refute it at one input. -/
def unitConvertWrong : ChangeSpec := { name := "unitConvert", fn := fun _ => fun
  | [d1, d2] => { results := [.lit (.bool false)], args := [d1, d2] }
  | _ => none }
def UnitConvertWrongFalsely : Prop := unitConvertRow.holds Tryz.pinned (OpenSpec.ofChange unitConvertWrong)

/- THE SECOND FORM. 'bulk': how many values and letters a reading holds, each counted each time it is reached (what is shared counts as often as it is met; a slice's spare places count too). A statement '..UptoSaid' is the law's where the arguments, and the package variables that the reading takes, are together of bulk at most 1048576: NARROWER than '..Said'. Prove '..Said' where nothing that the law and all that it calls make is longer than what came in: it says more and counts as full. Else prove '..UptoSaid'. A law counts once. -/
mutual
def uptoBulk {H : Type} : DataW H → Nat
  | .lit (.string bytes) => bytes.length + 1
  | .lit _ => 1
  | .nil => 1
  | .ptr d => uptoBulk d + 1
  | .slice elems spare => uptoBulkAll elems + uptoBulkAll spare + 1
  | .agg parts => uptoBulkAll parts + 1
  | .iface _ d => uptoBulk d + 1
  | .map entries => uptoBulkEntries entries + 1
  | .held _ => 1
def uptoBulkAll {H : Type} : List (DataW H) → Nat
  | [] => 0
  | d :: r => uptoBulk d + uptoBulkAll r
def uptoBulkEntries {H : Type} : List (Lit × DataW H) → Nat
  | [] => 0
  | x :: r => uptoBulkEntry x + uptoBulkEntries r
def uptoBulkEntry {H : Type} : Lit × DataW H → Nat
  | (.string bytes, d) => bytes.length + uptoBulk d + 1
  | (_, d) => uptoBulk d + 1
 end
def uptoSmall : (H : Type) → List (DataW H) → Bool := fun _ ds => decide (uptoBulkAll ds ≤ 1048576)
def OpenSpec.upto (s : _root_.Go.ChangeSpec) : _root_.Go.OpenSpec := { _root_.Go.OpenSpec.ofChange s with cond := some uptoSmall }

/-- 'setsquarelaw23.UnitArithmetic', WHERE WHAT IT READS IS OF BULK AT MOST 1048576: true; the input reads as it did. -/
def unitArithmeticUptoRow : OpenClaim := { program := "ytmpadildchphgaagreatdoor", sum := "d3493dc1a21ddc3ef5dffb5e4da19074417d996941ce1e379449116930b10fb5", func := "setsquare/setsquarelaw23.UnitArithmetic", spec := "unitArithmetic", inPlace := ["internal/abi.NoEscape", "internal/bytealg.MakeNoZero"], unfollowed := true, recurses := true, named := ["setsquare/unit.units", "internal/strconv.uint64pow10", "math/bits.deBruijn32tab", "math/bits.deBruijn64tab"], apart := false, laid := [("math/bits.deBruijn32tab", laid_math_bits_deBruijn32tab), ("math/bits.deBruijn64tab", laid_math_bits_deBruijn64tab), ("internal/strconv.uint64pow10", laid_internal_strconv_uint64pow10), ("setsquare/unit.units", laid_setsquare_unit_units)], narrowed := true }
def UnitArithmeticUptoSaid : Prop := unitArithmeticUptoRow.holds Tryz.pinned (OpenSpec.upto unitArithmeticSpec)

/-- 'setsquarelaw23.UnitEval', WHERE WHAT IT READS IS OF BULK AT MOST 1048576: true; the input reads as it did. -/
def unitEvalUptoRow : OpenClaim := { program := "ytmpadildchphgaagreatdoor", sum := "d3493dc1a21ddc3ef5dffb5e4da19074417d996941ce1e379449116930b10fb5", func := "setsquare/setsquarelaw23.UnitEval", spec := "unitEval", inPlace := ["internal/abi.NoEscape", "internal/bytealg.MakeNoZero"], unfollowed := true, recurses := true, named := ["setsquare/unit.units", "internal/strconv.uint64pow10", "math/bits.deBruijn32tab", "math/bits.deBruijn64tab"], loops := true, apart := false, laid := [("math/bits.deBruijn32tab", laid_math_bits_deBruijn32tab), ("math/bits.deBruijn64tab", laid_math_bits_deBruijn64tab), ("internal/strconv.uint64pow10", laid_internal_strconv_uint64pow10), ("setsquare/unit.units", laid_setsquare_unit_units)], narrowed := true }
def UnitEvalUptoSaid : Prop := unitEvalUptoRow.holds Tryz.pinned (OpenSpec.upto unitEvalSpec)

/-- 'setsquarelaw23.UnitFormat', WHERE WHAT IT READS IS OF BULK AT MOST 1048576: true; the input reads as it did. -/
def unitFormatUptoRow : OpenClaim := { program := "ytmpadildchphgaagreatdoor", sum := "d3493dc1a21ddc3ef5dffb5e4da19074417d996941ce1e379449116930b10fb5", func := "setsquare/setsquarelaw23.UnitFormat", spec := "unitFormat", inPlace := ["internal/abi.NoEscape", "internal/bytealg.MakeNoZero"], unfollowed := true, recurses := true, named := ["setsquare/unit.units", "internal/strconv.uint64pow10", "math/bits.deBruijn32tab", "math/bits.deBruijn64tab"], apart := false, laid := [("math/bits.deBruijn32tab", laid_math_bits_deBruijn32tab), ("math/bits.deBruijn64tab", laid_math_bits_deBruijn64tab), ("internal/strconv.uint64pow10", laid_internal_strconv_uint64pow10), ("setsquare/unit.units", laid_setsquare_unit_units)], narrowed := true }
def UnitFormatUptoSaid : Prop := unitFormatUptoRow.holds Tryz.pinned (OpenSpec.upto unitFormatSpec)

/-- 'setsquarelaw23.UnitInverse', WHERE WHAT IT READS IS OF BULK AT MOST 1048576: true; the input reads as it did. -/
def unitInverseUptoRow : OpenClaim := { program := "ytmpadildchphgaagreatdoor", sum := "d3493dc1a21ddc3ef5dffb5e4da19074417d996941ce1e379449116930b10fb5", func := "setsquare/setsquarelaw23.UnitInverse", spec := "unitInverse", inPlace := ["internal/abi.NoEscape", "internal/bytealg.MakeNoZero"], unfollowed := true, recurses := true, named := ["setsquare/unit.units", "internal/strconv.uint64pow10", "math/bits.deBruijn32tab", "math/bits.deBruijn64tab"], apart := false, laid := [("math/bits.deBruijn32tab", laid_math_bits_deBruijn32tab), ("math/bits.deBruijn64tab", laid_math_bits_deBruijn64tab), ("internal/strconv.uint64pow10", laid_internal_strconv_uint64pow10), ("setsquare/unit.units", laid_setsquare_unit_units)], narrowed := true }
def UnitInverseUptoSaid : Prop := unitInverseUptoRow.holds Tryz.pinned (OpenSpec.upto unitInverseSpec)

/-- 'setsquarelaw23.UnitSubstitution', WHERE WHAT IT READS IS OF BULK AT MOST 1048576: true; the input reads as it did. -/
def unitSubstitutionUptoRow : OpenClaim := { program := "ytmpadildchphgaagreatdoor", sum := "d3493dc1a21ddc3ef5dffb5e4da19074417d996941ce1e379449116930b10fb5", func := "setsquare/setsquarelaw23.UnitSubstitution", spec := "unitSubstitution", inPlace := ["internal/abi.NoEscape", "internal/bytealg.MakeNoZero"], unfollowed := true, recurses := true, named := ["setsquare/unit.units", "internal/strconv.uint64pow10", "math/bits.deBruijn32tab", "math/bits.deBruijn64tab"], loops := true, apart := false, laid := [("math/bits.deBruijn32tab", laid_math_bits_deBruijn32tab), ("math/bits.deBruijn64tab", laid_math_bits_deBruijn64tab), ("internal/strconv.uint64pow10", laid_internal_strconv_uint64pow10), ("setsquare/unit.units", laid_setsquare_unit_units)], narrowed := true }
def UnitSubstitutionUptoSaid : Prop := unitSubstitutionUptoRow.holds Tryz.pinned (OpenSpec.upto unitSubstitutionSpec)

/-- 'setsquarelaw23.UnitTable', WHERE WHAT IT READS IS OF BULK AT MOST 1048576: true; the input reads as it did. -/
def unitTableUptoRow : OpenClaim := { program := "ytmpadildchphgaagreatdoor", sum := "d3493dc1a21ddc3ef5dffb5e4da19074417d996941ce1e379449116930b10fb5", func := "setsquare/setsquarelaw23.UnitTable", spec := "unitTable", inPlace := ["internal/abi.NoEscape", "internal/bytealg.MakeNoZero"], unfollowed := true, recurses := true, named := ["setsquare/unit.units", "internal/strconv.uint64pow10", "math/bits.deBruijn32tab", "math/bits.deBruijn64tab"], apart := false, laid := [("math/bits.deBruijn32tab", laid_math_bits_deBruijn32tab), ("math/bits.deBruijn64tab", laid_math_bits_deBruijn64tab), ("internal/strconv.uint64pow10", laid_internal_strconv_uint64pow10), ("setsquare/unit.units", laid_setsquare_unit_units)], narrowed := true }
def UnitTableUptoSaid : Prop := unitTableUptoRow.holds Tryz.pinned (OpenSpec.upto unitTableSpec)

/-- 'setsquarelaw23.UnitConvert', WHERE WHAT IT READS IS OF BULK AT MOST 1048576: true; the input reads as it did. -/
def unitConvertUptoRow : OpenClaim := { program := "ytmpadildchphgaagreatdoor", sum := "d3493dc1a21ddc3ef5dffb5e4da19074417d996941ce1e379449116930b10fb5", func := "setsquare/setsquarelaw23.UnitConvert", spec := "unitConvert", inPlace := ["internal/abi.NoEscape", "internal/bytealg.MakeNoZero"], unfollowed := true, recurses := true, named := ["setsquare/unit.units", "internal/strconv.uint64pow10", "math/bits.deBruijn32tab", "math/bits.deBruijn64tab"], apart := false, laid := [("math/bits.deBruijn32tab", laid_math_bits_deBruijn32tab), ("math/bits.deBruijn64tab", laid_math_bits_deBruijn64tab), ("internal/strconv.uint64pow10", laid_internal_strconv_uint64pow10), ("setsquare/unit.units", laid_setsquare_unit_units)], narrowed := true }
def UnitConvertUptoSaid : Prop := unitConvertUptoRow.holds Tryz.pinned (OpenSpec.upto unitConvertSpec)

end Rows
end Go.Proofs.YtmpadildchphgaaGreatDoor
