/-
  No cell of these rows narrows 'for every input' (looked for: loops, veiled, ifaces, maps, wideKeys, modest, calm, conditions, laid).
  DERIVED. THE GIVEN ROWS OF THIS SEAT. 8 by the template 'for every input the law returns true; each argument reads behind the call as it read before'; 0 by the template 'total and deterministic' (their statements: YtdmijpechdaniaaTotals.lean).
  GIVEN WITH THE SEED: the statements are not yours to turn. If you find one false, say at which input.
  Laid BY PROGRAM, IN A SANDBOX (cutbox-rows.mjs): the forced cells as the released guide's own fill.sh prints them over the translation d1c288191aa93193… (all of the seat's roots in one cut). By AI agents, Wed Nov 11 2026. No macro, syntax, notation, axiom, sorry.
-/
import Derived.Test.YtdmijpechdaniaaChecked
import GoSem.Claim
import GoSem.ClaimJoined
import GoSem.ClaimMapViews
import Derived.JoinedTies
import Derived.KernelRfl
namespace Go.Proofs.Ytdmijpechdaniaa
/- THE CELL 'sum', in the pinned program and in every row, IS THE sha256 OF THE DUMP (.gsa) THAT YtdmijpechdaniaaProg.lean LOADS. Nothing in Lean hashes anything: it is a label: what it is worth is what the hold of that sum in a sandbox is worth. -/
noncomputable def Try.pinned : Pinned := { name := "ytdmijpechdaniaa", sum := "d1c288191aa931939b0fac9acf91004a627d5d53541e9faa387ab31bbf9b709c", checked := Try.checked }
namespace Rows
def none {H : Type} : Left H := { results := [], args := [] }

/-- 'setsquarelaw01.IntegerMul': WHATEVER THE INPUT: true; the input reads as it did. -/
def integerMulSpec : ChangeSpec := { name := "integerMul", fn := fun _ => fun
  | [d1, d2] => { results := [.lit (.bool true)], args := [d1, d2] }
  | _ => none }
def integerMulRow : OpenClaim := { program := "ytdmijpechdaniaa", sum := "d1c288191aa931939b0fac9acf91004a627d5d53541e9faa387ab31bbf9b709c", func := "setsquare/setsquarelaw01.IntegerMul", spec := "integerMul", unfollowed := true, recurses := true, apart := false }
def IntegerMulSaid : Prop := integerMulRow.holds Try.pinned (OpenSpec.ofChange integerMulSpec)

/-- ITS FALSE NEIGHBOUR: 'it returns false'. Refute it at one input. -/
def integerMulWrong : ChangeSpec := { name := "integerMul", fn := fun _ => fun
  | [d1, d2] => { results := [.lit (.bool false)], args := [d1, d2] }
  | _ => none }
def IntegerMulWrongFalsely : Prop := integerMulRow.holds Try.pinned (OpenSpec.ofChange integerMulWrong)

/-- 'setsquarelaw01.IntegerDivMod': WHATEVER THE INPUT: true; the input reads as it did. -/
def integerDivModSpec : ChangeSpec := { name := "integerDivMod", fn := fun _ => fun
  | [d1, d2] => { results := [.lit (.bool true)], args := [d1, d2] }
  | _ => none }
def integerDivModRow : OpenClaim := { program := "ytdmijpechdaniaa", sum := "d1c288191aa931939b0fac9acf91004a627d5d53541e9faa387ab31bbf9b709c", func := "setsquare/setsquarelaw01.IntegerDivMod", spec := "integerDivMod", unfollowed := true, recurses := true, apart := false }
def IntegerDivModSaid : Prop := integerDivModRow.holds Try.pinned (OpenSpec.ofChange integerDivModSpec)

/-- ITS FALSE NEIGHBOUR: 'it returns false'. Refute it at one input. -/
def integerDivModWrong : ChangeSpec := { name := "integerDivMod", fn := fun _ => fun
  | [d1, d2] => { results := [.lit (.bool false)], args := [d1, d2] }
  | _ => none }
def IntegerDivModWrongFalsely : Prop := integerDivModRow.holds Try.pinned (OpenSpec.ofChange integerDivModWrong)

/-- 'setsquarelaw01.IntegerPow': WHATEVER THE INPUT: true; the input reads as it did. -/
def integerPowSpec : ChangeSpec := { name := "integerPow", fn := fun _ => fun
  | [d1, d2] => { results := [.lit (.bool true)], args := [d1, d2] }
  | _ => none }
def integerPowRow : OpenClaim := { program := "ytdmijpechdaniaa", sum := "d1c288191aa931939b0fac9acf91004a627d5d53541e9faa387ab31bbf9b709c", func := "setsquare/setsquarelaw01.IntegerPow", spec := "integerPow", unfollowed := true, recurses := true, apart := false }
def IntegerPowSaid : Prop := integerPowRow.holds Try.pinned (OpenSpec.ofChange integerPowSpec)

/-- ITS FALSE NEIGHBOUR: 'it returns false'. Refute it at one input. -/
def integerPowWrong : ChangeSpec := { name := "integerPow", fn := fun _ => fun
  | [d1, d2] => { results := [.lit (.bool false)], args := [d1, d2] }
  | _ => none }
def IntegerPowWrongFalsely : Prop := integerPowRow.holds Try.pinned (OpenSpec.ofChange integerPowWrong)

/-- 'setsquarelaw01.IntegerSqrt': WHATEVER THE INPUT: true; the input reads as it did. -/
def integerSqrtSpec : ChangeSpec := { name := "integerSqrt", fn := fun _ => fun
  | [d] => { results := [.lit (.bool true)], args := [d] }
  | _ => none }
def integerSqrtRow : OpenClaim := { program := "ytdmijpechdaniaa", sum := "d1c288191aa931939b0fac9acf91004a627d5d53541e9faa387ab31bbf9b709c", func := "setsquare/setsquarelaw01.IntegerSqrt", spec := "integerSqrt", unfollowed := true, recurses := true, apart := false }
def IntegerSqrtSaid : Prop := integerSqrtRow.holds Try.pinned (OpenSpec.ofChange integerSqrtSpec)

/-- ITS FALSE NEIGHBOUR: 'it returns false'. Refute it at one input. -/
def integerSqrtWrong : ChangeSpec := { name := "integerSqrt", fn := fun _ => fun
  | [d] => { results := [.lit (.bool false)], args := [d] }
  | _ => none }
def IntegerSqrtWrongFalsely : Prop := integerSqrtRow.holds Try.pinned (OpenSpec.ofChange integerSqrtWrong)

/-- 'setsquarelaw01.IntegerParse': WHATEVER THE INPUT: true; the input reads as it did. -/
def integerParseSpec : ChangeSpec := { name := "integerParse", fn := fun _ => fun
  | [d] => { results := [.lit (.bool true)], args := [d] }
  | _ => none }
def integerParseRow : OpenClaim := { program := "ytdmijpechdaniaa", sum := "d1c288191aa931939b0fac9acf91004a627d5d53541e9faa387ab31bbf9b709c", func := "setsquare/setsquarelaw01.IntegerParse", spec := "integerParse", unfollowed := true, recurses := true, apart := false }
def IntegerParseSaid : Prop := integerParseRow.holds Try.pinned (OpenSpec.ofChange integerParseSpec)

/-- ITS FALSE NEIGHBOUR: 'it returns false'. Refute it at one input. -/
def integerParseWrong : ChangeSpec := { name := "integerParse", fn := fun _ => fun
  | [d] => { results := [.lit (.bool false)], args := [d] }
  | _ => none }
def IntegerParseWrongFalsely : Prop := integerParseRow.holds Try.pinned (OpenSpec.ofChange integerParseWrong)

/-- 'setsquarelaw01.IntegerGCD': WHATEVER THE INPUT: true; the input reads as it did. -/
def integerGCDSpec : ChangeSpec := { name := "integerGCD", fn := fun _ => fun
  | [d1, d2, d3] => { results := [.lit (.bool true)], args := [d1, d2, d3] }
  | _ => none }
def integerGCDRow : OpenClaim := { program := "ytdmijpechdaniaa", sum := "d1c288191aa931939b0fac9acf91004a627d5d53541e9faa387ab31bbf9b709c", func := "setsquare/setsquarelaw01.IntegerGCD", spec := "integerGCD", unfollowed := true, recurses := true, apart := false }
def IntegerGCDSaid : Prop := integerGCDRow.holds Try.pinned (OpenSpec.ofChange integerGCDSpec)

/-- ITS FALSE NEIGHBOUR: 'it returns false'. Refute it at one input. -/
def integerGCDWrong : ChangeSpec := { name := "integerGCD", fn := fun _ => fun
  | [d1, d2, d3] => { results := [.lit (.bool false)], args := [d1, d2, d3] }
  | _ => none }
def IntegerGCDWrongFalsely : Prop := integerGCDRow.holds Try.pinned (OpenSpec.ofChange integerGCDWrong)

/-- 'setsquarelaw01.IntegerNorm': WHATEVER THE INPUT: true; the input reads as it did. -/
def integerNormSpec : ChangeSpec := { name := "integerNorm", fn := fun _ => fun
  | [d1, d2] => { results := [.lit (.bool true)], args := [d1, d2] }
  | _ => none }
def integerNormRow : OpenClaim := { program := "ytdmijpechdaniaa", sum := "d1c288191aa931939b0fac9acf91004a627d5d53541e9faa387ab31bbf9b709c", func := "setsquare/setsquarelaw01.IntegerNorm", spec := "integerNorm", unfollowed := true, recurses := true, apart := false }
def IntegerNormSaid : Prop := integerNormRow.holds Try.pinned (OpenSpec.ofChange integerNormSpec)

/-- ITS FALSE NEIGHBOUR: 'it returns false'. Refute it at one input. -/
def integerNormWrong : ChangeSpec := { name := "integerNorm", fn := fun _ => fun
  | [d1, d2] => { results := [.lit (.bool false)], args := [d1, d2] }
  | _ => none }
def IntegerNormWrongFalsely : Prop := integerNormRow.holds Try.pinned (OpenSpec.ofChange integerNormWrong)

/-- 'setsquarelaw01.IntegerSums': WHATEVER THE INPUT: true; the input reads as it did. -/
def integerSumsSpec : ChangeSpec := { name := "integerSums", fn := fun _ => fun
  | [d1, d2] => { results := [.lit (.bool true)], args := [d1, d2] }
  | _ => none }
def integerSumsRow : OpenClaim := { program := "ytdmijpechdaniaa", sum := "d1c288191aa931939b0fac9acf91004a627d5d53541e9faa387ab31bbf9b709c", func := "setsquare/setsquarelaw01.IntegerSums", spec := "integerSums", unfollowed := true, recurses := true, apart := false }
def IntegerSumsSaid : Prop := integerSumsRow.holds Try.pinned (OpenSpec.ofChange integerSumsSpec)

/-- ITS FALSE NEIGHBOUR: 'it returns false'. Refute it at one input. -/
def integerSumsWrong : ChangeSpec := { name := "integerSums", fn := fun _ => fun
  | [d1, d2] => { results := [.lit (.bool false)], args := [d1, d2] }
  | _ => none }
def IntegerSumsWrongFalsely : Prop := integerSumsRow.holds Try.pinned (OpenSpec.ofChange integerSumsWrong)

/- THE SECOND FORM. 'bulk': how many values and letters a reading holds, each counted each time it is reached (what is shared counts as often as it is met; a slice's spare places count too). A statement '..UptoSaid' is the law's where the arguments, and the package variables that the reading takes, are together of bulk at most 1048576: NARROWER than '..Said'. Prove '..Said' where nothing that the law and all that it calls make is longer than what came in: it says more and counts as full. Else prove '..UptoSaid'. A law counts once. -/
mutual
def uptoBulk {H : Type} : DataW H → Nat
  | .lit (.string bytes) => bytes.length + 1
  | .lit _ => 1
  | .nil => 1
  | .ptr d => uptoBulk d + 1
  | .slice elems spare => uptoBulkAll elems + uptoBulkAll spare + 1
  | .agg parts => uptoBulkAll parts + 1
  | .iface _ d => uptoBulk d + 1
  | .map entries => uptoBulkEntries entries + 1
  | .held _ => 1
def uptoBulkAll {H : Type} : List (DataW H) → Nat
  | [] => 0
  | d :: r => uptoBulk d + uptoBulkAll r
def uptoBulkEntries {H : Type} : List (Lit × DataW H) → Nat
  | [] => 0
  | x :: r => uptoBulkEntry x + uptoBulkEntries r
def uptoBulkEntry {H : Type} : Lit × DataW H → Nat
  | (.string bytes, d) => bytes.length + uptoBulk d + 1
  | (_, d) => uptoBulk d + 1
 end
def uptoSmall : (H : Type) → List (DataW H) → Bool := fun _ ds => decide (uptoBulkAll ds ≤ 1048576)
def OpenSpec.upto (s : _root_.Go.ChangeSpec) : _root_.Go.OpenSpec := { _root_.Go.OpenSpec.ofChange s with cond := some uptoSmall }

/-- 'setsquarelaw01.IntegerMul', WHERE WHAT IT READS IS OF BULK AT MOST 1048576: true; the input reads as it did. -/
def integerMulUptoRow : OpenClaim := { program := "ytdmijpechdaniaa", sum := "d1c288191aa931939b0fac9acf91004a627d5d53541e9faa387ab31bbf9b709c", func := "setsquare/setsquarelaw01.IntegerMul", spec := "integerMul", unfollowed := true, recurses := true, apart := false, narrowed := true }
def IntegerMulUptoSaid : Prop := integerMulUptoRow.holds Try.pinned (OpenSpec.upto integerMulSpec)

/-- 'setsquarelaw01.IntegerDivMod', WHERE WHAT IT READS IS OF BULK AT MOST 1048576: true; the input reads as it did. -/
def integerDivModUptoRow : OpenClaim := { program := "ytdmijpechdaniaa", sum := "d1c288191aa931939b0fac9acf91004a627d5d53541e9faa387ab31bbf9b709c", func := "setsquare/setsquarelaw01.IntegerDivMod", spec := "integerDivMod", unfollowed := true, recurses := true, apart := false, narrowed := true }
def IntegerDivModUptoSaid : Prop := integerDivModUptoRow.holds Try.pinned (OpenSpec.upto integerDivModSpec)

/-- 'setsquarelaw01.IntegerPow', WHERE WHAT IT READS IS OF BULK AT MOST 1048576: true; the input reads as it did. -/
def integerPowUptoRow : OpenClaim := { program := "ytdmijpechdaniaa", sum := "d1c288191aa931939b0fac9acf91004a627d5d53541e9faa387ab31bbf9b709c", func := "setsquare/setsquarelaw01.IntegerPow", spec := "integerPow", unfollowed := true, recurses := true, apart := false, narrowed := true }
def IntegerPowUptoSaid : Prop := integerPowUptoRow.holds Try.pinned (OpenSpec.upto integerPowSpec)

/-- 'setsquarelaw01.IntegerSqrt', WHERE WHAT IT READS IS OF BULK AT MOST 1048576: true; the input reads as it did. -/
def integerSqrtUptoRow : OpenClaim := { program := "ytdmijpechdaniaa", sum := "d1c288191aa931939b0fac9acf91004a627d5d53541e9faa387ab31bbf9b709c", func := "setsquare/setsquarelaw01.IntegerSqrt", spec := "integerSqrt", unfollowed := true, recurses := true, apart := false, narrowed := true }
def IntegerSqrtUptoSaid : Prop := integerSqrtUptoRow.holds Try.pinned (OpenSpec.upto integerSqrtSpec)

/-- 'setsquarelaw01.IntegerParse', WHERE WHAT IT READS IS OF BULK AT MOST 1048576: true; the input reads as it did. -/
def integerParseUptoRow : OpenClaim := { program := "ytdmijpechdaniaa", sum := "d1c288191aa931939b0fac9acf91004a627d5d53541e9faa387ab31bbf9b709c", func := "setsquare/setsquarelaw01.IntegerParse", spec := "integerParse", unfollowed := true, recurses := true, apart := false, narrowed := true }
def IntegerParseUptoSaid : Prop := integerParseUptoRow.holds Try.pinned (OpenSpec.upto integerParseSpec)

/-- 'setsquarelaw01.IntegerGCD', WHERE WHAT IT READS IS OF BULK AT MOST 1048576: true; the input reads as it did. -/
def integerGCDUptoRow : OpenClaim := { program := "ytdmijpechdaniaa", sum := "d1c288191aa931939b0fac9acf91004a627d5d53541e9faa387ab31bbf9b709c", func := "setsquare/setsquarelaw01.IntegerGCD", spec := "integerGCD", unfollowed := true, recurses := true, apart := false, narrowed := true }
def IntegerGCDUptoSaid : Prop := integerGCDUptoRow.holds Try.pinned (OpenSpec.upto integerGCDSpec)

/-- 'setsquarelaw01.IntegerNorm', WHERE WHAT IT READS IS OF BULK AT MOST 1048576: true; the input reads as it did. -/
def integerNormUptoRow : OpenClaim := { program := "ytdmijpechdaniaa", sum := "d1c288191aa931939b0fac9acf91004a627d5d53541e9faa387ab31bbf9b709c", func := "setsquare/setsquarelaw01.IntegerNorm", spec := "integerNorm", unfollowed := true, recurses := true, apart := false, narrowed := true }
def IntegerNormUptoSaid : Prop := integerNormUptoRow.holds Try.pinned (OpenSpec.upto integerNormSpec)

/-- 'setsquarelaw01.IntegerSums', WHERE WHAT IT READS IS OF BULK AT MOST 1048576: true; the input reads as it did. -/
def integerSumsUptoRow : OpenClaim := { program := "ytdmijpechdaniaa", sum := "d1c288191aa931939b0fac9acf91004a627d5d53541e9faa387ab31bbf9b709c", func := "setsquare/setsquarelaw01.IntegerSums", spec := "integerSums", unfollowed := true, recurses := true, apart := false, narrowed := true }
def IntegerSumsUptoSaid : Prop := integerSumsUptoRow.holds Try.pinned (OpenSpec.upto integerSumsSpec)

end Rows
end Go.Proofs.Ytdmijpechdaniaa
