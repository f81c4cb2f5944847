/-
  NARROWER THAN 'FOR EVERY INPUT', by the rows' own cells (each row's printed sentence says how): EquationFormats: loops, laid · EquationRoundTrip: loops, laid · EquationCanonical: laid · EquationBrackets: laid · EquationExamples: laid · EquationChecks: loops, laid · EquationWeakening: loops, laid · BytecodeExamples: laid · BytecodePrefix: laid.
  DERIVED. THE GIVEN ROWS OF THIS SEAT. 9 by the template 'for every input the law returns true; each argument reads behind the call as it read before'; 0 by the template 'total and deterministic' (their statements: YtbbopomecanaoaaDoorTotals.lean).
  GIVEN WITH THE SEED: the statements are not yours to turn. If you find one false, say at which input.
  Laid BY PROGRAM, IN A SANDBOX (cutbox-rows.mjs): the forced cells as the released guide's own fill.sh prints them over the translation d4c33d48ff0e3d4b… (all of the seat's roots in one cut). By AI agents, Wed Nov 11 2026. No macro, syntax, notation, axiom, sorry.
-/
import Derived.Test.YtbbopomecanaoaaDoorChecked
import GoSem.Claim
import GoSem.ClaimJoined
import GoSem.ClaimMapViews
import Derived.JoinedTies
import Derived.KernelRfl
namespace Go.Proofs.YtbbopomecanaoaaDoor
/- THE CELL 'sum', in the pinned program and in every row, IS THE sha256 OF THE DUMP (.gsa) THAT YtbbopomecanaoaaDoorProg.lean LOADS. Nothing in Lean hashes anything: it is a label: what it is worth is what the hold of that sum in a sandbox is worth. -/
noncomputable def Tryd.pinned : Pinned := { name := "ytbbopomecanaoaadoor", sum := "d4c33d48ff0e3d4b784075c580f076b136310a76612bc1a4b5ae2296e476c1e5", checked := Tryd.checked }
namespace Rows
def none {H : Type} : Left H := { results := [], args := [] }

/- WHAT THE LISTED PACKAGE-LEVEL VARIABLES READ AS WHEN THE CALL BEGINS. Each datum BY PROGRAM (the guide's laid-datum.mjs) off the statement by which the dump's own 'gosem.cut.vars' lays the variable. In a bare row this is a premise. The card (YtbbopomecanaoaaDoorCards.lean) ties it to the program's text. -/
def laid_math_bits_deBruijn32tab {H : Type} : DataW H := .agg [.lit (.int .u8 0), .lit (.int .u8 1), .lit (.int .u8 28), .lit (.int .u8 2), .lit (.int .u8 29), .lit (.int .u8 14), .lit (.int .u8 24), .lit (.int .u8 3), .lit (.int .u8 30), .lit (.int .u8 22), .lit (.int .u8 20), .lit (.int .u8 15), .lit (.int .u8 25), .lit (.int .u8 17), .lit (.int .u8 4), .lit (.int .u8 8), .lit (.int .u8 31), .lit (.int .u8 27), .lit (.int .u8 13), .lit (.int .u8 23), .lit (.int .u8 21), .lit (.int .u8 19), .lit (.int .u8 16), .lit (.int .u8 7), .lit (.int .u8 26), .lit (.int .u8 12), .lit (.int .u8 18), .lit (.int .u8 6), .lit (.int .u8 11), .lit (.int .u8 5), .lit (.int .u8 10), .lit (.int .u8 9)]
def laid_math_bits_deBruijn64tab {H : Type} : DataW H := .agg [.lit (.int .u8 0), .lit (.int .u8 1), .lit (.int .u8 56), .lit (.int .u8 2), .lit (.int .u8 57), .lit (.int .u8 49), .lit (.int .u8 28), .lit (.int .u8 3), .lit (.int .u8 61), .lit (.int .u8 58), .lit (.int .u8 42), .lit (.int .u8 50), .lit (.int .u8 38), .lit (.int .u8 29), .lit (.int .u8 17), .lit (.int .u8 4), .lit (.int .u8 62), .lit (.int .u8 47), .lit (.int .u8 59), .lit (.int .u8 36), .lit (.int .u8 45), .lit (.int .u8 43), .lit (.int .u8 51), .lit (.int .u8 22), .lit (.int .u8 53), .lit (.int .u8 39), .lit (.int .u8 33), .lit (.int .u8 30), .lit (.int .u8 24), .lit (.int .u8 18), .lit (.int .u8 12), .lit (.int .u8 5), .lit (.int .u8 63), .lit (.int .u8 55), .lit (.int .u8 48), .lit (.int .u8 27), .lit (.int .u8 60), .lit (.int .u8 41), .lit (.int .u8 37), .lit (.int .u8 16), .lit (.int .u8 46), .lit (.int .u8 35), .lit (.int .u8 44), .lit (.int .u8 21), .lit (.int .u8 52), .lit (.int .u8 32), .lit (.int .u8 23), .lit (.int .u8 11), .lit (.int .u8 54), .lit (.int .u8 26), .lit (.int .u8 40), .lit (.int .u8 15), .lit (.int .u8 34), .lit (.int .u8 20), .lit (.int .u8 31), .lit (.int .u8 10), .lit (.int .u8 25), .lit (.int .u8 14), .lit (.int .u8 19), .lit (.int .u8 9), .lit (.int .u8 13), .lit (.int .u8 8), .lit (.int .u8 7), .lit (.int .u8 6)]
def laid_internal_strconv_uint64pow10 {H : Type} : DataW H := .agg [.lit (.int .u64 1), .lit (.int .u64 10), .lit (.int .u64 100), .lit (.int .u64 1000), .lit (.int .u64 10000), .lit (.int .u64 100000), .lit (.int .u64 1000000), .lit (.int .u64 10000000), .lit (.int .u64 100000000), .lit (.int .u64 1000000000), .lit (.int .u64 10000000000), .lit (.int .u64 100000000000), .lit (.int .u64 1000000000000), .lit (.int .u64 10000000000000), .lit (.int .u64 100000000000000), .lit (.int .u64 1000000000000000), .lit (.int .u64 10000000000000000), .lit (.int .u64 100000000000000000), .lit (.int .u64 1000000000000000000), .lit (.int .u64 10000000000000000000)]
def laid_strconv_ErrRange {H : Type} : DataW H := .iface "*errors.errorString" (.ptr (.agg [.lit (.string [118, 97, 108, 117, 101, 32, 111, 117, 116, 32, 111, 102, 32, 114, 97, 110, 103, 101])]))
def laid_strconv_ErrSyntax {H : Type} : DataW H := .iface "*errors.errorString" (.ptr (.agg [.lit (.string [105, 110, 118, 97, 108, 105, 100, 32, 115, 121, 110, 116, 97, 120])]))
def laid_substation_bytecode_shapes {H : Type} : DataW H := .agg [.agg [.lit (.int .i64 0), .lit (.int .i64 0), .lit (.int .i64 0)], .agg [.lit (.int .i64 0), .lit (.int .i64 0), .lit (.int .i64 1)], .agg [.lit (.int .i64 0), .lit (.int .i64 0), .lit (.int .i64 2)], .agg [.lit (.int .i64 0), .lit (.int .i64 0), .lit (.int .i64 0)], .agg [.lit (.int .i64 1), .lit (.int .i64 1), .lit (.int .i64 1)], .agg [.lit (.int .i64 2), .lit (.int .i64 1), .lit (.int .i64 1)], .agg [.lit (.int .i64 2), .lit (.int .i64 1), .lit (.int .i64 1)], .agg [.lit (.int .i64 2), .lit (.int .i64 1), .lit (.int .i64 1)], .agg [.lit (.int .i64 2), .lit (.int .i64 2), .lit (.int .i64 1)], .agg [.lit (.int .i64 2), .lit (.int .i64 2), .lit (.int .i64 1)], .agg [.lit (.int .i64 2), .lit (.int .i64 2), .lit (.int .i64 1)], .agg [.lit (.int .i64 2), .lit (.int .i64 2), .lit (.int .i64 2)], .agg [.lit (.int .i64 2), .lit (.int .i64 2), .lit (.int .i64 2)], .agg [.lit (.int .i64 2), .lit (.int .i64 2), .lit (.int .i64 2)], .agg [.lit (.int .i64 2), .lit (.int .i64 2), .lit (.int .i64 2)], .agg [.lit (.int .i64 1), .lit (.int .i64 2), .lit (.int .i64 2)], .agg [.lit (.int .i64 3), .lit (.int .i64 0), .lit (.int .i64 0)], .agg [.lit (.int .i64 1), .lit (.int .i64 1), .lit (.int .i64 1)], .agg [.lit (.int .i64 1), .lit (.int .i64 1), .lit (.int .i64 1)], .agg [.lit (.int .i64 1), .lit (.int .i64 1), .lit (.int .i64 1)], .agg [.lit (.int .i64 1), .lit (.int .i64 1), .lit (.int .i64 1)], .agg [.lit (.int .i64 2), .lit (.int .i64 1), .lit (.int .i64 1)], .agg [.lit (.int .i64 2), .lit (.int .i64 1), .lit (.int .i64 2)], .agg [.lit (.int .i64 0), .lit (.int .i64 0), .lit (.int .i64 0)], .agg [.lit (.int .i64 0), .lit (.int .i64 0), .lit (.int .i64 0)], .agg [.lit (.int .i64 0), .lit (.int .i64 0), .lit (.int .i64 0)], .agg [.lit (.int .i64 0), .lit (.int .i64 0), .lit (.int .i64 0)], .agg [.lit (.int .i64 0), .lit (.int .i64 0), .lit (.int .i64 0)], .agg [.lit (.int .i64 0), .lit (.int .i64 0), .lit (.int .i64 0)], .agg [.lit (.int .i64 0), .lit (.int .i64 0), .lit (.int .i64 0)], .agg [.lit (.int .i64 0), .lit (.int .i64 0), .lit (.int .i64 0)], .agg [.lit (.int .i64 0), .lit (.int .i64 0), .lit (.int .i64 1)], .agg [.lit (.int .i64 1), .lit (.int .i64 1), .lit (.int .i64 0)]]

/-- 'substationlaw26.EquationFormats': WHATEVER THE INPUT: true; the input reads as it did. -/
def equationFormatsSpec : ChangeSpec := { name := "equationFormats", fn := fun _ => fun
  | [d] => { results := [.lit (.bool true)], args := [d] }
  | _ => none }
def equationFormatsRow : OpenClaim := { program := "ytbbopomecanaoaadoor", sum := "d4c33d48ff0e3d4b784075c580f076b136310a76612bc1a4b5ae2296e476c1e5", func := "substation/substationlaw26.EquationFormats", spec := "equationFormats", unfollowed := true, recurses := true, named := ["strconv.ErrSyntax", "strconv.ErrRange", "internal/strconv.uint64pow10", "math/bits.deBruijn32tab", "math/bits.deBruijn64tab"], loops := true, apart := false, laid := [("math/bits.deBruijn32tab", laid_math_bits_deBruijn32tab), ("math/bits.deBruijn64tab", laid_math_bits_deBruijn64tab), ("internal/strconv.uint64pow10", laid_internal_strconv_uint64pow10), ("strconv.ErrRange", laid_strconv_ErrRange), ("strconv.ErrSyntax", laid_strconv_ErrSyntax)] }
def EquationFormatsSaid : Prop := equationFormatsRow.holds Tryd.pinned (OpenSpec.ofChange equationFormatsSpec)

/-- ITS FALSE NEIGHBOUR: 'it returns false'. Refute it at one input. -/
def equationFormatsWrong : ChangeSpec := { name := "equationFormats", fn := fun _ => fun
  | [d] => { results := [.lit (.bool false)], args := [d] }
  | _ => none }
def EquationFormatsWrongFalsely : Prop := equationFormatsRow.holds Tryd.pinned (OpenSpec.ofChange equationFormatsWrong)

/-- 'substationlaw26.EquationRoundTrip': WHATEVER THE INPUT: true; the input reads as it did. -/
def equationRoundTripSpec : ChangeSpec := { name := "equationRoundTrip", fn := fun _ => fun
  | [d] => { results := [.lit (.bool true)], args := [d] }
  | _ => none }
def equationRoundTripRow : OpenClaim := { program := "ytbbopomecanaoaadoor", sum := "d4c33d48ff0e3d4b784075c580f076b136310a76612bc1a4b5ae2296e476c1e5", func := "substation/substationlaw26.EquationRoundTrip", spec := "equationRoundTrip", unfollowed := true, recurses := true, named := ["internal/strconv.uint64pow10", "math/bits.deBruijn32tab", "math/bits.deBruijn64tab", "strconv.ErrSyntax", "strconv.ErrRange"], loops := true, apart := false, laid := [("math/bits.deBruijn32tab", laid_math_bits_deBruijn32tab), ("math/bits.deBruijn64tab", laid_math_bits_deBruijn64tab), ("internal/strconv.uint64pow10", laid_internal_strconv_uint64pow10), ("strconv.ErrRange", laid_strconv_ErrRange), ("strconv.ErrSyntax", laid_strconv_ErrSyntax)] }
def EquationRoundTripSaid : Prop := equationRoundTripRow.holds Tryd.pinned (OpenSpec.ofChange equationRoundTripSpec)

/-- ITS FALSE NEIGHBOUR: 'it returns false'. Refute it at one input. -/
def equationRoundTripWrong : ChangeSpec := { name := "equationRoundTrip", fn := fun _ => fun
  | [d] => { results := [.lit (.bool false)], args := [d] }
  | _ => none }
def EquationRoundTripWrongFalsely : Prop := equationRoundTripRow.holds Tryd.pinned (OpenSpec.ofChange equationRoundTripWrong)

/-- 'substationlaw26.EquationCanonical': WHATEVER THE INPUT: true; the input reads as it did. -/
def equationCanonicalSpec : ChangeSpec := { name := "equationCanonical", fn := fun _ => fun
  | [d] => { results := [.lit (.bool true)], args := [d] }
  | _ => none }
def equationCanonicalRow : OpenClaim := { program := "ytbbopomecanaoaadoor", sum := "d4c33d48ff0e3d4b784075c580f076b136310a76612bc1a4b5ae2296e476c1e5", func := "substation/substationlaw26.EquationCanonical", spec := "equationCanonical", unfollowed := true, recurses := true, named := ["strconv.ErrSyntax", "strconv.ErrRange", "internal/strconv.uint64pow10", "math/bits.deBruijn32tab", "math/bits.deBruijn64tab"], apart := false, laid := [("math/bits.deBruijn32tab", laid_math_bits_deBruijn32tab), ("math/bits.deBruijn64tab", laid_math_bits_deBruijn64tab), ("internal/strconv.uint64pow10", laid_internal_strconv_uint64pow10), ("strconv.ErrRange", laid_strconv_ErrRange), ("strconv.ErrSyntax", laid_strconv_ErrSyntax)] }
def EquationCanonicalSaid : Prop := equationCanonicalRow.holds Tryd.pinned (OpenSpec.ofChange equationCanonicalSpec)

/-- ITS FALSE NEIGHBOUR: 'it returns false'. Refute it at one input. -/
def equationCanonicalWrong : ChangeSpec := { name := "equationCanonical", fn := fun _ => fun
  | [d] => { results := [.lit (.bool false)], args := [d] }
  | _ => none }
def EquationCanonicalWrongFalsely : Prop := equationCanonicalRow.holds Tryd.pinned (OpenSpec.ofChange equationCanonicalWrong)

/-- 'substationlaw26.EquationBrackets': WHATEVER THE INPUT: true; the input reads as it did. -/
def equationBracketsSpec : ChangeSpec := { name := "equationBrackets", fn := fun _ => fun
  | [d] => { results := [.lit (.bool true)], args := [d] }
  | _ => none }
def equationBracketsRow : OpenClaim := { program := "ytbbopomecanaoaadoor", sum := "d4c33d48ff0e3d4b784075c580f076b136310a76612bc1a4b5ae2296e476c1e5", func := "substation/substationlaw26.EquationBrackets", spec := "equationBrackets", unfollowed := true, recurses := true, named := ["strconv.ErrSyntax", "strconv.ErrRange", "internal/strconv.uint64pow10", "math/bits.deBruijn32tab", "math/bits.deBruijn64tab"], apart := false, laid := [("math/bits.deBruijn32tab", laid_math_bits_deBruijn32tab), ("math/bits.deBruijn64tab", laid_math_bits_deBruijn64tab), ("internal/strconv.uint64pow10", laid_internal_strconv_uint64pow10), ("strconv.ErrRange", laid_strconv_ErrRange), ("strconv.ErrSyntax", laid_strconv_ErrSyntax)] }
def EquationBracketsSaid : Prop := equationBracketsRow.holds Tryd.pinned (OpenSpec.ofChange equationBracketsSpec)

/-- ITS FALSE NEIGHBOUR: 'it returns false'. Refute it at one input. -/
def equationBracketsWrong : ChangeSpec := { name := "equationBrackets", fn := fun _ => fun
  | [d] => { results := [.lit (.bool false)], args := [d] }
  | _ => none }
def EquationBracketsWrongFalsely : Prop := equationBracketsRow.holds Tryd.pinned (OpenSpec.ofChange equationBracketsWrong)

/-- 'substationlaw26.EquationExamples': WHATEVER THE INPUT: true; the input reads as it did. -/
def equationExamplesSpec : ChangeSpec := { name := "equationExamples", fn := fun _ => fun
  | [] => { results := [.lit (.bool true)], args := [] }
  | _ => none }
def equationExamplesRow : OpenClaim := { program := "ytbbopomecanaoaadoor", sum := "d4c33d48ff0e3d4b784075c580f076b136310a76612bc1a4b5ae2296e476c1e5", func := "substation/substationlaw26.EquationExamples", spec := "equationExamples", unfollowed := true, recurses := true, named := ["strconv.ErrSyntax", "strconv.ErrRange", "internal/strconv.uint64pow10", "math/bits.deBruijn32tab", "math/bits.deBruijn64tab"], apart := false, laid := [("math/bits.deBruijn32tab", laid_math_bits_deBruijn32tab), ("math/bits.deBruijn64tab", laid_math_bits_deBruijn64tab), ("internal/strconv.uint64pow10", laid_internal_strconv_uint64pow10), ("strconv.ErrRange", laid_strconv_ErrRange), ("strconv.ErrSyntax", laid_strconv_ErrSyntax)] }
def EquationExamplesSaid : Prop := equationExamplesRow.holds Tryd.pinned (OpenSpec.ofChange equationExamplesSpec)

/-- ITS FALSE NEIGHBOUR: 'it returns false'. Refute it at one input. -/
def equationExamplesWrong : ChangeSpec := { name := "equationExamples", fn := fun _ => fun
  | [] => { results := [.lit (.bool false)], args := [] }
  | _ => none }
def EquationExamplesWrongFalsely : Prop := equationExamplesRow.holds Tryd.pinned (OpenSpec.ofChange equationExamplesWrong)

/-- 'substationlaw26.EquationChecks': WHATEVER THE INPUT: true; the input reads as it did. -/
def equationChecksSpec : ChangeSpec := { name := "equationChecks", fn := fun _ => fun
  | [d1, d2] => { results := [.lit (.bool true)], args := [d1, d2] }
  | _ => none }
def equationChecksRow : OpenClaim := { program := "ytbbopomecanaoaadoor", sum := "d4c33d48ff0e3d4b784075c580f076b136310a76612bc1a4b5ae2296e476c1e5", func := "substation/substationlaw26.EquationChecks", spec := "equationChecks", unfollowed := true, recurses := true, named := ["strconv.ErrSyntax", "strconv.ErrRange", "internal/strconv.uint64pow10", "math/bits.deBruijn32tab", "math/bits.deBruijn64tab"], loops := true, apart := false, laid := [("math/bits.deBruijn32tab", laid_math_bits_deBruijn32tab), ("math/bits.deBruijn64tab", laid_math_bits_deBruijn64tab), ("internal/strconv.uint64pow10", laid_internal_strconv_uint64pow10), ("strconv.ErrRange", laid_strconv_ErrRange), ("strconv.ErrSyntax", laid_strconv_ErrSyntax)] }
def EquationChecksSaid : Prop := equationChecksRow.holds Tryd.pinned (OpenSpec.ofChange equationChecksSpec)

/-- ITS FALSE NEIGHBOUR: 'it returns false'. Refute it at one input. -/
def equationChecksWrong : ChangeSpec := { name := "equationChecks", fn := fun _ => fun
  | [d1, d2] => { results := [.lit (.bool false)], args := [d1, d2] }
  | _ => none }
def EquationChecksWrongFalsely : Prop := equationChecksRow.holds Tryd.pinned (OpenSpec.ofChange equationChecksWrong)

/-- 'substationlaw26.EquationWeakening': WHATEVER THE INPUT: true; the input reads as it did. -/
def equationWeakeningSpec : ChangeSpec := { name := "equationWeakening", fn := fun _ => fun
  | [d1, d2, d3] => { results := [.lit (.bool true)], args := [d1, d2, d3] }
  | _ => none }
def equationWeakeningRow : OpenClaim := { program := "ytbbopomecanaoaadoor", sum := "d4c33d48ff0e3d4b784075c580f076b136310a76612bc1a4b5ae2296e476c1e5", func := "substation/substationlaw26.EquationWeakening", spec := "equationWeakening", unfollowed := true, recurses := true, named := ["strconv.ErrSyntax", "strconv.ErrRange", "internal/strconv.uint64pow10", "math/bits.deBruijn32tab", "math/bits.deBruijn64tab"], loops := true, apart := false, laid := [("math/bits.deBruijn32tab", laid_math_bits_deBruijn32tab), ("math/bits.deBruijn64tab", laid_math_bits_deBruijn64tab), ("internal/strconv.uint64pow10", laid_internal_strconv_uint64pow10), ("strconv.ErrRange", laid_strconv_ErrRange), ("strconv.ErrSyntax", laid_strconv_ErrSyntax)] }
def EquationWeakeningSaid : Prop := equationWeakeningRow.holds Tryd.pinned (OpenSpec.ofChange equationWeakeningSpec)

/-- ITS FALSE NEIGHBOUR: 'it returns false'. Refute it at one input. -/
def equationWeakeningWrong : ChangeSpec := { name := "equationWeakening", fn := fun _ => fun
  | [d1, d2, d3] => { results := [.lit (.bool false)], args := [d1, d2, d3] }
  | _ => none }
def EquationWeakeningWrongFalsely : Prop := equationWeakeningRow.holds Tryd.pinned (OpenSpec.ofChange equationWeakeningWrong)

/-- 'substationlaw27.BytecodeExamples': WHATEVER THE INPUT: true; the input reads as it did. -/
def bytecodeExamplesSpec : ChangeSpec := { name := "bytecodeExamples", fn := fun _ => fun
  | [] => { results := [.lit (.bool true)], args := [] }
  | _ => none }
def bytecodeExamplesRow : OpenClaim := { program := "ytbbopomecanaoaadoor", sum := "d4c33d48ff0e3d4b784075c580f076b136310a76612bc1a4b5ae2296e476c1e5", func := "substation/substationlaw27.BytecodeExamples", spec := "bytecodeExamples", unfollowed := true, recurses := true, named := ["substation/bytecode.shapes", "strconv.ErrSyntax", "strconv.ErrRange", "internal/strconv.uint64pow10", "math/bits.deBruijn32tab", "math/bits.deBruijn64tab"], apart := false, laid := [("math/bits.deBruijn32tab", laid_math_bits_deBruijn32tab), ("math/bits.deBruijn64tab", laid_math_bits_deBruijn64tab), ("internal/strconv.uint64pow10", laid_internal_strconv_uint64pow10), ("strconv.ErrRange", laid_strconv_ErrRange), ("strconv.ErrSyntax", laid_strconv_ErrSyntax), ("substation/bytecode.shapes", laid_substation_bytecode_shapes)] }
def BytecodeExamplesSaid : Prop := bytecodeExamplesRow.holds Tryd.pinned (OpenSpec.ofChange bytecodeExamplesSpec)

/-- ITS FALSE NEIGHBOUR: 'it returns false'. Refute it at one input. -/
def bytecodeExamplesWrong : ChangeSpec := { name := "bytecodeExamples", fn := fun _ => fun
  | [] => { results := [.lit (.bool false)], args := [] }
  | _ => none }
def BytecodeExamplesWrongFalsely : Prop := bytecodeExamplesRow.holds Tryd.pinned (OpenSpec.ofChange bytecodeExamplesWrong)

/-- 'substationlaw27.BytecodePrefix': WHATEVER THE INPUT: true; the input reads as it did. -/
def bytecodePrefixSpec : ChangeSpec := { name := "bytecodePrefix", fn := fun _ => fun
  | [d1, d2, d3] => { results := [.lit (.bool true)], args := [d1, d2, d3] }
  | _ => none }
def bytecodePrefixRow : OpenClaim := { program := "ytbbopomecanaoaadoor", sum := "d4c33d48ff0e3d4b784075c580f076b136310a76612bc1a4b5ae2296e476c1e5", func := "substation/substationlaw27.BytecodePrefix", spec := "bytecodePrefix", unfollowed := true, recurses := true, named := ["strconv.ErrSyntax", "strconv.ErrRange", "internal/strconv.uint64pow10", "math/bits.deBruijn32tab", "math/bits.deBruijn64tab", "substation/bytecode.shapes"], apart := false, laid := [("math/bits.deBruijn32tab", laid_math_bits_deBruijn32tab), ("math/bits.deBruijn64tab", laid_math_bits_deBruijn64tab), ("internal/strconv.uint64pow10", laid_internal_strconv_uint64pow10), ("strconv.ErrRange", laid_strconv_ErrRange), ("strconv.ErrSyntax", laid_strconv_ErrSyntax), ("substation/bytecode.shapes", laid_substation_bytecode_shapes)] }
def BytecodePrefixSaid : Prop := bytecodePrefixRow.holds Tryd.pinned (OpenSpec.ofChange bytecodePrefixSpec)

/-- ITS FALSE NEIGHBOUR: 'it returns false'. Refute it at one input. -/
def bytecodePrefixWrong : ChangeSpec := { name := "bytecodePrefix", fn := fun _ => fun
  | [d1, d2, d3] => { results := [.lit (.bool false)], args := [d1, d2, d3] }
  | _ => none }
def BytecodePrefixWrongFalsely : Prop := bytecodePrefixRow.holds Tryd.pinned (OpenSpec.ofChange bytecodePrefixWrong)

/- THE SECOND FORM. 'bulk': how many values and letters a reading holds, each counted each time it is reached (what is shared counts as often as it is met; a slice's spare places count too). A statement '..UptoSaid' is the law's where the arguments, and the package variables that the reading takes, are together of bulk at most 1048576: NARROWER than '..Said'. Prove '..Said' where nothing that the law and all that it calls make is longer than what came in: it says more and counts as full. Else prove '..UptoSaid'. A law counts once. -/
mutual
def uptoBulk {H : Type} : DataW H → Nat
  | .lit (.string bytes) => bytes.length + 1
  | .lit _ => 1
  | .nil => 1
  | .ptr d => uptoBulk d + 1
  | .slice elems spare => uptoBulkAll elems + uptoBulkAll spare + 1
  | .agg parts => uptoBulkAll parts + 1
  | .iface _ d => uptoBulk d + 1
  | .map entries => uptoBulkEntries entries + 1
  | .held _ => 1
def uptoBulkAll {H : Type} : List (DataW H) → Nat
  | [] => 0
  | d :: r => uptoBulk d + uptoBulkAll r
def uptoBulkEntries {H : Type} : List (Lit × DataW H) → Nat
  | [] => 0
  | x :: r => uptoBulkEntry x + uptoBulkEntries r
def uptoBulkEntry {H : Type} : Lit × DataW H → Nat
  | (.string bytes, d) => bytes.length + uptoBulk d + 1
  | (_, d) => uptoBulk d + 1
 end
def uptoSmall : (H : Type) → List (DataW H) → Bool := fun _ ds => decide (uptoBulkAll ds ≤ 1048576)
def OpenSpec.upto (s : _root_.Go.ChangeSpec) : _root_.Go.OpenSpec := { _root_.Go.OpenSpec.ofChange s with cond := some uptoSmall }

/-- 'substationlaw26.EquationFormats', WHERE WHAT IT READS IS OF BULK AT MOST 1048576: true; the input reads as it did. -/
def equationFormatsUptoRow : OpenClaim := { program := "ytbbopomecanaoaadoor", sum := "d4c33d48ff0e3d4b784075c580f076b136310a76612bc1a4b5ae2296e476c1e5", func := "substation/substationlaw26.EquationFormats", spec := "equationFormats", unfollowed := true, recurses := true, named := ["strconv.ErrSyntax", "strconv.ErrRange", "internal/strconv.uint64pow10", "math/bits.deBruijn32tab", "math/bits.deBruijn64tab"], loops := true, apart := false, laid := [("math/bits.deBruijn32tab", laid_math_bits_deBruijn32tab), ("math/bits.deBruijn64tab", laid_math_bits_deBruijn64tab), ("internal/strconv.uint64pow10", laid_internal_strconv_uint64pow10), ("strconv.ErrRange", laid_strconv_ErrRange), ("strconv.ErrSyntax", laid_strconv_ErrSyntax)], narrowed := true }
def EquationFormatsUptoSaid : Prop := equationFormatsUptoRow.holds Tryd.pinned (OpenSpec.upto equationFormatsSpec)

/-- 'substationlaw26.EquationRoundTrip', WHERE WHAT IT READS IS OF BULK AT MOST 1048576: true; the input reads as it did. -/
def equationRoundTripUptoRow : OpenClaim := { program := "ytbbopomecanaoaadoor", sum := "d4c33d48ff0e3d4b784075c580f076b136310a76612bc1a4b5ae2296e476c1e5", func := "substation/substationlaw26.EquationRoundTrip", spec := "equationRoundTrip", unfollowed := true, recurses := true, named := ["internal/strconv.uint64pow10", "math/bits.deBruijn32tab", "math/bits.deBruijn64tab", "strconv.ErrSyntax", "strconv.ErrRange"], loops := true, apart := false, laid := [("math/bits.deBruijn32tab", laid_math_bits_deBruijn32tab), ("math/bits.deBruijn64tab", laid_math_bits_deBruijn64tab), ("internal/strconv.uint64pow10", laid_internal_strconv_uint64pow10), ("strconv.ErrRange", laid_strconv_ErrRange), ("strconv.ErrSyntax", laid_strconv_ErrSyntax)], narrowed := true }
def EquationRoundTripUptoSaid : Prop := equationRoundTripUptoRow.holds Tryd.pinned (OpenSpec.upto equationRoundTripSpec)

/-- 'substationlaw26.EquationCanonical', WHERE WHAT IT READS IS OF BULK AT MOST 1048576: true; the input reads as it did. -/
def equationCanonicalUptoRow : OpenClaim := { program := "ytbbopomecanaoaadoor", sum := "d4c33d48ff0e3d4b784075c580f076b136310a76612bc1a4b5ae2296e476c1e5", func := "substation/substationlaw26.EquationCanonical", spec := "equationCanonical", unfollowed := true, recurses := true, named := ["strconv.ErrSyntax", "strconv.ErrRange", "internal/strconv.uint64pow10", "math/bits.deBruijn32tab", "math/bits.deBruijn64tab"], apart := false, laid := [("math/bits.deBruijn32tab", laid_math_bits_deBruijn32tab), ("math/bits.deBruijn64tab", laid_math_bits_deBruijn64tab), ("internal/strconv.uint64pow10", laid_internal_strconv_uint64pow10), ("strconv.ErrRange", laid_strconv_ErrRange), ("strconv.ErrSyntax", laid_strconv_ErrSyntax)], narrowed := true }
def EquationCanonicalUptoSaid : Prop := equationCanonicalUptoRow.holds Tryd.pinned (OpenSpec.upto equationCanonicalSpec)

/-- 'substationlaw26.EquationBrackets', WHERE WHAT IT READS IS OF BULK AT MOST 1048576: true; the input reads as it did. -/
def equationBracketsUptoRow : OpenClaim := { program := "ytbbopomecanaoaadoor", sum := "d4c33d48ff0e3d4b784075c580f076b136310a76612bc1a4b5ae2296e476c1e5", func := "substation/substationlaw26.EquationBrackets", spec := "equationBrackets", unfollowed := true, recurses := true, named := ["strconv.ErrSyntax", "strconv.ErrRange", "internal/strconv.uint64pow10", "math/bits.deBruijn32tab", "math/bits.deBruijn64tab"], apart := false, laid := [("math/bits.deBruijn32tab", laid_math_bits_deBruijn32tab), ("math/bits.deBruijn64tab", laid_math_bits_deBruijn64tab), ("internal/strconv.uint64pow10", laid_internal_strconv_uint64pow10), ("strconv.ErrRange", laid_strconv_ErrRange), ("strconv.ErrSyntax", laid_strconv_ErrSyntax)], narrowed := true }
def EquationBracketsUptoSaid : Prop := equationBracketsUptoRow.holds Tryd.pinned (OpenSpec.upto equationBracketsSpec)

/-- 'substationlaw26.EquationExamples', WHERE WHAT IT READS IS OF BULK AT MOST 1048576: true; the input reads as it did. -/
def equationExamplesUptoRow : OpenClaim := { program := "ytbbopomecanaoaadoor", sum := "d4c33d48ff0e3d4b784075c580f076b136310a76612bc1a4b5ae2296e476c1e5", func := "substation/substationlaw26.EquationExamples", spec := "equationExamples", unfollowed := true, recurses := true, named := ["strconv.ErrSyntax", "strconv.ErrRange", "internal/strconv.uint64pow10", "math/bits.deBruijn32tab", "math/bits.deBruijn64tab"], apart := false, laid := [("math/bits.deBruijn32tab", laid_math_bits_deBruijn32tab), ("math/bits.deBruijn64tab", laid_math_bits_deBruijn64tab), ("internal/strconv.uint64pow10", laid_internal_strconv_uint64pow10), ("strconv.ErrRange", laid_strconv_ErrRange), ("strconv.ErrSyntax", laid_strconv_ErrSyntax)], narrowed := true }
def EquationExamplesUptoSaid : Prop := equationExamplesUptoRow.holds Tryd.pinned (OpenSpec.upto equationExamplesSpec)

/-- 'substationlaw26.EquationChecks', WHERE WHAT IT READS IS OF BULK AT MOST 1048576: true; the input reads as it did. -/
def equationChecksUptoRow : OpenClaim := { program := "ytbbopomecanaoaadoor", sum := "d4c33d48ff0e3d4b784075c580f076b136310a76612bc1a4b5ae2296e476c1e5", func := "substation/substationlaw26.EquationChecks", spec := "equationChecks", unfollowed := true, recurses := true, named := ["strconv.ErrSyntax", "strconv.ErrRange", "internal/strconv.uint64pow10", "math/bits.deBruijn32tab", "math/bits.deBruijn64tab"], loops := true, apart := false, laid := [("math/bits.deBruijn32tab", laid_math_bits_deBruijn32tab), ("math/bits.deBruijn64tab", laid_math_bits_deBruijn64tab), ("internal/strconv.uint64pow10", laid_internal_strconv_uint64pow10), ("strconv.ErrRange", laid_strconv_ErrRange), ("strconv.ErrSyntax", laid_strconv_ErrSyntax)], narrowed := true }
def EquationChecksUptoSaid : Prop := equationChecksUptoRow.holds Tryd.pinned (OpenSpec.upto equationChecksSpec)

/-- 'substationlaw26.EquationWeakening', WHERE WHAT IT READS IS OF BULK AT MOST 1048576: true; the input reads as it did. -/
def equationWeakeningUptoRow : OpenClaim := { program := "ytbbopomecanaoaadoor", sum := "d4c33d48ff0e3d4b784075c580f076b136310a76612bc1a4b5ae2296e476c1e5", func := "substation/substationlaw26.EquationWeakening", spec := "equationWeakening", unfollowed := true, recurses := true, named := ["strconv.ErrSyntax", "strconv.ErrRange", "internal/strconv.uint64pow10", "math/bits.deBruijn32tab", "math/bits.deBruijn64tab"], loops := true, apart := false, laid := [("math/bits.deBruijn32tab", laid_math_bits_deBruijn32tab), ("math/bits.deBruijn64tab", laid_math_bits_deBruijn64tab), ("internal/strconv.uint64pow10", laid_internal_strconv_uint64pow10), ("strconv.ErrRange", laid_strconv_ErrRange), ("strconv.ErrSyntax", laid_strconv_ErrSyntax)], narrowed := true }
def EquationWeakeningUptoSaid : Prop := equationWeakeningUptoRow.holds Tryd.pinned (OpenSpec.upto equationWeakeningSpec)

/-- 'substationlaw27.BytecodeExamples', WHERE WHAT IT READS IS OF BULK AT MOST 1048576: true; the input reads as it did. -/
def bytecodeExamplesUptoRow : OpenClaim := { program := "ytbbopomecanaoaadoor", sum := "d4c33d48ff0e3d4b784075c580f076b136310a76612bc1a4b5ae2296e476c1e5", func := "substation/substationlaw27.BytecodeExamples", spec := "bytecodeExamples", unfollowed := true, recurses := true, named := ["substation/bytecode.shapes", "strconv.ErrSyntax", "strconv.ErrRange", "internal/strconv.uint64pow10", "math/bits.deBruijn32tab", "math/bits.deBruijn64tab"], apart := false, laid := [("math/bits.deBruijn32tab", laid_math_bits_deBruijn32tab), ("math/bits.deBruijn64tab", laid_math_bits_deBruijn64tab), ("internal/strconv.uint64pow10", laid_internal_strconv_uint64pow10), ("strconv.ErrRange", laid_strconv_ErrRange), ("strconv.ErrSyntax", laid_strconv_ErrSyntax), ("substation/bytecode.shapes", laid_substation_bytecode_shapes)], narrowed := true }
def BytecodeExamplesUptoSaid : Prop := bytecodeExamplesUptoRow.holds Tryd.pinned (OpenSpec.upto bytecodeExamplesSpec)

/-- 'substationlaw27.BytecodePrefix', WHERE WHAT IT READS IS OF BULK AT MOST 1048576: true; the input reads as it did. -/
def bytecodePrefixUptoRow : OpenClaim := { program := "ytbbopomecanaoaadoor", sum := "d4c33d48ff0e3d4b784075c580f076b136310a76612bc1a4b5ae2296e476c1e5", func := "substation/substationlaw27.BytecodePrefix", spec := "bytecodePrefix", unfollowed := true, recurses := true, named := ["strconv.ErrSyntax", "strconv.ErrRange", "internal/strconv.uint64pow10", "math/bits.deBruijn32tab", "math/bits.deBruijn64tab", "substation/bytecode.shapes"], apart := false, laid := [("math/bits.deBruijn32tab", laid_math_bits_deBruijn32tab), ("math/bits.deBruijn64tab", laid_math_bits_deBruijn64tab), ("internal/strconv.uint64pow10", laid_internal_strconv_uint64pow10), ("strconv.ErrRange", laid_strconv_ErrRange), ("strconv.ErrSyntax", laid_strconv_ErrSyntax), ("substation/bytecode.shapes", laid_substation_bytecode_shapes)], narrowed := true }
def BytecodePrefixUptoSaid : Prop := bytecodePrefixUptoRow.holds Tryd.pinned (OpenSpec.upto bytecodePrefixSpec)

end Rows
end Go.Proofs.YtbbopomecanaoaaDoor
