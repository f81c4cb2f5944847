/-
  NARROWER THAN 'FOR EVERY INPUT', by the rows' own cells (each row's printed sentence says how): TeleprotectionExamples: laid · TeleprotectionSteps: laid · TeleprotectionInternal: laid · TeleprotectionExternal: laid · TeleprotectionReverse: laid · TeleprotectionAlone: laid.
  DERIVED. THE GIVEN ROWS OF THIS SEAT. 6 by the template 'for every input the law returns true; each argument reads behind the call as it read before'; 0 by the template 'total and deterministic' (their statements: YthnbokmnplipkaaDoorTotals.lean).
  GIVEN WITH THE SEED: the statements are not yours to turn. If you find one false, say at which input.
  Laid BY PROGRAM, IN A SANDBOX (cutbox-rows.mjs): the forced cells as the released guide's own fill.sh prints them over the translation 779d398606ed052a… (all of the seat's roots in one cut). By AI agents, Wed Nov 11 2026. No macro, syntax, notation, axiom, sorry.
-/
import Derived.Test.YthnbokmnplipkaaDoorChecked
import GoSem.Claim
import GoSem.ClaimJoined
import GoSem.ClaimMapViews
import Derived.JoinedTies
import Derived.KernelRfl
namespace Go.Proofs.YthnbokmnplipkaaDoor
/- THE CELL 'sum', in the pinned program and in every row, IS THE sha256 OF THE DUMP (.gsa) THAT YthnbokmnplipkaaDoorProg.lean LOADS. Nothing in Lean hashes anything: it is a label: what it is worth is what the hold of that sum in a sandbox is worth. -/
noncomputable def Tryd.pinned : Pinned := { name := "ythnbokmnplipkaadoor", sum := "779d398606ed052ae172e7b0e675cc5ea14c3035775966af031f9d0cef9c6d75", checked := Tryd.checked }
namespace Rows
def none {H : Type} : Left H := { results := [], args := [] }

/- WHAT THE LISTED PACKAGE-LEVEL VARIABLES READ AS WHEN THE CALL BEGINS. Each datum BY PROGRAM (the guide's laid-datum.mjs) off the statement by which the dump's own 'gosem.cut.vars' lays the variable. In a bare row this is a premise. The card (YthnbokmnplipkaaDoorCards.lean) ties it to the program's text. -/
def laid_substation_teleprotection_schemes {H : Type} : DataW H := .agg [.agg [.lit (.int .i64 0), .lit (.int .i64 0), .lit (.int .i64 0)], .agg [.lit (.int .i64 0), .lit (.int .i64 0), .lit (.int .i64 50)], .agg [.lit (.int .i64 0), .lit (.int .i64 0), .lit (.int .i64 50)], .agg [.lit (.int .i64 1), .lit (.int .i64 50), .lit (.int .i64 50)]]

/-- 'substationlaw31.TeleprotectionExamples': WHATEVER THE INPUT: true; the input reads as it did. -/
def teleprotectionExamplesSpec : ChangeSpec := { name := "teleprotectionExamples", fn := fun _ => fun
  | [] => { results := [.lit (.bool true)], args := [] }
  | _ => none }
def teleprotectionExamplesRow : OpenClaim := { program := "ythnbokmnplipkaadoor", sum := "779d398606ed052ae172e7b0e675cc5ea14c3035775966af031f9d0cef9c6d75", func := "substation/substationlaw31.TeleprotectionExamples", spec := "teleprotectionExamples", named := ["substation/teleprotection.schemes"], apart := false, laid := [("substation/teleprotection.schemes", laid_substation_teleprotection_schemes)] }
def TeleprotectionExamplesSaid : Prop := teleprotectionExamplesRow.holds Tryd.pinned (OpenSpec.ofChange teleprotectionExamplesSpec)

/-- ITS FALSE NEIGHBOUR: 'it returns false'. Refute it at one input. -/
def teleprotectionExamplesWrong : ChangeSpec := { name := "teleprotectionExamples", fn := fun _ => fun
  | [] => { results := [.lit (.bool false)], args := [] }
  | _ => none }
def TeleprotectionExamplesWrongFalsely : Prop := teleprotectionExamplesRow.holds Tryd.pinned (OpenSpec.ofChange teleprotectionExamplesWrong)

/-- 'substationlaw31.TeleprotectionSteps': WHATEVER THE INPUT: true; the input reads as it did. -/
def teleprotectionStepsSpec : ChangeSpec := { name := "teleprotectionSteps", fn := fun _ => fun
  | [d1, d2, d3] => { results := [.lit (.bool true)], args := [d1, d2, d3] }
  | _ => none }
def teleprotectionStepsRow : OpenClaim := { program := "ythnbokmnplipkaadoor", sum := "779d398606ed052ae172e7b0e675cc5ea14c3035775966af031f9d0cef9c6d75", func := "substation/substationlaw31.TeleprotectionSteps", spec := "teleprotectionSteps", named := ["substation/teleprotection.schemes"], apart := false, laid := [("substation/teleprotection.schemes", laid_substation_teleprotection_schemes)] }
def TeleprotectionStepsSaid : Prop := teleprotectionStepsRow.holds Tryd.pinned (OpenSpec.ofChange teleprotectionStepsSpec)

/-- ITS FALSE NEIGHBOUR: 'it returns false'. Refute it at one input. -/
def teleprotectionStepsWrong : ChangeSpec := { name := "teleprotectionSteps", fn := fun _ => fun
  | [d1, d2, d3] => { results := [.lit (.bool false)], args := [d1, d2, d3] }
  | _ => none }
def TeleprotectionStepsWrongFalsely : Prop := teleprotectionStepsRow.holds Tryd.pinned (OpenSpec.ofChange teleprotectionStepsWrong)

/-- 'substationlaw31.TeleprotectionInternal': WHATEVER THE INPUT: true; the input reads as it did. -/
def teleprotectionInternalSpec : ChangeSpec := { name := "teleprotectionInternal", fn := fun _ => fun
  | [d1, d2, d3] => { results := [.lit (.bool true)], args := [d1, d2, d3] }
  | _ => none }
def teleprotectionInternalRow : OpenClaim := { program := "ythnbokmnplipkaadoor", sum := "779d398606ed052ae172e7b0e675cc5ea14c3035775966af031f9d0cef9c6d75", func := "substation/substationlaw31.TeleprotectionInternal", spec := "teleprotectionInternal", named := ["substation/teleprotection.schemes"], apart := false, laid := [("substation/teleprotection.schemes", laid_substation_teleprotection_schemes)] }
def TeleprotectionInternalSaid : Prop := teleprotectionInternalRow.holds Tryd.pinned (OpenSpec.ofChange teleprotectionInternalSpec)

/-- ITS FALSE NEIGHBOUR: 'it returns false'. Refute it at one input. -/
def teleprotectionInternalWrong : ChangeSpec := { name := "teleprotectionInternal", fn := fun _ => fun
  | [d1, d2, d3] => { results := [.lit (.bool false)], args := [d1, d2, d3] }
  | _ => none }
def TeleprotectionInternalWrongFalsely : Prop := teleprotectionInternalRow.holds Tryd.pinned (OpenSpec.ofChange teleprotectionInternalWrong)

/-- 'substationlaw31.TeleprotectionExternal': WHATEVER THE INPUT: true; the input reads as it did. -/
def teleprotectionExternalSpec : ChangeSpec := { name := "teleprotectionExternal", fn := fun _ => fun
  | [d1, d2, d3] => { results := [.lit (.bool true)], args := [d1, d2, d3] }
  | _ => none }
def teleprotectionExternalRow : OpenClaim := { program := "ythnbokmnplipkaadoor", sum := "779d398606ed052ae172e7b0e675cc5ea14c3035775966af031f9d0cef9c6d75", func := "substation/substationlaw31.TeleprotectionExternal", spec := "teleprotectionExternal", named := ["substation/teleprotection.schemes"], apart := false, laid := [("substation/teleprotection.schemes", laid_substation_teleprotection_schemes)] }
def TeleprotectionExternalSaid : Prop := teleprotectionExternalRow.holds Tryd.pinned (OpenSpec.ofChange teleprotectionExternalSpec)

/-- ITS FALSE NEIGHBOUR: 'it returns false'. Refute it at one input. -/
def teleprotectionExternalWrong : ChangeSpec := { name := "teleprotectionExternal", fn := fun _ => fun
  | [d1, d2, d3] => { results := [.lit (.bool false)], args := [d1, d2, d3] }
  | _ => none }
def TeleprotectionExternalWrongFalsely : Prop := teleprotectionExternalRow.holds Tryd.pinned (OpenSpec.ofChange teleprotectionExternalWrong)

/-- 'substationlaw31.TeleprotectionReverse': WHATEVER THE INPUT: true; the input reads as it did. -/
def teleprotectionReverseSpec : ChangeSpec := { name := "teleprotectionReverse", fn := fun _ => fun
  | [d] => { results := [.lit (.bool true)], args := [d] }
  | _ => none }
def teleprotectionReverseRow : OpenClaim := { program := "ythnbokmnplipkaadoor", sum := "779d398606ed052ae172e7b0e675cc5ea14c3035775966af031f9d0cef9c6d75", func := "substation/substationlaw31.TeleprotectionReverse", spec := "teleprotectionReverse", named := ["substation/teleprotection.schemes"], apart := false, laid := [("substation/teleprotection.schemes", laid_substation_teleprotection_schemes)] }
def TeleprotectionReverseSaid : Prop := teleprotectionReverseRow.holds Tryd.pinned (OpenSpec.ofChange teleprotectionReverseSpec)

/-- ITS FALSE NEIGHBOUR: 'it returns false'. Refute it at one input. -/
def teleprotectionReverseWrong : ChangeSpec := { name := "teleprotectionReverse", fn := fun _ => fun
  | [d] => { results := [.lit (.bool false)], args := [d] }
  | _ => none }
def TeleprotectionReverseWrongFalsely : Prop := teleprotectionReverseRow.holds Tryd.pinned (OpenSpec.ofChange teleprotectionReverseWrong)

/-- 'substationlaw31.TeleprotectionAlone': WHATEVER THE INPUT: true; the input reads as it did. -/
def teleprotectionAloneSpec : ChangeSpec := { name := "teleprotectionAlone", fn := fun _ => fun
  | [d1, d2] => { results := [.lit (.bool true)], args := [d1, d2] }
  | _ => none }
def teleprotectionAloneRow : OpenClaim := { program := "ythnbokmnplipkaadoor", sum := "779d398606ed052ae172e7b0e675cc5ea14c3035775966af031f9d0cef9c6d75", func := "substation/substationlaw31.TeleprotectionAlone", spec := "teleprotectionAlone", named := ["substation/teleprotection.schemes"], apart := false, laid := [("substation/teleprotection.schemes", laid_substation_teleprotection_schemes)] }
def TeleprotectionAloneSaid : Prop := teleprotectionAloneRow.holds Tryd.pinned (OpenSpec.ofChange teleprotectionAloneSpec)

/-- ITS FALSE NEIGHBOUR: 'it returns false'. Refute it at one input. -/
def teleprotectionAloneWrong : ChangeSpec := { name := "teleprotectionAlone", fn := fun _ => fun
  | [d1, d2] => { results := [.lit (.bool false)], args := [d1, d2] }
  | _ => none }
def TeleprotectionAloneWrongFalsely : Prop := teleprotectionAloneRow.holds Tryd.pinned (OpenSpec.ofChange teleprotectionAloneWrong)

/- THE SECOND FORM. 'bulk': how many values and letters a reading holds, each counted each time it is reached (what is shared counts as often as it is met; a slice's spare places count too). A statement '..UptoSaid' is the law's where the arguments, and the package variables that the reading takes, are together of bulk at most 1048576: NARROWER than '..Said'. Prove '..Said' where nothing that the law and all that it calls make is longer than what came in: it says more and counts as full. Else prove '..UptoSaid'. A law counts once. -/
mutual
def uptoBulk {H : Type} : DataW H → Nat
  | .lit (.string bytes) => bytes.length + 1
  | .lit _ => 1
  | .nil => 1
  | .ptr d => uptoBulk d + 1
  | .slice elems spare => uptoBulkAll elems + uptoBulkAll spare + 1
  | .agg parts => uptoBulkAll parts + 1
  | .iface _ d => uptoBulk d + 1
  | .map entries => uptoBulkEntries entries + 1
  | .held _ => 1
def uptoBulkAll {H : Type} : List (DataW H) → Nat
  | [] => 0
  | d :: r => uptoBulk d + uptoBulkAll r
def uptoBulkEntries {H : Type} : List (Lit × DataW H) → Nat
  | [] => 0
  | x :: r => uptoBulkEntry x + uptoBulkEntries r
def uptoBulkEntry {H : Type} : Lit × DataW H → Nat
  | (.string bytes, d) => bytes.length + uptoBulk d + 1
  | (_, d) => uptoBulk d + 1
 end
def uptoSmall : (H : Type) → List (DataW H) → Bool := fun _ ds => decide (uptoBulkAll ds ≤ 1048576)
def OpenSpec.upto (s : _root_.Go.ChangeSpec) : _root_.Go.OpenSpec := { _root_.Go.OpenSpec.ofChange s with cond := some uptoSmall }

/-- 'substationlaw31.TeleprotectionExamples', WHERE WHAT IT READS IS OF BULK AT MOST 1048576: true; the input reads as it did. -/
def teleprotectionExamplesUptoRow : OpenClaim := { program := "ythnbokmnplipkaadoor", sum := "779d398606ed052ae172e7b0e675cc5ea14c3035775966af031f9d0cef9c6d75", func := "substation/substationlaw31.TeleprotectionExamples", spec := "teleprotectionExamples", named := ["substation/teleprotection.schemes"], apart := false, laid := [("substation/teleprotection.schemes", laid_substation_teleprotection_schemes)], narrowed := true }
def TeleprotectionExamplesUptoSaid : Prop := teleprotectionExamplesUptoRow.holds Tryd.pinned (OpenSpec.upto teleprotectionExamplesSpec)

/-- 'substationlaw31.TeleprotectionSteps', WHERE WHAT IT READS IS OF BULK AT MOST 1048576: true; the input reads as it did. -/
def teleprotectionStepsUptoRow : OpenClaim := { program := "ythnbokmnplipkaadoor", sum := "779d398606ed052ae172e7b0e675cc5ea14c3035775966af031f9d0cef9c6d75", func := "substation/substationlaw31.TeleprotectionSteps", spec := "teleprotectionSteps", named := ["substation/teleprotection.schemes"], apart := false, laid := [("substation/teleprotection.schemes", laid_substation_teleprotection_schemes)], narrowed := true }
def TeleprotectionStepsUptoSaid : Prop := teleprotectionStepsUptoRow.holds Tryd.pinned (OpenSpec.upto teleprotectionStepsSpec)

/-- 'substationlaw31.TeleprotectionInternal', WHERE WHAT IT READS IS OF BULK AT MOST 1048576: true; the input reads as it did. -/
def teleprotectionInternalUptoRow : OpenClaim := { program := "ythnbokmnplipkaadoor", sum := "779d398606ed052ae172e7b0e675cc5ea14c3035775966af031f9d0cef9c6d75", func := "substation/substationlaw31.TeleprotectionInternal", spec := "teleprotectionInternal", named := ["substation/teleprotection.schemes"], apart := false, laid := [("substation/teleprotection.schemes", laid_substation_teleprotection_schemes)], narrowed := true }
def TeleprotectionInternalUptoSaid : Prop := teleprotectionInternalUptoRow.holds Tryd.pinned (OpenSpec.upto teleprotectionInternalSpec)

/-- 'substationlaw31.TeleprotectionExternal', WHERE WHAT IT READS IS OF BULK AT MOST 1048576: true; the input reads as it did. -/
def teleprotectionExternalUptoRow : OpenClaim := { program := "ythnbokmnplipkaadoor", sum := "779d398606ed052ae172e7b0e675cc5ea14c3035775966af031f9d0cef9c6d75", func := "substation/substationlaw31.TeleprotectionExternal", spec := "teleprotectionExternal", named := ["substation/teleprotection.schemes"], apart := false, laid := [("substation/teleprotection.schemes", laid_substation_teleprotection_schemes)], narrowed := true }
def TeleprotectionExternalUptoSaid : Prop := teleprotectionExternalUptoRow.holds Tryd.pinned (OpenSpec.upto teleprotectionExternalSpec)

/-- 'substationlaw31.TeleprotectionReverse', WHERE WHAT IT READS IS OF BULK AT MOST 1048576: true; the input reads as it did. -/
def teleprotectionReverseUptoRow : OpenClaim := { program := "ythnbokmnplipkaadoor", sum := "779d398606ed052ae172e7b0e675cc5ea14c3035775966af031f9d0cef9c6d75", func := "substation/substationlaw31.TeleprotectionReverse", spec := "teleprotectionReverse", named := ["substation/teleprotection.schemes"], apart := false, laid := [("substation/teleprotection.schemes", laid_substation_teleprotection_schemes)], narrowed := true }
def TeleprotectionReverseUptoSaid : Prop := teleprotectionReverseUptoRow.holds Tryd.pinned (OpenSpec.upto teleprotectionReverseSpec)

/-- 'substationlaw31.TeleprotectionAlone', WHERE WHAT IT READS IS OF BULK AT MOST 1048576: true; the input reads as it did. -/
def teleprotectionAloneUptoRow : OpenClaim := { program := "ythnbokmnplipkaadoor", sum := "779d398606ed052ae172e7b0e675cc5ea14c3035775966af031f9d0cef9c6d75", func := "substation/substationlaw31.TeleprotectionAlone", spec := "teleprotectionAlone", named := ["substation/teleprotection.schemes"], apart := false, laid := [("substation/teleprotection.schemes", laid_substation_teleprotection_schemes)], narrowed := true }
def TeleprotectionAloneUptoSaid : Prop := teleprotectionAloneUptoRow.holds Tryd.pinned (OpenSpec.upto teleprotectionAloneSpec)

end Rows
end Go.Proofs.YthnbokmnplipkaaDoor
