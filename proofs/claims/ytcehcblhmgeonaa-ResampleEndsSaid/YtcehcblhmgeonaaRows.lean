/-
  No cell of these rows narrows 'for every input' (looked for: loops, veiled, ifaces, maps, wideKeys, modest, calm, conditions, laid).
  DERIVED. THE GIVEN ROWS OF THIS SEAT. 7 by the template 'for every input the law returns true; each argument reads behind the call as it read before'; 0 by the template 'total and deterministic' (their statements: YtcehcblhmgeonaaTotals.lean).
  GIVEN WITH THE SEED: the statements are not yours to turn. If you find one false, say at which input.
  Laid BY PROGRAM, IN A SANDBOX (cutbox-rows.mjs): the forced cells as the released guide's own fill.sh prints them over the translation 55b7fc715954e8b5… (all of the seat's roots in one cut). By AI agents, Wed Nov 11 2026. No macro, syntax, notation, axiom, sorry.
-/
import Derived.Test.YtcehcblhmgeonaaChecked
import GoSem.Claim
import GoSem.ClaimJoined
import GoSem.ClaimMapViews
import Derived.JoinedTies
import Derived.KernelRfl
namespace Go.Proofs.Ytcehcblhmgeonaa
/- THE CELL 'sum', in the pinned program and in every row, IS THE sha256 OF THE DUMP (.gsa) THAT YtcehcblhmgeonaaProg.lean LOADS. Nothing in Lean hashes anything: it is a label: what it is worth is what the hold of that sum in a sandbox is worth. -/
noncomputable def Try.pinned : Pinned := { name := "ytcehcblhmgeonaa", sum := "55b7fc715954e8b5656ca81fb22710ef2a687245b4f4c36fd6d75dd5704e0562", checked := Try.checked }
namespace Rows
def none {H : Type} : Left H := { results := [], args := [] }

/-- 'substationlaw19.ResampleExact': WHATEVER THE INPUT: true; the input reads as it did. -/
def resampleExactSpec : ChangeSpec := { name := "resampleExact", fn := fun _ => fun
  | [d1, d2, d3] => { results := [.lit (.bool true)], args := [d1, d2, d3] }
  | _ => none }
def resampleExactRow : OpenClaim := { program := "ytcehcblhmgeonaa", sum := "55b7fc715954e8b5656ca81fb22710ef2a687245b4f4c36fd6d75dd5704e0562", func := "substation/substationlaw19.ResampleExact", spec := "resampleExact", apart := false }
def ResampleExactSaid : Prop := resampleExactRow.holds Try.pinned (OpenSpec.ofChange resampleExactSpec)

/-- ITS FALSE NEIGHBOUR: 'it returns false'. Refute it at one input. -/
def resampleExactWrong : ChangeSpec := { name := "resampleExact", fn := fun _ => fun
  | [d1, d2, d3] => { results := [.lit (.bool false)], args := [d1, d2, d3] }
  | _ => none }
def ResampleExactWrongFalsely : Prop := resampleExactRow.holds Try.pinned (OpenSpec.ofChange resampleExactWrong)

/-- 'substationlaw19.ResampleMirror': WHATEVER THE INPUT: true; the input reads as it did. -/
def resampleMirrorSpec : ChangeSpec := { name := "resampleMirror", fn := fun _ => fun
  | [d1, d2, d3] => { results := [.lit (.bool true)], args := [d1, d2, d3] }
  | _ => none }
def resampleMirrorRow : OpenClaim := { program := "ytcehcblhmgeonaa", sum := "55b7fc715954e8b5656ca81fb22710ef2a687245b4f4c36fd6d75dd5704e0562", func := "substation/substationlaw19.ResampleMirror", spec := "resampleMirror", apart := false }
def ResampleMirrorSaid : Prop := resampleMirrorRow.holds Try.pinned (OpenSpec.ofChange resampleMirrorSpec)

/-- ITS FALSE NEIGHBOUR: 'it returns false'. Refute it at one input. -/
def resampleMirrorWrong : ChangeSpec := { name := "resampleMirror", fn := fun _ => fun
  | [d1, d2, d3] => { results := [.lit (.bool false)], args := [d1, d2, d3] }
  | _ => none }
def ResampleMirrorWrongFalsely : Prop := resampleMirrorRow.holds Try.pinned (OpenSpec.ofChange resampleMirrorWrong)

/-- 'substationlaw19.ResampleLowest': WHATEVER THE INPUT: true; the input reads as it did. -/
def resampleLowestSpec : ChangeSpec := { name := "resampleLowest", fn := fun _ => fun
  | [d1, d2, d3] => { results := [.lit (.bool true)], args := [d1, d2, d3] }
  | _ => none }
def resampleLowestRow : OpenClaim := { program := "ytcehcblhmgeonaa", sum := "55b7fc715954e8b5656ca81fb22710ef2a687245b4f4c36fd6d75dd5704e0562", func := "substation/substationlaw19.ResampleLowest", spec := "resampleLowest", apart := false }
def ResampleLowestSaid : Prop := resampleLowestRow.holds Try.pinned (OpenSpec.ofChange resampleLowestSpec)

/-- ITS FALSE NEIGHBOUR: 'it returns false'. Refute it at one input. -/
def resampleLowestWrong : ChangeSpec := { name := "resampleLowest", fn := fun _ => fun
  | [d1, d2, d3] => { results := [.lit (.bool false)], args := [d1, d2, d3] }
  | _ => none }
def ResampleLowestWrongFalsely : Prop := resampleLowestRow.holds Try.pinned (OpenSpec.ofChange resampleLowestWrong)

/-- 'substationlaw19.ResampleNearest': WHATEVER THE INPUT: true; the input reads as it did. -/
def resampleNearestSpec : ChangeSpec := { name := "resampleNearest", fn := fun _ => fun
  | [d1, d2] => { results := [.lit (.bool true)], args := [d1, d2] }
  | _ => none }
def resampleNearestRow : OpenClaim := { program := "ytcehcblhmgeonaa", sum := "55b7fc715954e8b5656ca81fb22710ef2a687245b4f4c36fd6d75dd5704e0562", func := "substation/substationlaw19.ResampleNearest", spec := "resampleNearest", apart := false }
def ResampleNearestSaid : Prop := resampleNearestRow.holds Try.pinned (OpenSpec.ofChange resampleNearestSpec)

/-- ITS FALSE NEIGHBOUR: 'it returns false'. Refute it at one input. -/
def resampleNearestWrong : ChangeSpec := { name := "resampleNearest", fn := fun _ => fun
  | [d1, d2] => { results := [.lit (.bool false)], args := [d1, d2] }
  | _ => none }
def ResampleNearestWrongFalsely : Prop := resampleNearestRow.holds Try.pinned (OpenSpec.ofChange resampleNearestWrong)

/-- 'substationlaw19.ResampleInterpolates': WHATEVER THE INPUT: true; the input reads as it did. -/
def resampleInterpolatesSpec : ChangeSpec := { name := "resampleInterpolates", fn := fun _ => fun
  | [d1, d2, d3] => { results := [.lit (.bool true)], args := [d1, d2, d3] }
  | _ => none }
def resampleInterpolatesRow : OpenClaim := { program := "ytcehcblhmgeonaa", sum := "55b7fc715954e8b5656ca81fb22710ef2a687245b4f4c36fd6d75dd5704e0562", func := "substation/substationlaw19.ResampleInterpolates", spec := "resampleInterpolates", apart := false }
def ResampleInterpolatesSaid : Prop := resampleInterpolatesRow.holds Try.pinned (OpenSpec.ofChange resampleInterpolatesSpec)

/-- ITS FALSE NEIGHBOUR: 'it returns false'. Refute it at one input. -/
def resampleInterpolatesWrong : ChangeSpec := { name := "resampleInterpolates", fn := fun _ => fun
  | [d1, d2, d3] => { results := [.lit (.bool false)], args := [d1, d2, d3] }
  | _ => none }
def ResampleInterpolatesWrongFalsely : Prop := resampleInterpolatesRow.holds Try.pinned (OpenSpec.ofChange resampleInterpolatesWrong)

/-- 'substationlaw19.ResampleShifts': WHATEVER THE INPUT: true; the input reads as it did. -/
def resampleShiftsSpec : ChangeSpec := { name := "resampleShifts", fn := fun _ => fun
  | [d1, d2, d3] => { results := [.lit (.bool true)], args := [d1, d2, d3] }
  | _ => none }
def resampleShiftsRow : OpenClaim := { program := "ytcehcblhmgeonaa", sum := "55b7fc715954e8b5656ca81fb22710ef2a687245b4f4c36fd6d75dd5704e0562", func := "substation/substationlaw19.ResampleShifts", spec := "resampleShifts", apart := false }
def ResampleShiftsSaid : Prop := resampleShiftsRow.holds Try.pinned (OpenSpec.ofChange resampleShiftsSpec)

/-- ITS FALSE NEIGHBOUR: 'it returns false'. Refute it at one input. -/
def resampleShiftsWrong : ChangeSpec := { name := "resampleShifts", fn := fun _ => fun
  | [d1, d2, d3] => { results := [.lit (.bool false)], args := [d1, d2, d3] }
  | _ => none }
def ResampleShiftsWrongFalsely : Prop := resampleShiftsRow.holds Try.pinned (OpenSpec.ofChange resampleShiftsWrong)

/-- 'substationlaw19.ResampleEnds': WHATEVER THE INPUT: true; the input reads as it did. -/
def resampleEndsSpec : ChangeSpec := { name := "resampleEnds", fn := fun _ => fun
  | [d1, d2, d3] => { results := [.lit (.bool true)], args := [d1, d2, d3] }
  | _ => none }
def resampleEndsRow : OpenClaim := { program := "ytcehcblhmgeonaa", sum := "55b7fc715954e8b5656ca81fb22710ef2a687245b4f4c36fd6d75dd5704e0562", func := "substation/substationlaw19.ResampleEnds", spec := "resampleEnds", apart := false }
def ResampleEndsSaid : Prop := resampleEndsRow.holds Try.pinned (OpenSpec.ofChange resampleEndsSpec)

/-- ITS FALSE NEIGHBOUR: 'it returns false'. Refute it at one input. -/
def resampleEndsWrong : ChangeSpec := { name := "resampleEnds", fn := fun _ => fun
  | [d1, d2, d3] => { results := [.lit (.bool false)], args := [d1, d2, d3] }
  | _ => none }
def ResampleEndsWrongFalsely : Prop := resampleEndsRow.holds Try.pinned (OpenSpec.ofChange resampleEndsWrong)

/- THE SECOND FORM. 'bulk': how many values and letters a reading holds, each counted each time it is reached (what is shared counts as often as it is met; a slice's spare places count too). A statement '..UptoSaid' is the law's where the arguments, and the package variables that the reading takes, are together of bulk at most 1048576: NARROWER than '..Said'. Prove '..Said' where nothing that the law and all that it calls make is longer than what came in: it says more and counts as full. Else prove '..UptoSaid'. A law counts once. -/
mutual
def uptoBulk {H : Type} : DataW H → Nat
  | .lit (.string bytes) => bytes.length + 1
  | .lit _ => 1
  | .nil => 1
  | .ptr d => uptoBulk d + 1
  | .slice elems spare => uptoBulkAll elems + uptoBulkAll spare + 1
  | .agg parts => uptoBulkAll parts + 1
  | .iface _ d => uptoBulk d + 1
  | .map entries => uptoBulkEntries entries + 1
  | .held _ => 1
def uptoBulkAll {H : Type} : List (DataW H) → Nat
  | [] => 0
  | d :: r => uptoBulk d + uptoBulkAll r
def uptoBulkEntries {H : Type} : List (Lit × DataW H) → Nat
  | [] => 0
  | x :: r => uptoBulkEntry x + uptoBulkEntries r
def uptoBulkEntry {H : Type} : Lit × DataW H → Nat
  | (.string bytes, d) => bytes.length + uptoBulk d + 1
  | (_, d) => uptoBulk d + 1
 end
def uptoSmall : (H : Type) → List (DataW H) → Bool := fun _ ds => decide (uptoBulkAll ds ≤ 1048576)
def OpenSpec.upto (s : _root_.Go.ChangeSpec) : _root_.Go.OpenSpec := { _root_.Go.OpenSpec.ofChange s with cond := some uptoSmall }

/-- 'substationlaw19.ResampleExact', WHERE WHAT IT READS IS OF BULK AT MOST 1048576: true; the input reads as it did. -/
def resampleExactUptoRow : OpenClaim := { program := "ytcehcblhmgeonaa", sum := "55b7fc715954e8b5656ca81fb22710ef2a687245b4f4c36fd6d75dd5704e0562", func := "substation/substationlaw19.ResampleExact", spec := "resampleExact", apart := false, narrowed := true }
def ResampleExactUptoSaid : Prop := resampleExactUptoRow.holds Try.pinned (OpenSpec.upto resampleExactSpec)

/-- 'substationlaw19.ResampleMirror', WHERE WHAT IT READS IS OF BULK AT MOST 1048576: true; the input reads as it did. -/
def resampleMirrorUptoRow : OpenClaim := { program := "ytcehcblhmgeonaa", sum := "55b7fc715954e8b5656ca81fb22710ef2a687245b4f4c36fd6d75dd5704e0562", func := "substation/substationlaw19.ResampleMirror", spec := "resampleMirror", apart := false, narrowed := true }
def ResampleMirrorUptoSaid : Prop := resampleMirrorUptoRow.holds Try.pinned (OpenSpec.upto resampleMirrorSpec)

/-- 'substationlaw19.ResampleLowest', WHERE WHAT IT READS IS OF BULK AT MOST 1048576: true; the input reads as it did. -/
def resampleLowestUptoRow : OpenClaim := { program := "ytcehcblhmgeonaa", sum := "55b7fc715954e8b5656ca81fb22710ef2a687245b4f4c36fd6d75dd5704e0562", func := "substation/substationlaw19.ResampleLowest", spec := "resampleLowest", apart := false, narrowed := true }
def ResampleLowestUptoSaid : Prop := resampleLowestUptoRow.holds Try.pinned (OpenSpec.upto resampleLowestSpec)

/-- 'substationlaw19.ResampleNearest', WHERE WHAT IT READS IS OF BULK AT MOST 1048576: true; the input reads as it did. -/
def resampleNearestUptoRow : OpenClaim := { program := "ytcehcblhmgeonaa", sum := "55b7fc715954e8b5656ca81fb22710ef2a687245b4f4c36fd6d75dd5704e0562", func := "substation/substationlaw19.ResampleNearest", spec := "resampleNearest", apart := false, narrowed := true }
def ResampleNearestUptoSaid : Prop := resampleNearestUptoRow.holds Try.pinned (OpenSpec.upto resampleNearestSpec)

/-- 'substationlaw19.ResampleInterpolates', WHERE WHAT IT READS IS OF BULK AT MOST 1048576: true; the input reads as it did. -/
def resampleInterpolatesUptoRow : OpenClaim := { program := "ytcehcblhmgeonaa", sum := "55b7fc715954e8b5656ca81fb22710ef2a687245b4f4c36fd6d75dd5704e0562", func := "substation/substationlaw19.ResampleInterpolates", spec := "resampleInterpolates", apart := false, narrowed := true }
def ResampleInterpolatesUptoSaid : Prop := resampleInterpolatesUptoRow.holds Try.pinned (OpenSpec.upto resampleInterpolatesSpec)

/-- 'substationlaw19.ResampleShifts', WHERE WHAT IT READS IS OF BULK AT MOST 1048576: true; the input reads as it did. -/
def resampleShiftsUptoRow : OpenClaim := { program := "ytcehcblhmgeonaa", sum := "55b7fc715954e8b5656ca81fb22710ef2a687245b4f4c36fd6d75dd5704e0562", func := "substation/substationlaw19.ResampleShifts", spec := "resampleShifts", apart := false, narrowed := true }
def ResampleShiftsUptoSaid : Prop := resampleShiftsUptoRow.holds Try.pinned (OpenSpec.upto resampleShiftsSpec)

/-- 'substationlaw19.ResampleEnds', WHERE WHAT IT READS IS OF BULK AT MOST 1048576: true; the input reads as it did. -/
def resampleEndsUptoRow : OpenClaim := { program := "ytcehcblhmgeonaa", sum := "55b7fc715954e8b5656ca81fb22710ef2a687245b4f4c36fd6d75dd5704e0562", func := "substation/substationlaw19.ResampleEnds", spec := "resampleEnds", apart := false, narrowed := true }
def ResampleEndsUptoSaid : Prop := resampleEndsUptoRow.holds Try.pinned (OpenSpec.upto resampleEndsSpec)

end Rows
end Go.Proofs.Ytcehcblhmgeonaa
