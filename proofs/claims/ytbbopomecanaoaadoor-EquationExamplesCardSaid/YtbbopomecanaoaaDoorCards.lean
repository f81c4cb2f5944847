/-
  DERIVED. GIVEN WITH THE SEED: THE CARDS: each row of YtbbopomecanaoaaDoorRows.lean that lists a variable, with what it lists TIED to the program's text (the seventh form; the later family's looks); each row that meets fmt, with fmt's text TOLD by the authors' own Lean function (tested against real Go, not proved from fmt's source: count such statements apart). THE CARD IS WHAT COUNTS. Prove the row's statement (the work); the ties are given (YtbbopomecanaoaaDoorTie.lean); close each card by the builder's one call (the guide's Derived/Test/ToyasCard.lean, 'card_holds'). Laid BY PROGRAM, IN A SANDBOX (cutbox-door.mjs). By AI agents, Wed Nov 11 2026. No macro, syntax, notation, axiom, sorry.
-/
import Derived.Test.YtbbopomecanaoaaDoorRows
import GoSem.ClaimSeven
namespace Go.Proofs.YtbbopomecanaoaaDoor
namespace Rows

/-- THE TIED CARD OF 'substationlaw26.EquationFormats'. -/
def equationFormatsCard : Claim7 := { stood := { row := equationFormatsRow, standIns := [], harness := (true, "8f52f9d963dcbfd16d33ec5937411e20d2632b77f233817995a4213d3c07814a"), looks := true }, kinds := [], alts := [], laidByText := true, laidKinds := [.data, .data, .data, .sentinel, .sentinel], laidTests := true, laidLooks := .later }
def EquationFormatsCardSaid : Prop := Claim7.holds Tryd.pinned (.plain (OpenSpec.ofChange equationFormatsSpec)) equationFormatsCard

/-- THE TIED CARD OF 'substationlaw26.EquationRoundTrip'. -/
def equationRoundTripCard : Claim7 := { stood := { row := equationRoundTripRow, standIns := [], harness := (true, "8f52f9d963dcbfd16d33ec5937411e20d2632b77f233817995a4213d3c07814a"), looks := true }, kinds := [], alts := [], laidByText := true, laidKinds := [.data, .data, .data, .sentinel, .sentinel], laidTests := true, laidLooks := .later }
def EquationRoundTripCardSaid : Prop := Claim7.holds Tryd.pinned (.plain (OpenSpec.ofChange equationRoundTripSpec)) equationRoundTripCard

/-- THE TIED CARD OF 'substationlaw26.EquationCanonical'. -/
def equationCanonicalCard : Claim7 := { stood := { row := equationCanonicalRow, standIns := [], harness := (true, "8f52f9d963dcbfd16d33ec5937411e20d2632b77f233817995a4213d3c07814a"), looks := true }, kinds := [], alts := [], laidByText := true, laidKinds := [.data, .data, .data, .sentinel, .sentinel], laidTests := true, laidLooks := .later }
def EquationCanonicalCardSaid : Prop := Claim7.holds Tryd.pinned (.plain (OpenSpec.ofChange equationCanonicalSpec)) equationCanonicalCard

/-- THE TIED CARD OF 'substationlaw26.EquationBrackets'. -/
def equationBracketsCard : Claim7 := { stood := { row := equationBracketsRow, standIns := [], harness := (true, "8f52f9d963dcbfd16d33ec5937411e20d2632b77f233817995a4213d3c07814a"), looks := true }, kinds := [], alts := [], laidByText := true, laidKinds := [.data, .data, .data, .sentinel, .sentinel], laidTests := true, laidLooks := .later }
def EquationBracketsCardSaid : Prop := Claim7.holds Tryd.pinned (.plain (OpenSpec.ofChange equationBracketsSpec)) equationBracketsCard

/-- THE TIED CARD OF 'substationlaw26.EquationExamples'. -/
def equationExamplesCard : Claim7 := { stood := { row := equationExamplesRow, standIns := [], harness := (true, "8f52f9d963dcbfd16d33ec5937411e20d2632b77f233817995a4213d3c07814a"), looks := true }, kinds := [], alts := [], laidByText := true, laidKinds := [.data, .data, .data, .sentinel, .sentinel], laidTests := true, laidLooks := .later }
def EquationExamplesCardSaid : Prop := Claim7.holds Tryd.pinned (.plain (OpenSpec.ofChange equationExamplesSpec)) equationExamplesCard

/-- THE TIED CARD OF 'substationlaw26.EquationChecks'. -/
def equationChecksCard : Claim7 := { stood := { row := equationChecksRow, standIns := [], harness := (true, "8f52f9d963dcbfd16d33ec5937411e20d2632b77f233817995a4213d3c07814a"), looks := true }, kinds := [], alts := [], laidByText := true, laidKinds := [.data, .data, .data, .sentinel, .sentinel], laidTests := true, laidLooks := .later }
def EquationChecksCardSaid : Prop := Claim7.holds Tryd.pinned (.plain (OpenSpec.ofChange equationChecksSpec)) equationChecksCard

/-- THE TIED CARD OF 'substationlaw26.EquationWeakening'. -/
def equationWeakeningCard : Claim7 := { stood := { row := equationWeakeningRow, standIns := [], harness := (true, "8f52f9d963dcbfd16d33ec5937411e20d2632b77f233817995a4213d3c07814a"), looks := true }, kinds := [], alts := [], laidByText := true, laidKinds := [.data, .data, .data, .sentinel, .sentinel], laidTests := true, laidLooks := .later }
def EquationWeakeningCardSaid : Prop := Claim7.holds Tryd.pinned (.plain (OpenSpec.ofChange equationWeakeningSpec)) equationWeakeningCard

/-- THE TIED CARD OF 'substationlaw27.BytecodeExamples'. -/
def bytecodeExamplesCard : Claim7 := { stood := { row := bytecodeExamplesRow, standIns := [], harness := (true, "8f52f9d963dcbfd16d33ec5937411e20d2632b77f233817995a4213d3c07814a"), looks := true }, kinds := [], alts := [], laidByText := true, laidKinds := [.data, .data, .data, .sentinel, .sentinel, .data], laidTests := true, laidLooks := .later }
def BytecodeExamplesCardSaid : Prop := Claim7.holds Tryd.pinned (.plain (OpenSpec.ofChange bytecodeExamplesSpec)) bytecodeExamplesCard

/-- THE TIED CARD OF 'substationlaw27.BytecodePrefix'. -/
def bytecodePrefixCard : Claim7 := { stood := { row := bytecodePrefixRow, standIns := [], harness := (true, "8f52f9d963dcbfd16d33ec5937411e20d2632b77f233817995a4213d3c07814a"), looks := true }, kinds := [], alts := [], laidByText := true, laidKinds := [.data, .data, .data, .sentinel, .sentinel, .data], laidTests := true, laidLooks := .later }
def BytecodePrefixCardSaid : Prop := Claim7.holds Tryd.pinned (.plain (OpenSpec.ofChange bytecodePrefixSpec)) bytecodePrefixCard

/-- THE SECOND FORM's CARD OF 'substationlaw26.EquationFormats'. -/
def equationFormatsUptoCard : Claim7 := { stood := { row := equationFormatsUptoRow, standIns := [], harness := (true, "8f52f9d963dcbfd16d33ec5937411e20d2632b77f233817995a4213d3c07814a"), looks := true }, kinds := [], alts := [], laidByText := true, laidKinds := [.data, .data, .data, .sentinel, .sentinel], laidTests := true, laidLooks := .later }
def EquationFormatsUptoCardSaid : Prop := Claim7.holds Tryd.pinned (.plain (OpenSpec.upto equationFormatsSpec)) equationFormatsUptoCard

/-- THE SECOND FORM's CARD OF 'substationlaw26.EquationRoundTrip'. -/
def equationRoundTripUptoCard : Claim7 := { stood := { row := equationRoundTripUptoRow, standIns := [], harness := (true, "8f52f9d963dcbfd16d33ec5937411e20d2632b77f233817995a4213d3c07814a"), looks := true }, kinds := [], alts := [], laidByText := true, laidKinds := [.data, .data, .data, .sentinel, .sentinel], laidTests := true, laidLooks := .later }
def EquationRoundTripUptoCardSaid : Prop := Claim7.holds Tryd.pinned (.plain (OpenSpec.upto equationRoundTripSpec)) equationRoundTripUptoCard

/-- THE SECOND FORM's CARD OF 'substationlaw26.EquationCanonical'. -/
def equationCanonicalUptoCard : Claim7 := { stood := { row := equationCanonicalUptoRow, standIns := [], harness := (true, "8f52f9d963dcbfd16d33ec5937411e20d2632b77f233817995a4213d3c07814a"), looks := true }, kinds := [], alts := [], laidByText := true, laidKinds := [.data, .data, .data, .sentinel, .sentinel], laidTests := true, laidLooks := .later }
def EquationCanonicalUptoCardSaid : Prop := Claim7.holds Tryd.pinned (.plain (OpenSpec.upto equationCanonicalSpec)) equationCanonicalUptoCard

/-- THE SECOND FORM's CARD OF 'substationlaw26.EquationBrackets'. -/
def equationBracketsUptoCard : Claim7 := { stood := { row := equationBracketsUptoRow, standIns := [], harness := (true, "8f52f9d963dcbfd16d33ec5937411e20d2632b77f233817995a4213d3c07814a"), looks := true }, kinds := [], alts := [], laidByText := true, laidKinds := [.data, .data, .data, .sentinel, .sentinel], laidTests := true, laidLooks := .later }
def EquationBracketsUptoCardSaid : Prop := Claim7.holds Tryd.pinned (.plain (OpenSpec.upto equationBracketsSpec)) equationBracketsUptoCard

/-- THE SECOND FORM's CARD OF 'substationlaw26.EquationExamples'. -/
def equationExamplesUptoCard : Claim7 := { stood := { row := equationExamplesUptoRow, standIns := [], harness := (true, "8f52f9d963dcbfd16d33ec5937411e20d2632b77f233817995a4213d3c07814a"), looks := true }, kinds := [], alts := [], laidByText := true, laidKinds := [.data, .data, .data, .sentinel, .sentinel], laidTests := true, laidLooks := .later }
def EquationExamplesUptoCardSaid : Prop := Claim7.holds Tryd.pinned (.plain (OpenSpec.upto equationExamplesSpec)) equationExamplesUptoCard

/-- THE SECOND FORM's CARD OF 'substationlaw26.EquationChecks'. -/
def equationChecksUptoCard : Claim7 := { stood := { row := equationChecksUptoRow, standIns := [], harness := (true, "8f52f9d963dcbfd16d33ec5937411e20d2632b77f233817995a4213d3c07814a"), looks := true }, kinds := [], alts := [], laidByText := true, laidKinds := [.data, .data, .data, .sentinel, .sentinel], laidTests := true, laidLooks := .later }
def EquationChecksUptoCardSaid : Prop := Claim7.holds Tryd.pinned (.plain (OpenSpec.upto equationChecksSpec)) equationChecksUptoCard

/-- THE SECOND FORM's CARD OF 'substationlaw26.EquationWeakening'. -/
def equationWeakeningUptoCard : Claim7 := { stood := { row := equationWeakeningUptoRow, standIns := [], harness := (true, "8f52f9d963dcbfd16d33ec5937411e20d2632b77f233817995a4213d3c07814a"), looks := true }, kinds := [], alts := [], laidByText := true, laidKinds := [.data, .data, .data, .sentinel, .sentinel], laidTests := true, laidLooks := .later }
def EquationWeakeningUptoCardSaid : Prop := Claim7.holds Tryd.pinned (.plain (OpenSpec.upto equationWeakeningSpec)) equationWeakeningUptoCard

/-- THE SECOND FORM's CARD OF 'substationlaw27.BytecodeExamples'. -/
def bytecodeExamplesUptoCard : Claim7 := { stood := { row := bytecodeExamplesUptoRow, standIns := [], harness := (true, "8f52f9d963dcbfd16d33ec5937411e20d2632b77f233817995a4213d3c07814a"), looks := true }, kinds := [], alts := [], laidByText := true, laidKinds := [.data, .data, .data, .sentinel, .sentinel, .data], laidTests := true, laidLooks := .later }
def BytecodeExamplesUptoCardSaid : Prop := Claim7.holds Tryd.pinned (.plain (OpenSpec.upto bytecodeExamplesSpec)) bytecodeExamplesUptoCard

/-- THE SECOND FORM's CARD OF 'substationlaw27.BytecodePrefix'. -/
def bytecodePrefixUptoCard : Claim7 := { stood := { row := bytecodePrefixUptoRow, standIns := [], harness := (true, "8f52f9d963dcbfd16d33ec5937411e20d2632b77f233817995a4213d3c07814a"), looks := true }, kinds := [], alts := [], laidByText := true, laidKinds := [.data, .data, .data, .sentinel, .sentinel, .data], laidTests := true, laidLooks := .later }
def BytecodePrefixUptoCardSaid : Prop := Claim7.holds Tryd.pinned (.plain (OpenSpec.upto bytecodePrefixSpec)) bytecodePrefixUptoCard
end Rows
end Go.Proofs.YtbbopomecanaoaaDoor
