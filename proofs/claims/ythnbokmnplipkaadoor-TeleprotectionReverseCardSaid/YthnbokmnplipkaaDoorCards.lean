/-
  DERIVED. GIVEN WITH THE SEED: THE CARDS: each row of YthnbokmnplipkaaDoorRows.lean that lists a variable, with what it lists TIED to the program's text (the seventh form; the later family's looks); each row that meets fmt, with fmt's text TOLD by the authors' own Lean function (tested against real Go, not proved from fmt's source: count such statements apart). THE CARD IS WHAT COUNTS. Prove the row's statement (the work); the ties are given (YthnbokmnplipkaaDoorTie.lean); close each card by the builder's one call (the guide's Derived/Test/ToyasCard.lean, 'card_holds'). Laid BY PROGRAM, IN A SANDBOX (cutbox-door.mjs). By AI agents, Wed Nov 11 2026. No macro, syntax, notation, axiom, sorry.
-/
import Derived.Test.YthnbokmnplipkaaDoorRows
import GoSem.ClaimSeven
namespace Go.Proofs.YthnbokmnplipkaaDoor
namespace Rows

/-- THE TIED CARD OF 'substationlaw31.TeleprotectionExamples'. -/
def teleprotectionExamplesCard : Claim7 := { stood := { row := teleprotectionExamplesRow, standIns := [], harness := (true, "73282d57609185b1dc3ea5e40b2f76e856b473b377efdf605611eec0983cdd40"), looks := false }, kinds := [], alts := [], laidByText := true, laidKinds := [.data], laidTests := true, laidLooks := .later }
def TeleprotectionExamplesCardSaid : Prop := Claim7.holds Tryd.pinned (.plain (OpenSpec.ofChange teleprotectionExamplesSpec)) teleprotectionExamplesCard

/-- THE TIED CARD OF 'substationlaw31.TeleprotectionSteps'. -/
def teleprotectionStepsCard : Claim7 := { stood := { row := teleprotectionStepsRow, standIns := [], harness := (true, "73282d57609185b1dc3ea5e40b2f76e856b473b377efdf605611eec0983cdd40"), looks := false }, kinds := [], alts := [], laidByText := true, laidKinds := [.data], laidTests := true, laidLooks := .later }
def TeleprotectionStepsCardSaid : Prop := Claim7.holds Tryd.pinned (.plain (OpenSpec.ofChange teleprotectionStepsSpec)) teleprotectionStepsCard

/-- THE TIED CARD OF 'substationlaw31.TeleprotectionInternal'. -/
def teleprotectionInternalCard : Claim7 := { stood := { row := teleprotectionInternalRow, standIns := [], harness := (true, "73282d57609185b1dc3ea5e40b2f76e856b473b377efdf605611eec0983cdd40"), looks := false }, kinds := [], alts := [], laidByText := true, laidKinds := [.data], laidTests := true, laidLooks := .later }
def TeleprotectionInternalCardSaid : Prop := Claim7.holds Tryd.pinned (.plain (OpenSpec.ofChange teleprotectionInternalSpec)) teleprotectionInternalCard

/-- THE TIED CARD OF 'substationlaw31.TeleprotectionExternal'. -/
def teleprotectionExternalCard : Claim7 := { stood := { row := teleprotectionExternalRow, standIns := [], harness := (true, "73282d57609185b1dc3ea5e40b2f76e856b473b377efdf605611eec0983cdd40"), looks := false }, kinds := [], alts := [], laidByText := true, laidKinds := [.data], laidTests := true, laidLooks := .later }
def TeleprotectionExternalCardSaid : Prop := Claim7.holds Tryd.pinned (.plain (OpenSpec.ofChange teleprotectionExternalSpec)) teleprotectionExternalCard

/-- THE TIED CARD OF 'substationlaw31.TeleprotectionReverse'. -/
def teleprotectionReverseCard : Claim7 := { stood := { row := teleprotectionReverseRow, standIns := [], harness := (true, "73282d57609185b1dc3ea5e40b2f76e856b473b377efdf605611eec0983cdd40"), looks := false }, kinds := [], alts := [], laidByText := true, laidKinds := [.data], laidTests := true, laidLooks := .later }
def TeleprotectionReverseCardSaid : Prop := Claim7.holds Tryd.pinned (.plain (OpenSpec.ofChange teleprotectionReverseSpec)) teleprotectionReverseCard

/-- THE TIED CARD OF 'substationlaw31.TeleprotectionAlone'. -/
def teleprotectionAloneCard : Claim7 := { stood := { row := teleprotectionAloneRow, standIns := [], harness := (true, "73282d57609185b1dc3ea5e40b2f76e856b473b377efdf605611eec0983cdd40"), looks := false }, kinds := [], alts := [], laidByText := true, laidKinds := [.data], laidTests := true, laidLooks := .later }
def TeleprotectionAloneCardSaid : Prop := Claim7.holds Tryd.pinned (.plain (OpenSpec.ofChange teleprotectionAloneSpec)) teleprotectionAloneCard

/-- THE SECOND FORM's CARD OF 'substationlaw31.TeleprotectionExamples'. -/
def teleprotectionExamplesUptoCard : Claim7 := { stood := { row := teleprotectionExamplesUptoRow, standIns := [], harness := (true, "73282d57609185b1dc3ea5e40b2f76e856b473b377efdf605611eec0983cdd40"), looks := false }, kinds := [], alts := [], laidByText := true, laidKinds := [.data], laidTests := true, laidLooks := .later }
def TeleprotectionExamplesUptoCardSaid : Prop := Claim7.holds Tryd.pinned (.plain (OpenSpec.upto teleprotectionExamplesSpec)) teleprotectionExamplesUptoCard

/-- THE SECOND FORM's CARD OF 'substationlaw31.TeleprotectionSteps'. -/
def teleprotectionStepsUptoCard : Claim7 := { stood := { row := teleprotectionStepsUptoRow, standIns := [], harness := (true, "73282d57609185b1dc3ea5e40b2f76e856b473b377efdf605611eec0983cdd40"), looks := false }, kinds := [], alts := [], laidByText := true, laidKinds := [.data], laidTests := true, laidLooks := .later }
def TeleprotectionStepsUptoCardSaid : Prop := Claim7.holds Tryd.pinned (.plain (OpenSpec.upto teleprotectionStepsSpec)) teleprotectionStepsUptoCard

/-- THE SECOND FORM's CARD OF 'substationlaw31.TeleprotectionInternal'. -/
def teleprotectionInternalUptoCard : Claim7 := { stood := { row := teleprotectionInternalUptoRow, standIns := [], harness := (true, "73282d57609185b1dc3ea5e40b2f76e856b473b377efdf605611eec0983cdd40"), looks := false }, kinds := [], alts := [], laidByText := true, laidKinds := [.data], laidTests := true, laidLooks := .later }
def TeleprotectionInternalUptoCardSaid : Prop := Claim7.holds Tryd.pinned (.plain (OpenSpec.upto teleprotectionInternalSpec)) teleprotectionInternalUptoCard

/-- THE SECOND FORM's CARD OF 'substationlaw31.TeleprotectionExternal'. -/
def teleprotectionExternalUptoCard : Claim7 := { stood := { row := teleprotectionExternalUptoRow, standIns := [], harness := (true, "73282d57609185b1dc3ea5e40b2f76e856b473b377efdf605611eec0983cdd40"), looks := false }, kinds := [], alts := [], laidByText := true, laidKinds := [.data], laidTests := true, laidLooks := .later }
def TeleprotectionExternalUptoCardSaid : Prop := Claim7.holds Tryd.pinned (.plain (OpenSpec.upto teleprotectionExternalSpec)) teleprotectionExternalUptoCard

/-- THE SECOND FORM's CARD OF 'substationlaw31.TeleprotectionReverse'. -/
def teleprotectionReverseUptoCard : Claim7 := { stood := { row := teleprotectionReverseUptoRow, standIns := [], harness := (true, "73282d57609185b1dc3ea5e40b2f76e856b473b377efdf605611eec0983cdd40"), looks := false }, kinds := [], alts := [], laidByText := true, laidKinds := [.data], laidTests := true, laidLooks := .later }
def TeleprotectionReverseUptoCardSaid : Prop := Claim7.holds Tryd.pinned (.plain (OpenSpec.upto teleprotectionReverseSpec)) teleprotectionReverseUptoCard

/-- THE SECOND FORM's CARD OF 'substationlaw31.TeleprotectionAlone'. -/
def teleprotectionAloneUptoCard : Claim7 := { stood := { row := teleprotectionAloneUptoRow, standIns := [], harness := (true, "73282d57609185b1dc3ea5e40b2f76e856b473b377efdf605611eec0983cdd40"), looks := false }, kinds := [], alts := [], laidByText := true, laidKinds := [.data], laidTests := true, laidLooks := .later }
def TeleprotectionAloneUptoCardSaid : Prop := Claim7.holds Tryd.pinned (.plain (OpenSpec.upto teleprotectionAloneSpec)) teleprotectionAloneUptoCard
end Rows
end Go.Proofs.YthnbokmnplipkaaDoor
