import Derived.Test.YthnbokmnplipkaaDoorI
/- Two slices that grow side by side. No condition. -/
namespace Go.Proofs.YthnbokmnplipkaaDoor.A
open Go.RowKit Go.Proofs.YthnbokmnplipkaaDoorW.PrintWords Go.Proofs.YthnbokmnplipkaaDoorW.PrintLast Go.Proofs.YthnbokmnplipkaaDoorW.PrintMore
open Go.Proofs.YthnbokmnplipkaaDoor.PTeleprotectionSteps
open Go.Proofs.YthnbokmnplipkaaDoor
attribute [local go_sem] max2_int min2_int max_two min_two max_three min_three max_four min_four
set_option linter.unusedVariables false
set_option linter.unusedSimpArgs false

theorem NeB.symm {v u : Value} (h : NeB v u) : NeB u v := fun k hk hv => h k hv hk
theorem NeB.app {w : World} {va vb v1 : Value} {base n : Nat} {F : Nat → Sees} (h : NeB va vb) (hb : ARow w base vb n F) (hat : v1.ownBlock = va.ownBlock ∨ ∃ b, v1.ownBlock = some b ∧ w.heap.size ≤ b) : NeB v1 vb := fun k hk hv => by
  rcases hat with e | ⟨b, e, hle⟩
  · exact h k (e.symm.trans hk) hv
  · have := hb.lt k hv
    rw [e] at hk
    cases hk
    omega
theorem NeB.not {va vb : Value} (h : NeB va vb) : ∀ k, vb.ownBlock = some k → some k ≠ va.ownBlock := fun k hk e => h k e.symm hk
theorem NeB.nil (u : Value) : NeB (.slice none 0 0) u := fun k hk => by cases hk
end Go.Proofs.YthnbokmnplipkaaDoor.A
