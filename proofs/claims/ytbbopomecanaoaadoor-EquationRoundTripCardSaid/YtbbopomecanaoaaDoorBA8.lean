import Derived.Test.YtbbopomecanaoaaDoorBA7
/- The texts that the law's proof stands on, merged and pruned by program. No condition. -/
namespace Go.Proofs.YtbbopomecanaoaaDoor.A
open Go.RowKit Go.Proofs.YtbbopomecanaoaaDoorW.PrintWords Go.Proofs.YtbbopomecanaoaaDoorW.PrintLast Go.Proofs.YtbbopomecanaoaaDoorW.PrintMore Go.Proofs.YtbbopomecanaoaaDoor.XK
open Go.Proofs.YtbbopomecanaoaaDoor
set_option linter.unusedVariables false
set_option linter.unusedSimpArgs false
theorem tol (s : ByteArray) : s.toList = s.data.toList := by
  have h := bs_list s.data.toList
  rwa [show bs s.data.toList = s from by cases s; simp [bs]] at h
theorem tol_nil (s : ByteArray) : s.toList = [] ↔ s.size = 0 := by
  rw [tol, show s.size = s.data.toList.length from rfl]
  exact List.length_eq_zero_iff.symm
end Go.Proofs.YtbbopomecanaoaaDoor.A
