-- PRINTED by print.py (a twelfth state) out of the translation. Not trusted: Lean checks it.
import Derived.Test.YtpnkeealojgpcaaXK0
import Derived.Test.YtpnkeealojgpcaaXK1
namespace Go.Proofs.Ytpnkeealojgpcaa.XK
open Go.RowKit Go.Proofs.YtpnkeealojgpcaaW.PrintWords Go.Proofs.YtpnkeealojgpcaaW.PrintLast Go.Proofs.YtpnkeealojgpcaaW.PrintMore
attribute [local go_sem] max2_int min2_int max_two min_two max_three min_three max_four min_four   -- for this text's walks alone
set_option linter.unusedVariables false
set_option linter.unusedSimpArgs false

end Go.Proofs.Ytpnkeealojgpcaa.XK
