-- PRINTED BY print.sh 35421559b90ae4d0a3588c463048766b98c2df88dd9212a6774a882060cdf62d: not written by this session
import Derived.Test.YthnbokmnplipkaaDoorProg
import Derived.Below
import Derived.Deep.Draws
import Derived.Deep.AppendLies
import Derived.Maps.AppendAt
import Derived.OwnWalk
import Derived.Laws.BytesArg
import Derived.Laws.MakeOwn
import Derived.Laws.OwnMore
import Derived.Deep.OwnRows
import Derived.Tactics
import Derived.Lib.ConvBytes
import Derived.Laws.Slices
import Derived.WalkKit
import Derived.KernelRfl
import Derived.RowKit3
import Derived.Deep.LoopGhost
import Derived.Deep.QuietTactic
import Derived.BigQuiet
import Derived.WideLaws
import Derived.Deep.DeepCutAuto
import Derived.Deep.CutBlock
import Derived.Deep.RegionHeld3
import Derived.Laws.Rows
import Derived.Lib.AppendStr
import Derived.ArgAppend
import Derived.Laws.IdiomCopy
import Derived.OrdersHeld
import Derived.Laws.BitsLemmas
import Derived.RowKit
import Derived.Test.YthnbokmnplipkaaDoorWWords
import Derived.Test.YthnbokmnplipkaaDoorWLast
import Derived.Test.YthnbokmnplipkaaDoorWTab
import Derived.Test.YthnbokmnplipkaaDoorWFour
import Derived.Test.YthnbokmnplipkaaDoorWQPut
import Derived.Test.YthnbokmnplipkaaDoorWApart
import Derived.Test.YthnbokmnplipkaaDoorWArr
import Derived.Test.YthnbokmnplipkaaDoorWZeros
import Derived.Test.YthnbokmnplipkaaDoorWFoot
import Derived.Test.YthnbokmnplipkaaDoorWKept
import Derived.Test.YthnbokmnplipkaaDoorWShare
import Derived.Test.YthnbokmnplipkaaDoorWN
import Derived.Test.YthnbokmnplipkaaDoorWFootNe
import Derived.Test.YthnbokmnplipkaaDoorWAt
import Derived.Test.YthnbokmnplipkaaDoorWEqStruct
import Derived.Test.YthnbokmnplipkaaDoorWRepsOne
import Derived.Test.YthnbokmnplipkaaDoorWInv
import Derived.Test.YthnbokmnplipkaaDoorWInvWords
import Derived.Test.YthnbokmnplipkaaDoorWGuard
import Derived.Test.YthnbokmnplipkaaDoorWNEv
import Derived.Test.YthnbokmnplipkaaDoorWMore
namespace Go.Proofs.YthnbokmnplipkaaDoor.PTeleprotectionSteps
open Go.RowKit Go.Proofs.YthnbokmnplipkaaDoorW.PrintWords Go.Proofs.YthnbokmnplipkaaDoorW.PrintLast Go.Proofs.YthnbokmnplipkaaDoorW.PrintMore
attribute [local go_sem] max2_int min2_int max_two min_two max_three min_three max_four min_four   -- for this text's walks alone
set_option linter.unusedVariables false
set_option linter.unusedSimpArgs false



def errW : Option Int → Value
  | none => .nilIface
  | some c => .iface 0 (.int .i64 c)
theorem errW_none : errW none = .nilIface := rfl
theorem errW_some (c : Int) : errW (some c) = .iface 0 (.int .i64 c) := rfl

-- the values' own types

end Go.Proofs.YthnbokmnplipkaaDoor.PTeleprotectionSteps
