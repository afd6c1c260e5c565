-- Written by the session's program hy.py.
import Derived.Test.YtgegbiknohjpgaaProg
import Derived.Below
import Derived.Deep.Draws
import Derived.Deep.AppendLies
import Derived.Maps.AppendAt
import Derived.OwnWalk
import Derived.Laws.BytesArg
import Derived.Laws.MakeOwn
import Derived.Laws.OwnMore
import Derived.Deep.OwnRows
import Derived.Tactics
import Derived.Lib.ConvBytes
import Derived.Laws.Slices
import Derived.WalkKit
import Derived.KernelRfl
import Derived.RowKit3
import Derived.Deep.LoopGhost
import Derived.Deep.QuietTactic
import Derived.BigQuiet
import Derived.WideLaws
import Derived.Deep.DeepCutAuto
import Derived.Deep.CutBlock
import Derived.Deep.RegionHeld3
import Derived.Laws.Rows
import Derived.Lib.AppendStr
import Derived.ArgAppend
import Derived.Laws.IdiomCopy
import Derived.OrdersHeld
import Derived.Laws.BitsLemmas
import Derived.RowKit
import Derived.Lib.SliceRun
import Derived.Lib.SlBytesConst
import Derived.WalkMore
import Derived.Lib.SlBuf
import Derived.Lib.MakeNoZero
import Derived.Laws.Externs
import Derived.Laws.MathBits
import Derived.Test.YtgegbiknohjpgaaWWords
import Derived.Test.YtgegbiknohjpgaaWLast
import Derived.Test.YtgegbiknohjpgaaWTab
import Derived.Test.YtgegbiknohjpgaaWFour
import Derived.Test.YtgegbiknohjpgaaWQPut
import Derived.Test.YtgegbiknohjpgaaWApart
import Derived.Test.YtgegbiknohjpgaaWArr
import Derived.Test.YtgegbiknohjpgaaWZeros
import Derived.Test.YtgegbiknohjpgaaWFoot
import Derived.Test.YtgegbiknohjpgaaWKept
import Derived.Test.YtgegbiknohjpgaaWShare
import Derived.Test.YtgegbiknohjpgaaWN
import Derived.Test.YtgegbiknohjpgaaWFootNe
import Derived.Test.YtgegbiknohjpgaaWAt
import Derived.Test.YtgegbiknohjpgaaWEqStruct
import Derived.Test.YtgegbiknohjpgaaWRepsOne
import Derived.Test.YtgegbiknohjpgaaWInv
import Derived.Test.YtgegbiknohjpgaaWInvWords
import Derived.Test.YtgegbiknohjpgaaWGuard
import Derived.Test.YtgegbiknohjpgaaWNEv
import Derived.Test.YtgegbiknohjpgaaWMore
namespace Go.Proofs.Ytgegbiknohjpgaa.HCursorCuts
open Go.RowKit Go.Proofs.YtgegbiknohjpgaaW.PrintWords Go.Proofs.YtgegbiknohjpgaaW.PrintLast Go.Proofs.YtgegbiknohjpgaaW.PrintMore
attribute [local go_sem] max2_int min2_int max_two min_two max_three min_three max_four min_four   -- for this text's walks alone
set_option linter.unusedVariables false
set_option linter.unusedSimpArgs false



def errW : Option Int → Value
  | none => .nilIface
  | some c => .iface 0 (.int .i64 c)
theorem errW_none : errW none = .nilIface := rfl
theorem errW_some (c : Int) : errW (some c) = .iface 0 (.int .i64 c) := rfl

theorem info5 : (Try.prog.info? 5).map (fun i => (i.zero, i.size, i.bytes)) = some (some (.int .u8 0), 1, 1) := by kernel_rfl
-- the values' own types

end Go.Proofs.Ytgegbiknohjpgaa.HCursorCuts
