-- Written by the session's program hy.py.
import Derived.Test.YtngpdacbmkfbcaaProg
import Derived.Below
import Derived.Deep.Draws
import Derived.Deep.AppendLies
import Derived.Maps.AppendAt
import Derived.OwnWalk
import Derived.Laws.BytesArg
import Derived.Laws.MakeOwn
import Derived.Laws.OwnMore
import Derived.Deep.OwnRows
import Derived.Tactics
import Derived.Lib.ConvBytes
import Derived.Laws.Slices
import Derived.WalkKit
import Derived.KernelRfl
import Derived.RowKit3
import Derived.Deep.LoopGhost
import Derived.Deep.QuietTactic
import Derived.BigQuiet
import Derived.WideLaws
import Derived.Deep.DeepCutAuto
import Derived.Deep.CutBlock
import Derived.Deep.RegionHeld3
import Derived.Laws.Rows
import Derived.Lib.AppendStr
import Derived.ArgAppend
import Derived.Laws.IdiomCopy
import Derived.OrdersHeld
import Derived.Laws.BitsLemmas
import Derived.RowKit
import Derived.Lib.SliceRun
import Derived.Lib.SlBytesConst
import Derived.Test.YtngpdacbmkfbcaaWWords
import Derived.Test.YtngpdacbmkfbcaaWLast
import Derived.Test.YtngpdacbmkfbcaaWTab
import Derived.Test.YtngpdacbmkfbcaaWFour
import Derived.Test.YtngpdacbmkfbcaaWQPut
import Derived.Test.YtngpdacbmkfbcaaWApart
import Derived.Test.YtngpdacbmkfbcaaWArr
import Derived.Test.YtngpdacbmkfbcaaWZeros
import Derived.Test.YtngpdacbmkfbcaaWFoot
import Derived.Test.YtngpdacbmkfbcaaWKept
import Derived.Test.YtngpdacbmkfbcaaWShare
import Derived.Test.YtngpdacbmkfbcaaWN
import Derived.Test.YtngpdacbmkfbcaaWFootNe
import Derived.Test.YtngpdacbmkfbcaaWAt
import Derived.Test.YtngpdacbmkfbcaaWEqStruct
import Derived.Test.YtngpdacbmkfbcaaWRepsOne
import Derived.Test.YtngpdacbmkfbcaaWInv
import Derived.Test.YtngpdacbmkfbcaaWInvWords
import Derived.Test.YtngpdacbmkfbcaaWGuard
import Derived.Test.YtngpdacbmkfbcaaWNEv
import Derived.Test.YtngpdacbmkfbcaaWMore
namespace Go.Proofs.Ytngpdacbmkfbcaa.HShapeBack
open Go.RowKit Go.Proofs.YtngpdacbmkfbcaaW.PrintWords Go.Proofs.YtngpdacbmkfbcaaW.PrintLast Go.Proofs.YtngpdacbmkfbcaaW.PrintMore
attribute [local go_sem] max2_int min2_int max_two min_two max_three min_three max_four min_four   -- for this text's walks alone
set_option linter.unusedVariables false
set_option linter.unusedSimpArgs false



def errW : Option Int → Value
  | none => .nilIface
  | some c => .iface 0 (.int .i64 c)
theorem errW_none : errW none = .nilIface := rfl
theorem errW_some (c : Int) : errW (some c) = .iface 0 (.int .i64 c) := rfl

theorem info3 : (Try.prog.info? 3).map (fun i => (i.zero, i.size, i.bytes)) = some (some (.int .i64 0), 1, 8) := by kernel_rfl
-- the values' own types

end Go.Proofs.Ytngpdacbmkfbcaa.HShapeBack
