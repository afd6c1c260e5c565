-- Written by the session's program hy.py.
import Derived.Test.YtamcgfnmnlpneaaProg
import Derived.Below
import Derived.Deep.Draws
import Derived.Deep.AppendLies
import Derived.Maps.AppendAt
import Derived.OwnWalk
import Derived.Laws.BytesArg
import Derived.Laws.MakeOwn
import Derived.Laws.OwnMore
import Derived.Deep.OwnRows
import Derived.Tactics
import Derived.Lib.ConvBytes
import Derived.Laws.Slices
import Derived.WalkKit
import Derived.KernelRfl
import Derived.RowKit3
import Derived.Deep.LoopGhost
import Derived.Deep.QuietTactic
import Derived.BigQuiet
import Derived.WideLaws
import Derived.Deep.DeepCutAuto
import Derived.Deep.CutBlock
import Derived.Deep.RegionHeld3
import Derived.Laws.Rows
import Derived.Lib.AppendStr
import Derived.ArgAppend
import Derived.Laws.IdiomCopy
import Derived.OrdersHeld
import Derived.Laws.BitsLemmas
import Derived.RowKit
import Derived.Lib.SliceRun
import Derived.Lib.SlBytesConst
import Derived.Test.YtamcgfnmnlpneaaWWords
import Derived.Test.YtamcgfnmnlpneaaWLast
import Derived.Test.YtamcgfnmnlpneaaWTab
import Derived.Test.YtamcgfnmnlpneaaWFour
import Derived.Test.YtamcgfnmnlpneaaWQPut
import Derived.Test.YtamcgfnmnlpneaaWApart
import Derived.Test.YtamcgfnmnlpneaaWArr
import Derived.Test.YtamcgfnmnlpneaaWZeros
import Derived.Test.YtamcgfnmnlpneaaWFoot
import Derived.Test.YtamcgfnmnlpneaaWKept
import Derived.Test.YtamcgfnmnlpneaaWShare
import Derived.Test.YtamcgfnmnlpneaaWN
import Derived.Test.YtamcgfnmnlpneaaWFootNe
import Derived.Test.YtamcgfnmnlpneaaWAt
import Derived.Test.YtamcgfnmnlpneaaWEqStruct
import Derived.Test.YtamcgfnmnlpneaaWRepsOne
import Derived.Test.YtamcgfnmnlpneaaWInv
import Derived.Test.YtamcgfnmnlpneaaWInvWords
import Derived.Test.YtamcgfnmnlpneaaWGuard
import Derived.Test.YtamcgfnmnlpneaaWNEv
import Derived.Test.YtamcgfnmnlpneaaWMore
namespace Go.Proofs.Ytamcgfnmnlpneaa.HVarintOnce
open Go.RowKit Go.Proofs.YtamcgfnmnlpneaaW.PrintWords Go.Proofs.YtamcgfnmnlpneaaW.PrintLast Go.Proofs.YtamcgfnmnlpneaaW.PrintMore
attribute [local go_sem] max2_int min2_int max_two min_two max_three min_three max_four min_four   -- for this text's walks alone
set_option linter.unusedVariables false
set_option linter.unusedSimpArgs false



def errW : Option Int → Value
  | none => .nilIface
  | some c => .iface 0 (.int .i64 c)
theorem errW_none : errW none = .nilIface := rfl
theorem errW_some (c : Int) : errW (some c) = .iface 0 (.int .i64 c) := rfl

theorem info5 : (Try.prog.info? 5).map (fun i => (i.zero, i.size, i.bytes)) = some (some (.int .u8 0), 1, 1) := by kernel_rfl
theorem info25 : (Try.prog.info? 25).map (fun i => (i.zero, i.size, i.bytes)) = some (some (.int .u64 0), 1, 8) := by kernel_rfl
-- the values' own types

end Go.Proofs.Ytamcgfnmnlpneaa.HVarintOnce
