-- Written by the session's program hy.py.
import Derived.Test.YtekfapemlafaeaaProg
import Derived.Below
import Derived.Deep.Draws
import Derived.Deep.AppendLies
import Derived.Maps.AppendAt
import Derived.OwnWalk
import Derived.Laws.BytesArg
import Derived.Laws.MakeOwn
import Derived.Laws.OwnMore
import Derived.Deep.OwnRows
import Derived.Tactics
import Derived.Lib.ConvBytes
import Derived.Laws.Slices
import Derived.WalkKit
import Derived.KernelRfl
import Derived.RowKit3
import Derived.Deep.LoopGhost
import Derived.Deep.QuietTactic
import Derived.BigQuiet
import Derived.WideLaws
import Derived.Deep.DeepCutAuto
import Derived.Deep.CutBlock
import Derived.Deep.RegionHeld3
import Derived.Laws.Rows
import Derived.Lib.AppendStr
import Derived.ArgAppend
import Derived.Laws.IdiomCopy
import Derived.OrdersHeld
import Derived.Laws.BitsLemmas
import Derived.RowKit
import Derived.Test.YtekfapemlafaeaaWWords
import Derived.Test.YtekfapemlafaeaaWLast
import Derived.Test.YtekfapemlafaeaaWTab
import Derived.Test.YtekfapemlafaeaaWFour
import Derived.Test.YtekfapemlafaeaaWQPut
import Derived.Test.YtekfapemlafaeaaWApart
import Derived.Test.YtekfapemlafaeaaWArr
import Derived.Test.YtekfapemlafaeaaWZeros
import Derived.Test.YtekfapemlafaeaaWFoot
import Derived.Test.YtekfapemlafaeaaWKept
import Derived.Test.YtekfapemlafaeaaWShare
import Derived.Test.YtekfapemlafaeaaWN
import Derived.Test.YtekfapemlafaeaaWFootNe
import Derived.Test.YtekfapemlafaeaaWAt
import Derived.Test.YtekfapemlafaeaaWEqStruct
import Derived.Test.YtekfapemlafaeaaWRepsOne
import Derived.Test.YtekfapemlafaeaaWInv
import Derived.Test.YtekfapemlafaeaaWInvWords
import Derived.Test.YtekfapemlafaeaaWGuard
import Derived.Test.YtekfapemlafaeaaWNEv
import Derived.Test.YtekfapemlafaeaaWMore
namespace Go.Proofs.Ytekfapemlafaeaa.HBitsApart
open Go.RowKit Go.Proofs.YtekfapemlafaeaaW.PrintWords Go.Proofs.YtekfapemlafaeaaW.PrintLast Go.Proofs.YtekfapemlafaeaaW.PrintMore
attribute [local go_sem] max2_int min2_int max_two min_two max_three min_three max_four min_four   -- for this text's walks alone
set_option linter.unusedVariables false
set_option linter.unusedSimpArgs false



def errW : Option Int → Value
  | none => .nilIface
  | some c => .iface 0 (.int .i64 c)
theorem errW_none : errW none = .nilIface := rfl
theorem errW_some (c : Int) : errW (some c) = .iface 0 (.int .i64 c) := rfl

theorem info3 : (Try.prog.info? 3).map (fun i => (i.zero, i.size, i.bytes)) = some (some (.int .i64 0), 1, 8) := by kernel_rfl
theorem info5 : (Try.prog.info? 5).map (fun i => (i.zero, i.size, i.bytes)) = some (some (.int .u8 0), 1, 1) := by kernel_rfl
-- the values' own types

end Go.Proofs.Ytekfapemlafaeaa.HBitsApart
