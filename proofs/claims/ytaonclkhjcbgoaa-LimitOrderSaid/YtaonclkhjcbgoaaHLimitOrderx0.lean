-- Written by the session's program hy.py.
import Derived.Test.YtaonclkhjcbgoaaProg
import Derived.Below
import Derived.Deep.Draws
import Derived.Deep.AppendLies
import Derived.Maps.AppendAt
import Derived.OwnWalk
import Derived.Laws.BytesArg
import Derived.Laws.MakeOwn
import Derived.Laws.OwnMore
import Derived.Deep.OwnRows
import Derived.Tactics
import Derived.Lib.ConvBytes
import Derived.Laws.Slices
import Derived.WalkKit
import Derived.KernelRfl
import Derived.RowKit3
import Derived.Deep.LoopGhost
import Derived.Deep.QuietTactic
import Derived.BigQuiet
import Derived.WideLaws
import Derived.Deep.DeepCutAuto
import Derived.Deep.CutBlock
import Derived.Deep.RegionHeld3
import Derived.Laws.Rows
import Derived.Lib.AppendStr
import Derived.ArgAppend
import Derived.Laws.IdiomCopy
import Derived.OrdersHeld
import Derived.Laws.BitsLemmas
import Derived.RowKit
import Derived.Lib.SliceRun
import Derived.Lib.SlBytesConst
import Derived.Test.YtaonclkhjcbgoaaWWords
import Derived.Test.YtaonclkhjcbgoaaWLast
import Derived.Test.YtaonclkhjcbgoaaWTab
import Derived.Test.YtaonclkhjcbgoaaWFour
import Derived.Test.YtaonclkhjcbgoaaWQPut
import Derived.Test.YtaonclkhjcbgoaaWApart
import Derived.Test.YtaonclkhjcbgoaaWArr
import Derived.Test.YtaonclkhjcbgoaaWZeros
import Derived.Test.YtaonclkhjcbgoaaWFoot
import Derived.Test.YtaonclkhjcbgoaaWKept
import Derived.Test.YtaonclkhjcbgoaaWShare
import Derived.Test.YtaonclkhjcbgoaaWN
import Derived.Test.YtaonclkhjcbgoaaWFootNe
import Derived.Test.YtaonclkhjcbgoaaWAt
import Derived.Test.YtaonclkhjcbgoaaWEqStruct
import Derived.Test.YtaonclkhjcbgoaaWRepsOne
import Derived.Test.YtaonclkhjcbgoaaWInv
import Derived.Test.YtaonclkhjcbgoaaWInvWords
import Derived.Test.YtaonclkhjcbgoaaWGuard
import Derived.Test.YtaonclkhjcbgoaaWNEv
import Derived.Test.YtaonclkhjcbgoaaWMore
namespace Go.Proofs.Ytaonclkhjcbgoaa.HLimitOrder
open Go.RowKit Go.Proofs.YtaonclkhjcbgoaaW.PrintWords Go.Proofs.YtaonclkhjcbgoaaW.PrintLast Go.Proofs.YtaonclkhjcbgoaaW.PrintMore
attribute [local go_sem] max2_int min2_int max_two min_two max_three min_three max_four min_four   -- for this text's walks alone
set_option linter.unusedVariables false
set_option linter.unusedSimpArgs false



def errW : Option Int → Value
  | none => .nilIface
  | some c => .iface 0 (.int .i64 c)
theorem errW_none : errW none = .nilIface := rfl
theorem errW_some (c : Int) : errW (some c) = .iface 0 (.int .i64 c) := rfl

-- the values' own types

end Go.Proofs.Ytaonclkhjcbgoaa.HLimitOrder
