-- Written by the session's program hy.py.
import Derived.Test.YtamcgfnmnlpneaaHVarintZigsx0
import Derived.Test.YtamcgfnmnlpneaaHVarintZigsx1
import Derived.Test.YtamcgfnmnlpneaaHVarintZigsx2
namespace Go.Proofs.Ytamcgfnmnlpneaa.HVarintZigs
open Go.RowKit Go.Proofs.YtamcgfnmnlpneaaW.PrintWords Go.Proofs.YtamcgfnmnlpneaaW.PrintLast Go.Proofs.YtamcgfnmnlpneaaW.PrintMore
attribute [local go_sem] max2_int min2_int max_two min_two max_three min_three max_four min_four   -- for this text's walks alone
set_option linter.unusedVariables false
set_option linter.unusedSimpArgs false

end Go.Proofs.Ytamcgfnmnlpneaa.HVarintZigs
