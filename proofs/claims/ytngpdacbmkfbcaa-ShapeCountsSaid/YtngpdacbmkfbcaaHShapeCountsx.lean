-- Written by the session's program hy.py.
import Derived.Test.YtngpdacbmkfbcaaHShapeCountsx0
import Derived.Test.YtngpdacbmkfbcaaHShapeCountsx1
import Derived.Test.YtngpdacbmkfbcaaHShapeCountsx2
import Derived.Test.YtngpdacbmkfbcaaHShapeCountsx3
namespace Go.Proofs.Ytngpdacbmkfbcaa.HShapeCounts
open Go.RowKit Go.Proofs.YtngpdacbmkfbcaaW.PrintWords Go.Proofs.YtngpdacbmkfbcaaW.PrintLast Go.Proofs.YtngpdacbmkfbcaaW.PrintMore
attribute [local go_sem] max2_int min2_int max_two min_two max_three min_three max_four min_four   -- for this text's walks alone
set_option linter.unusedVariables false
set_option linter.unusedSimpArgs false

end Go.Proofs.Ytngpdacbmkfbcaa.HShapeCounts
