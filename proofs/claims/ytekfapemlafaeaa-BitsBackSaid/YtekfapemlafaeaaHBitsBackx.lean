-- Written by the session's program hy.py.
import Derived.Test.YtekfapemlafaeaaHBitsBackx0
import Derived.Test.YtekfapemlafaeaaHBitsBackx1
import Derived.Test.YtekfapemlafaeaaHBitsBackx2
namespace Go.Proofs.Ytekfapemlafaeaa.HBitsBack
open Go.RowKit Go.Proofs.YtekfapemlafaeaaW.PrintWords Go.Proofs.YtekfapemlafaeaaW.PrintLast Go.Proofs.YtekfapemlafaeaaW.PrintMore
attribute [local go_sem] max2_int min2_int max_two min_two max_three min_three max_four min_four   -- for this text's walks alone
set_option linter.unusedVariables false
set_option linter.unusedSimpArgs false

end Go.Proofs.Ytekfapemlafaeaa.HBitsBack
