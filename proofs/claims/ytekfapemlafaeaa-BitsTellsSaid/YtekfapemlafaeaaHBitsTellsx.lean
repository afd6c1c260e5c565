-- Written by the session's program hy.py.
import Derived.Test.YtekfapemlafaeaaHBitsTellsx0
import Derived.Test.YtekfapemlafaeaaHBitsTellsx1
import Derived.Test.YtekfapemlafaeaaHBitsTellsx2
import Derived.Test.YtekfapemlafaeaaHBitsTellsx3
import Derived.Test.YtekfapemlafaeaaHBitsTellsx4
namespace Go.Proofs.Ytekfapemlafaeaa.HBitsTells
open Go.RowKit Go.Proofs.YtekfapemlafaeaaW.PrintWords Go.Proofs.YtekfapemlafaeaaW.PrintLast Go.Proofs.YtekfapemlafaeaaW.PrintMore
attribute [local go_sem] max2_int min2_int max_two min_two max_three min_three max_four min_four   -- for this text's walks alone
set_option linter.unusedVariables false
set_option linter.unusedSimpArgs false

end Go.Proofs.Ytekfapemlafaeaa.HBitsTells
