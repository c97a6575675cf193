-- written by a program of this session (wip/src/print2.py)
import Derived.Test.YtdkjidnagkcenaaPFnExactValidLogx0
import Derived.Test.YtdkjidnagkcenaaPFnExactValidLogx1
namespace Go.Proofs.Ytdkjidnagkcenaa.PFnExactValidLog
open Go.RowKit Go.Proofs.YtdkjidnagkcenaaW.PrintWords Go.Proofs.YtdkjidnagkcenaaW.PrintLast Go.Proofs.YtdkjidnagkcenaaW.PrintMore
attribute [local go_sem] max2_int min2_int max_two min_two max_three min_three max_four min_four   -- for this text's walks alone
set_option linter.unusedVariables false
set_option linter.unusedSimpArgs false

end Go.Proofs.Ytdkjidnagkcenaa.PFnExactValidLog
