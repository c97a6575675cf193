-- written by a program of this session (wip/src/print2.py)
import Derived.Test.YtdkjidnagkcenaaPFnExactLogTailx0
import Derived.Test.YtdkjidnagkcenaaPFnExactLogTailx1
import Derived.Test.YtdkjidnagkcenaaPFnExactLogTailx2
namespace Go.Proofs.Ytdkjidnagkcenaa.PFnExactLogTail
open Go.RowKit Go.Proofs.YtdkjidnagkcenaaW.PrintWords Go.Proofs.YtdkjidnagkcenaaW.PrintLast Go.Proofs.YtdkjidnagkcenaaW.PrintMore
attribute [local go_sem] max2_int min2_int max_two min_two max_three min_three max_four min_four   -- for this text's walks alone
set_option linter.unusedVariables false
set_option linter.unusedSimpArgs false

end Go.Proofs.Ytdkjidnagkcenaa.PFnExactLogTail
