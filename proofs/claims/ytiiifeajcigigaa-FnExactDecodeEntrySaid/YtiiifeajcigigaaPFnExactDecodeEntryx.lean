-- written by a program of this session (wip/src/print2.py)
import Derived.Test.YtiiifeajcigigaaPFnExactDecodeEntryx0
import Derived.Test.YtiiifeajcigigaaPFnExactDecodeEntryx1
import Derived.Test.YtiiifeajcigigaaPFnExactDecodeEntryx2
import Derived.Test.YtiiifeajcigigaaPFnExactDecodeEntryx3
import Derived.Test.YtiiifeajcigigaaPFnExactDecodeEntryx4
import Derived.Test.YtiiifeajcigigaaPFnExactDecodeEntryx5
import Derived.Test.YtiiifeajcigigaaPFnExactDecodeEntryx6
import Derived.Test.YtiiifeajcigigaaPFnExactDecodeEntryx7
namespace Go.Proofs.Ytiiifeajcigigaa.PFnExactDecodeEntry
open Go.RowKit Go.Proofs.YtiiifeajcigigaaW.PrintWords Go.Proofs.YtiiifeajcigigaaW.PrintLast Go.Proofs.YtiiifeajcigigaaW.PrintMore
attribute [local go_sem] max2_int min2_int max_two min_two max_three min_three max_four min_four   -- for this text's walks alone
set_option linter.unusedVariables false
set_option linter.unusedSimpArgs false

end Go.Proofs.Ytiiifeajcigigaa.PFnExactDecodeEntry
