-- written by a program of this session (wip/src/print2.py)
import Derived.Test.YtejomghgmdmebaaPFnExactValidTxnx0
import Derived.Test.YtejomghgmdmebaaPFnExactValidTxnx1
import Derived.Test.YtejomghgmdmebaaPFnExactValidTxnx2
import Derived.Test.YtejomghgmdmebaaPFnExactValidTxnx3
import Derived.Test.YtejomghgmdmebaaPFnExactValidTxnx4
import Derived.Test.YtejomghgmdmebaaPFnExactValidTxnx5
import Derived.Test.YtejomghgmdmebaaPFnExactValidTxnx6
namespace Go.Proofs.Ytejomghgmdmebaa.PFnExactValidTxn
open Go.RowKit Go.Proofs.YtejomghgmdmebaaW.PrintWords Go.Proofs.YtejomghgmdmebaaW.PrintLast Go.Proofs.YtejomghgmdmebaaW.PrintMore
attribute [local go_sem] max2_int min2_int max_two min_two max_three min_three max_four min_four   -- for this text's walks alone
set_option linter.unusedVariables false
set_option linter.unusedSimpArgs false

end Go.Proofs.Ytejomghgmdmebaa.PFnExactValidTxn
