-- written by a program of this session (wip/src/print2.py)
import Derived.Test.YtejomghgmdmebaaPFnExactTxnLengthx0
import Derived.Test.YtejomghgmdmebaaPFnExactTxnLengthx1
import Derived.Test.YtejomghgmdmebaaPFnExactTxnLengthx2
import Derived.Test.YtejomghgmdmebaaPFnExactTxnLengthx3
import Derived.Test.YtejomghgmdmebaaPFnExactTxnLengthx4
import Derived.Test.YtejomghgmdmebaaPFnExactTxnLengthx5
import Derived.Test.YtejomghgmdmebaaPFnExactTxnLengthx6
import Derived.Test.YtejomghgmdmebaaPFnExactTxnLengthx7
import Derived.Test.YtejomghgmdmebaaPFnExactTxnLengthx8
import Derived.Test.YtejomghgmdmebaaPFnExactTxnLengthx9
import Derived.Test.YtejomghgmdmebaaPFnExactTxnLengthx10
namespace Go.Proofs.Ytejomghgmdmebaa.PFnExactTxnLength
open Go.RowKit Go.Proofs.YtejomghgmdmebaaW.PrintWords Go.Proofs.YtejomghgmdmebaaW.PrintLast Go.Proofs.YtejomghgmdmebaaW.PrintMore
attribute [local go_sem] max2_int min2_int max_two min_two max_three min_three max_four min_four   -- for this text's walks alone
set_option linter.unusedVariables false
set_option linter.unusedSimpArgs false

end Go.Proofs.Ytejomghgmdmebaa.PFnExactTxnLength
