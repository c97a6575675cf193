-- written by a program of this session (wip/src/print2.py)
import Derived.Test.YtejomghgmdmebaaPFnExactRevokedx0
import Derived.Test.YtejomghgmdmebaaPFnExactRevokedx1
import Derived.Test.YtejomghgmdmebaaPFnExactRevokedx2
import Derived.Test.YtejomghgmdmebaaPFnExactRevokedx3
import Derived.Test.YtejomghgmdmebaaPFnExactRevokedx4
import Derived.Test.YtejomghgmdmebaaPFnExactRevokedx5
namespace Go.Proofs.Ytejomghgmdmebaa.PFnExactRevoked
open Go.RowKit Go.Proofs.YtejomghgmdmebaaW.PrintWords Go.Proofs.YtejomghgmdmebaaW.PrintLast Go.Proofs.YtejomghgmdmebaaW.PrintMore
attribute [local go_sem] max2_int min2_int max_two min_two max_three min_three max_four min_four   -- for this text's walks alone
set_option linter.unusedVariables false
set_option linter.unusedSimpArgs false

end Go.Proofs.Ytejomghgmdmebaa.PFnExactRevoked
