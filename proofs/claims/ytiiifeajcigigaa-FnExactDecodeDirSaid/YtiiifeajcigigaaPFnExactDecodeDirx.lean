-- written by a program of this session (wip/src/print2.py)
import Derived.Test.YtiiifeajcigigaaPFnExactDecodeDirx0
import Derived.Test.YtiiifeajcigigaaPFnExactDecodeDirx1
import Derived.Test.YtiiifeajcigigaaPFnExactDecodeDirx2
import Derived.Test.YtiiifeajcigigaaPFnExactDecodeDirx3
import Derived.Test.YtiiifeajcigigaaPFnExactDecodeDirx4
import Derived.Test.YtiiifeajcigigaaPFnExactDecodeDirx5
import Derived.Test.YtiiifeajcigigaaPFnExactDecodeDirx6
import Derived.Test.YtiiifeajcigigaaPFnExactDecodeDirx7
import Derived.Test.YtiiifeajcigigaaPFnExactDecodeDirx8
import Derived.Test.YtiiifeajcigigaaPFnExactDecodeDirx9
import Derived.Test.YtiiifeajcigigaaPFnExactDecodeDirx10
namespace Go.Proofs.Ytiiifeajcigigaa.PFnExactDecodeDir
open Go.RowKit Go.Proofs.YtiiifeajcigigaaW.PrintWords Go.Proofs.YtiiifeajcigigaaW.PrintLast Go.Proofs.YtiiifeajcigigaaW.PrintMore
attribute [local go_sem] max2_int min2_int max_two min_two max_three min_three max_four min_four   -- for this text's walks alone
set_option linter.unusedVariables false
set_option linter.unusedSimpArgs false

end Go.Proofs.Ytiiifeajcigigaa.PFnExactDecodeDir
