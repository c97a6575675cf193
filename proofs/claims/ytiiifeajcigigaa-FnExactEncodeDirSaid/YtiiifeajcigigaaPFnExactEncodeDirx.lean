-- written by a program of this session (wip/src/print2.py)
import Derived.Test.YtiiifeajcigigaaPFnExactEncodeDirx0
import Derived.Test.YtiiifeajcigigaaPFnExactEncodeDirx1
import Derived.Test.YtiiifeajcigigaaPFnExactEncodeDirx2
import Derived.Test.YtiiifeajcigigaaPFnExactEncodeDirx3
import Derived.Test.YtiiifeajcigigaaPFnExactEncodeDirx4
import Derived.Test.YtiiifeajcigigaaPFnExactEncodeDirx5
import Derived.Test.YtiiifeajcigigaaPFnExactEncodeDirx6
namespace Go.Proofs.Ytiiifeajcigigaa.PFnExactEncodeDir
open Go.RowKit Go.Proofs.YtiiifeajcigigaaW.PrintWords Go.Proofs.YtiiifeajcigigaaW.PrintLast Go.Proofs.YtiiifeajcigigaaW.PrintMore
attribute [local go_sem] max2_int min2_int max_two min_two max_three min_three max_four min_four   -- for this text's walks alone
set_option linter.unusedVariables false
set_option linter.unusedSimpArgs false

end Go.Proofs.Ytiiifeajcigigaa.PFnExactEncodeDir
