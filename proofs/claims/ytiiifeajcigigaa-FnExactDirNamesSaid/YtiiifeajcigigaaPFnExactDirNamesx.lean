-- written by a program of this session (wip/src/print2.py)
import Derived.Test.YtiiifeajcigigaaPFnExactDirNamesx0
import Derived.Test.YtiiifeajcigigaaPFnExactDirNamesx1
import Derived.Test.YtiiifeajcigigaaPFnExactDirNamesx2
import Derived.Test.YtiiifeajcigigaaPFnExactDirNamesx3
import Derived.Test.YtiiifeajcigigaaPFnExactDirNamesx4
namespace Go.Proofs.Ytiiifeajcigigaa.PFnExactDirNames
open Go.RowKit Go.Proofs.YtiiifeajcigigaaW.PrintWords Go.Proofs.YtiiifeajcigigaaW.PrintLast Go.Proofs.YtiiifeajcigigaaW.PrintMore
attribute [local go_sem] max2_int min2_int max_two min_two max_three min_three max_four min_four   -- for this text's walks alone
set_option linter.unusedVariables false
set_option linter.unusedSimpArgs false

end Go.Proofs.Ytiiifeajcigigaa.PFnExactDirNames
