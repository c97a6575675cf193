-- written by a program of this session (wip/src/print2.py)
import Derived.Test.YtiiifeajcigigaaPFnDirsx0
import Derived.Test.YtiiifeajcigigaaPFnDirsx1
import Derived.Test.YtiiifeajcigigaaPFnDirsx2
import Derived.Test.YtiiifeajcigigaaPFnDirsx3
import Derived.Test.YtiiifeajcigigaaPFnDirsx4
import Derived.Test.YtiiifeajcigigaaPFnDirsx5
import Derived.Test.YtiiifeajcigigaaPFnDirsx6
import Derived.Test.YtiiifeajcigigaaPFnDirsx7
namespace Go.Proofs.Ytiiifeajcigigaa.PFnDirs
open Go.RowKit Go.Proofs.YtiiifeajcigigaaW.PrintWords Go.Proofs.YtiiifeajcigigaaW.PrintLast Go.Proofs.YtiiifeajcigigaaW.PrintMore
attribute [local go_sem] max2_int min2_int max_two min_two max_three min_three max_four min_four   -- for this text's walks alone
set_option linter.unusedVariables false
set_option linter.unusedSimpArgs false

end Go.Proofs.Ytiiifeajcigigaa.PFnDirs
