-- written by a program of this session (wip/src/print2.py)
import Derived.Test.YtkehfdadplpaeaaPFnExactSurvivorsx0
import Derived.Test.YtkehfdadplpaeaaPFnExactSurvivorsx1
import Derived.Test.YtkehfdadplpaeaaPFnExactSurvivorsx2
import Derived.Test.YtkehfdadplpaeaaPFnExactSurvivorsx3
import Derived.Test.YtkehfdadplpaeaaPFnExactSurvivorsx4
import Derived.Test.YtkehfdadplpaeaaPFnExactSurvivorsx5
import Derived.Test.YtkehfdadplpaeaaPFnExactSurvivorsx6
import Derived.Test.YtkehfdadplpaeaaPFnExactSurvivorsx7
import Derived.Test.YtkehfdadplpaeaaPFnExactSurvivorsx8
namespace Go.Proofs.Ytkehfdadplpaeaa.PFnExactSurvivors
open Go.RowKit Go.Proofs.YtkehfdadplpaeaaW.PrintWords Go.Proofs.YtkehfdadplpaeaaW.PrintLast Go.Proofs.YtkehfdadplpaeaaW.PrintMore
attribute [local go_sem] max2_int min2_int max_two min_two max_three min_three max_four min_four   -- for this text's walks alone
set_option linter.unusedVariables false
set_option linter.unusedSimpArgs false

end Go.Proofs.Ytkehfdadplpaeaa.PFnExactSurvivors
