-- written by a program of this session (wip/src/print2.py)
import Derived.Test.YtdhjhadcadcceaaPFnExactDiskDox0
import Derived.Test.YtdhjhadcadcceaaPFnExactDiskDox1
import Derived.Test.YtdhjhadcadcceaaPFnExactDiskDox2
import Derived.Test.YtdhjhadcadcceaaPFnExactDiskDox3
import Derived.Test.YtdhjhadcadcceaaPFnExactDiskDox4
import Derived.Test.YtdhjhadcadcceaaPFnExactDiskDox5
import Derived.Test.YtdhjhadcadcceaaPFnExactDiskDox6
import Derived.Test.YtdhjhadcadcceaaPFnExactDiskDox7
import Derived.Test.YtdhjhadcadcceaaPFnExactDiskDox8
import Derived.Test.YtdhjhadcadcceaaPFnExactDiskDox9
import Derived.Test.YtdhjhadcadcceaaPFnExactDiskDox10
import Derived.Test.YtdhjhadcadcceaaPFnExactDiskDox11
namespace Go.Proofs.Ytdhjhadcadcceaa.PFnExactDiskDo
open Go.RowKit Go.Proofs.YtdhjhadcadcceaaW.PrintWords Go.Proofs.YtdhjhadcadcceaaW.PrintLast Go.Proofs.YtdhjhadcadcceaaW.PrintMore
attribute [local go_sem] max2_int min2_int max_two min_two max_three min_three max_four min_four   -- for this text's walks alone
set_option linter.unusedVariables false
set_option linter.unusedSimpArgs false

end Go.Proofs.Ytdhjhadcadcceaa.PFnExactDiskDo
