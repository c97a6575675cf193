-- written by a program of this session (wip/src/print2.py)
import Derived.Test.YtdhjhadcadcceaaPFnExactDiskCrashx0
import Derived.Test.YtdhjhadcadcceaaPFnExactDiskCrashx1
import Derived.Test.YtdhjhadcadcceaaPFnExactDiskCrashx2
import Derived.Test.YtdhjhadcadcceaaPFnExactDiskCrashx3
import Derived.Test.YtdhjhadcadcceaaPFnExactDiskCrashx4
import Derived.Test.YtdhjhadcadcceaaPFnExactDiskCrashx5
import Derived.Test.YtdhjhadcadcceaaPFnExactDiskCrashx6
namespace Go.Proofs.Ytdhjhadcadcceaa.PFnExactDiskCrash
open Go.RowKit Go.Proofs.YtdhjhadcadcceaaW.PrintWords Go.Proofs.YtdhjhadcadcceaaW.PrintLast Go.Proofs.YtdhjhadcadcceaaW.PrintMore
attribute [local go_sem] max2_int min2_int max_two min_two max_three min_three max_four min_four   -- for this text's walks alone
set_option linter.unusedVariables false
set_option linter.unusedSimpArgs false

end Go.Proofs.Ytdhjhadcadcceaa.PFnExactDiskCrash
