-- written by a program of this session (wip/src/print2.py)
import Derived.Test.YtdhjhadcadcceaaPFnExactDiskWritex0
import Derived.Test.YtdhjhadcadcceaaPFnExactDiskWritex1
import Derived.Test.YtdhjhadcadcceaaPFnExactDiskWritex2
import Derived.Test.YtdhjhadcadcceaaPFnExactDiskWritex3
import Derived.Test.YtdhjhadcadcceaaPFnExactDiskWritex4
import Derived.Test.YtdhjhadcadcceaaPFnExactDiskWritex5
import Derived.Test.YtdhjhadcadcceaaPFnExactDiskWritex6
import Derived.Test.YtdhjhadcadcceaaPFnExactDiskWritex7
namespace Go.Proofs.Ytdhjhadcadcceaa.PFnExactDiskWrite
open Go.RowKit Go.Proofs.YtdhjhadcadcceaaW.PrintWords Go.Proofs.YtdhjhadcadcceaaW.PrintLast Go.Proofs.YtdhjhadcadcceaaW.PrintMore
attribute [local go_sem] max2_int min2_int max_two min_two max_three min_three max_four min_four   -- for this text's walks alone
set_option linter.unusedVariables false
set_option linter.unusedSimpArgs false

end Go.Proofs.Ytdhjhadcadcceaa.PFnExactDiskWrite
