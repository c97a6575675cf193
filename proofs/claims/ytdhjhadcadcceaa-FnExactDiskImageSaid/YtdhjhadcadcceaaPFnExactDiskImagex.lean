-- written by a program of this session (wip/src/print2.py)
import Derived.Test.YtdhjhadcadcceaaPFnExactDiskImagex0
import Derived.Test.YtdhjhadcadcceaaPFnExactDiskImagex1
import Derived.Test.YtdhjhadcadcceaaPFnExactDiskImagex2
import Derived.Test.YtdhjhadcadcceaaPFnExactDiskImagex3
import Derived.Test.YtdhjhadcadcceaaPFnExactDiskImagex4
import Derived.Test.YtdhjhadcadcceaaPFnExactDiskImagex5
namespace Go.Proofs.Ytdhjhadcadcceaa.PFnExactDiskImage
open Go.RowKit Go.Proofs.YtdhjhadcadcceaaW.PrintWords Go.Proofs.YtdhjhadcadcceaaW.PrintLast Go.Proofs.YtdhjhadcadcceaaW.PrintMore
attribute [local go_sem] max2_int min2_int max_two min_two max_three min_three max_four min_four   -- for this text's walks alone
set_option linter.unusedVariables false
set_option linter.unusedSimpArgs false

end Go.Proofs.Ytdhjhadcadcceaa.PFnExactDiskImage
