-- written by a program of this session (wip/src/print2.py)
import Derived.Test.YtdhjhadcadcceaaPFnDiskx0
import Derived.Test.YtdhjhadcadcceaaPFnDiskx1
import Derived.Test.YtdhjhadcadcceaaPFnDiskx2
import Derived.Test.YtdhjhadcadcceaaPFnDiskx3
import Derived.Test.YtdhjhadcadcceaaPFnDiskx4
import Derived.Test.YtdhjhadcadcceaaPFnDiskx5
import Derived.Test.YtdhjhadcadcceaaPFnDiskx6
import Derived.Test.YtdhjhadcadcceaaPFnDiskx7
import Derived.Test.YtdhjhadcadcceaaPFnDiskx8
import Derived.Test.YtdhjhadcadcceaaPFnDiskx9
import Derived.Test.YtdhjhadcadcceaaPFnDiskx10
import Derived.Test.YtdhjhadcadcceaaPFnDiskx11
import Derived.Test.YtdhjhadcadcceaaPFnDiskx12
import Derived.Test.YtdhjhadcadcceaaPFnDiskx13
namespace Go.Proofs.Ytdhjhadcadcceaa.PFnDisk
open Go.RowKit Go.Proofs.YtdhjhadcadcceaaW.PrintWords Go.Proofs.YtdhjhadcadcceaaW.PrintLast Go.Proofs.YtdhjhadcadcceaaW.PrintMore
attribute [local go_sem] max2_int min2_int max_two min_two max_three min_three max_four min_four   -- for this text's walks alone
set_option linter.unusedVariables false
set_option linter.unusedSimpArgs false

end Go.Proofs.Ytdhjhadcadcceaa.PFnDisk
