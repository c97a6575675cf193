-- written by a program of this session (wip/src/print2.py)
import Derived.Test.YtmlahbgogbjfpaaDoorPFnExactDecodeCommitx0
import Derived.Test.YtmlahbgogbjfpaaDoorPFnExactDecodeCommitx1
import Derived.Test.YtmlahbgogbjfpaaDoorPFnExactDecodeCommitx2
import Derived.Test.YtmlahbgogbjfpaaDoorPFnExactDecodeCommitx3
import Derived.Test.YtmlahbgogbjfpaaDoorPFnExactDecodeCommitx4
import Derived.Test.YtmlahbgogbjfpaaDoorPFnExactDecodeCommitx5
import Derived.Test.YtmlahbgogbjfpaaDoorPFnExactDecodeCommitx6
import Derived.Test.YtmlahbgogbjfpaaDoorPFnExactDecodeCommitx7
namespace Go.Proofs.YtmlahbgogbjfpaaDoor.PFnExactDecodeCommit
open Go.RowKit Go.Proofs.YtmlahbgogbjfpaaDoorW.PrintWords Go.Proofs.YtmlahbgogbjfpaaDoorW.PrintLast Go.Proofs.YtmlahbgogbjfpaaDoorW.PrintMore
attribute [local go_sem] max2_int min2_int max_two min_two max_three min_three max_four min_four   -- for this text's walks alone
set_option linter.unusedVariables false
set_option linter.unusedSimpArgs false

end Go.Proofs.YtmlahbgogbjfpaaDoor.PFnExactDecodeCommit
