-- written by a program of this session (wip/src/print2.py)
import Derived.Test.YtplefdkookhlhaaPFnExactValidInodex0
import Derived.Test.YtplefdkookhlhaaPFnExactValidInodex1
import Derived.Test.YtplefdkookhlhaaPFnExactValidInodex2
import Derived.Test.YtplefdkookhlhaaPFnExactValidInodex3
import Derived.Test.YtplefdkookhlhaaPFnExactValidInodex4
import Derived.Test.YtplefdkookhlhaaPFnExactValidInodex5
namespace Go.Proofs.Ytplefdkookhlhaa.PFnExactValidInode
open Go.RowKit Go.Proofs.YtplefdkookhlhaaW.PrintWords Go.Proofs.YtplefdkookhlhaaW.PrintLast Go.Proofs.YtplefdkookhlhaaW.PrintMore
attribute [local go_sem] max2_int min2_int max_two min_two max_three min_three max_four min_four   -- for this text's walks alone
set_option linter.unusedVariables false
set_option linter.unusedSimpArgs false

end Go.Proofs.Ytplefdkookhlhaa.PFnExactValidInode
