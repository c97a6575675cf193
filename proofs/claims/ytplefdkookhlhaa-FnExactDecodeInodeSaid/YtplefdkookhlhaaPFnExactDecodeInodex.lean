-- written by a program of this session (wip/src/print2.py)
import Derived.Test.YtplefdkookhlhaaPFnExactDecodeInodex0
import Derived.Test.YtplefdkookhlhaaPFnExactDecodeInodex1
import Derived.Test.YtplefdkookhlhaaPFnExactDecodeInodex2
import Derived.Test.YtplefdkookhlhaaPFnExactDecodeInodex3
import Derived.Test.YtplefdkookhlhaaPFnExactDecodeInodex4
import Derived.Test.YtplefdkookhlhaaPFnExactDecodeInodex5
import Derived.Test.YtplefdkookhlhaaPFnExactDecodeInodex6
import Derived.Test.YtplefdkookhlhaaPFnExactDecodeInodex7
import Derived.Test.YtplefdkookhlhaaPFnExactDecodeInodex8
import Derived.Test.YtplefdkookhlhaaPFnExactDecodeInodex9
import Derived.Test.YtplefdkookhlhaaPFnExactDecodeInodex10
import Derived.Test.YtplefdkookhlhaaPFnExactDecodeInodex11
namespace Go.Proofs.Ytplefdkookhlhaa.PFnExactDecodeInode
open Go.RowKit Go.Proofs.YtplefdkookhlhaaW.PrintWords Go.Proofs.YtplefdkookhlhaaW.PrintLast Go.Proofs.YtplefdkookhlhaaW.PrintMore
attribute [local go_sem] max2_int min2_int max_two min_two max_three min_three max_four min_four   -- for this text's walks alone
set_option linter.unusedVariables false
set_option linter.unusedSimpArgs false

end Go.Proofs.Ytplefdkookhlhaa.PFnExactDecodeInode
