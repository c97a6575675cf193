-- written by a program of this session (wip/src/print2.py)
import Derived.Test.YtplefdkookhlhaaPFnExactDecodePointersx0
import Derived.Test.YtplefdkookhlhaaPFnExactDecodePointersx1
import Derived.Test.YtplefdkookhlhaaPFnExactDecodePointersx2
import Derived.Test.YtplefdkookhlhaaPFnExactDecodePointersx3
import Derived.Test.YtplefdkookhlhaaPFnExactDecodePointersx4
namespace Go.Proofs.Ytplefdkookhlhaa.PFnExactDecodePointers
open Go.RowKit Go.Proofs.YtplefdkookhlhaaW.PrintWords Go.Proofs.YtplefdkookhlhaaW.PrintLast Go.Proofs.YtplefdkookhlhaaW.PrintMore
attribute [local go_sem] max2_int min2_int max_two min_two max_three min_three max_four min_four   -- for this text's walks alone
set_option linter.unusedVariables false
set_option linter.unusedSimpArgs false

end Go.Proofs.Ytplefdkookhlhaa.PFnExactDecodePointers
