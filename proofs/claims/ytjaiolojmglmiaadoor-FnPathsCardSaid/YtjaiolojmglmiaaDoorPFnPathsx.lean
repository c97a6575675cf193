-- written by a program of this session (wip/src/print2.py)
import Derived.Test.YtjaiolojmglmiaaDoorPFnPathsx0
import Derived.Test.YtjaiolojmglmiaaDoorPFnPathsx1
import Derived.Test.YtjaiolojmglmiaaDoorPFnPathsx2
import Derived.Test.YtjaiolojmglmiaaDoorPFnPathsx3
import Derived.Test.YtjaiolojmglmiaaDoorPFnPathsx4
import Derived.Test.YtjaiolojmglmiaaDoorPFnPathsx5
namespace Go.Proofs.YtjaiolojmglmiaaDoor.PFnPaths
open Go.RowKit Go.Proofs.YtjaiolojmglmiaaDoorW.PrintWords Go.Proofs.YtjaiolojmglmiaaDoorW.PrintLast Go.Proofs.YtjaiolojmglmiaaDoorW.PrintMore
attribute [local go_sem] max2_int min2_int max_two min_two max_three min_three max_four min_four   -- for this text's walks alone
set_option linter.unusedVariables false
set_option linter.unusedSimpArgs false

end Go.Proofs.YtjaiolojmglmiaaDoor.PFnPaths
