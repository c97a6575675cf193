-- written by a program of this session (wip/src/print2.py)
import Derived.Test.YtmaeofmmainmlaaPFnPiecesx0
import Derived.Test.YtmaeofmmainmlaaPFnPiecesx1
import Derived.Test.YtmaeofmmainmlaaPFnPiecesx2
import Derived.Test.YtmaeofmmainmlaaPFnPiecesx3
namespace Go.Proofs.Ytmaeofmmainmlaa.PFnPieces
open Go.RowKit Go.Proofs.YtmaeofmmainmlaaW.PrintWords Go.Proofs.YtmaeofmmainmlaaW.PrintLast Go.Proofs.YtmaeofmmainmlaaW.PrintMore
attribute [local go_sem] max2_int min2_int max_two min_two max_three min_three max_four min_four   -- for this text's walks alone
set_option linter.unusedVariables false
set_option linter.unusedSimpArgs false

end Go.Proofs.Ytmaeofmmainmlaa.PFnPieces
