import Derived.Test.YtdhjhadcadcceaaVFDWInv
import Derived.Test.YtdhjhadcadcceaaVFDWFootNe
namespace Go.Proofs.YtdhjhadcadcceaaW.PrintWords
open Go.RowKit
end Go.Proofs.YtdhjhadcadcceaaW.PrintWords
namespace Go.Proofs.YtdhjhadcadcceaaW.PrintLast
section
variable {ops : Array Oper} {a : Act} {o og : Oper} {g : Nat} {t : Tmp} {u : Bool}
end
end Go.Proofs.YtdhjhadcadcceaaW.PrintLast
