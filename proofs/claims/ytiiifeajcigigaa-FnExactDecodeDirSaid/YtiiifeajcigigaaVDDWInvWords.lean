import Derived.Test.YtiiifeajcigigaaVDDWInv
import Derived.Test.YtiiifeajcigigaaVDDWFootNe
namespace Go.Proofs.YtiiifeajcigigaaW.PrintWords
open Go.RowKit
end Go.Proofs.YtiiifeajcigigaaW.PrintWords
namespace Go.Proofs.YtiiifeajcigigaaW.PrintLast
section
variable {ops : Array Oper} {a : Act} {o og : Oper} {g : Nat} {t : Tmp} {u : Bool}
end
end Go.Proofs.YtiiifeajcigigaaW.PrintLast
