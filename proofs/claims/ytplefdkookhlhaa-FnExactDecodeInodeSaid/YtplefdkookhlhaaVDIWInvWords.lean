import Derived.Test.YtplefdkookhlhaaVDIWInv
import Derived.Test.YtplefdkookhlhaaVDIWFootNe
namespace Go.Proofs.YtplefdkookhlhaaW.PrintWords
open Go.RowKit
end Go.Proofs.YtplefdkookhlhaaW.PrintWords
namespace Go.Proofs.YtplefdkookhlhaaW.PrintLast
section
variable {ops : Array Oper} {a : Act} {o og : Oper} {g : Nat} {t : Tmp} {u : Bool}
end
end Go.Proofs.YtplefdkookhlhaaW.PrintLast
