import Derived.Test.YtejomghgmdmebaaVTLWInv
import Derived.Test.YtejomghgmdmebaaVTLWFootNe
namespace Go.Proofs.YtejomghgmdmebaaW.PrintWords
open Go.RowKit
end Go.Proofs.YtejomghgmdmebaaW.PrintWords
namespace Go.Proofs.YtejomghgmdmebaaW.PrintLast
section
variable {ops : Array Oper} {a : Act} {o og : Oper} {g : Nat} {t : Tmp} {u : Bool}
end
end Go.Proofs.YtejomghgmdmebaaW.PrintLast
