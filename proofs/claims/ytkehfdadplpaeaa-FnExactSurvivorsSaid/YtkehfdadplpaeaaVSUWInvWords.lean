import Derived.Test.YtkehfdadplpaeaaVSUWInv
import Derived.Test.YtkehfdadplpaeaaVSUWFootNe
namespace Go.Proofs.YtkehfdadplpaeaaW.PrintWords
open Go.RowKit
end Go.Proofs.YtkehfdadplpaeaaW.PrintWords
namespace Go.Proofs.YtkehfdadplpaeaaW.PrintLast
section
variable {ops : Array Oper} {a : Act} {o og : Oper} {g : Nat} {t : Tmp} {u : Bool}
end
end Go.Proofs.YtkehfdadplpaeaaW.PrintLast
