import Derived.Test.YtkehfdadplpaeaaDoorVPLWInv
import Derived.Test.YtkehfdadplpaeaaDoorVPLWFootNe
namespace Go.Proofs.YtkehfdadplpaeaaDoorW.PrintWords
open Go.RowKit
end Go.Proofs.YtkehfdadplpaeaaDoorW.PrintWords
namespace Go.Proofs.YtkehfdadplpaeaaDoorW.PrintLast
section
variable {ops : Array Oper} {a : Act} {o og : Oper} {g : Nat} {t : Tmp} {u : Bool}
end
end Go.Proofs.YtkehfdadplpaeaaDoorW.PrintLast
