import Derived.Test.YtkehfdadplpaeaaDoorVPLHlp
/- Loops over lists of anything: sizes, comparing. -/
namespace Go.Proofs.YtkehfdadplpaeaaDoor.Hlp
open Go.RowKit Go.Proofs.YtkehfdadplpaeaaDoorW.PrintWords Go.Proofs.YtkehfdadplpaeaaDoorW.PrintMore

end Go.Proofs.YtkehfdadplpaeaaDoor.Hlp
