import Derived.Test.YtplefdkookhlhaaVDIWWords
import Derived.Test.YtplefdkookhlhaaVDIWMore
/- A store of several cells at once into a variable in memory, as one event: the block's cells are told, the world is a letter. -/
namespace Go.Proofs.Ytplefdkookhlhaa.Box
open Go.RowKit Go.Proofs.YtplefdkookhlhaaW.PrintWords

section
variable {P : Program} {ops : Array Oper} {rest : List Oper} {o : Oper} {a : Act} {Q : Exit → Act → World → Prop}
end
end Go.Proofs.Ytplefdkookhlhaa.Box
