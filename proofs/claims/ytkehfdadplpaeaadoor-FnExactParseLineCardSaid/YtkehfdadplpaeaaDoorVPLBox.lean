import Derived.Test.YtkehfdadplpaeaaDoorVPLWWords
import Derived.Test.YtkehfdadplpaeaaDoorVPLWMore
/- A store of several cells at once into a variable in memory, as one event: the block's cells are told, the world is a letter. -/
namespace Go.Proofs.YtkehfdadplpaeaaDoor.Box
open Go.RowKit Go.Proofs.YtkehfdadplpaeaaDoorW.PrintWords

section
variable {P : Program} {ops : Array Oper} {rest : List Oper} {o : Oper} {a : Act} {Q : Exit → Act → World → Prop}
/-- The load of a whole variable in memory. -/
theorem below_grown {w W w1 : World} {g : Nat} (h : Below w.heap.size w W) (hg : W.grownBy w1 (some g)) (hw : w.heap.size ≤ g) : Below w.heap.size w w1 :=
  h.grown hg h.size (fun k hk => by cases hk; exact hw)
end
end Go.Proofs.YtkehfdadplpaeaaDoor.Box
