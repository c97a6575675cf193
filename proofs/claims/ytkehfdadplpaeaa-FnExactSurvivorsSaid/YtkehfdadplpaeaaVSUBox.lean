import Derived.Test.YtkehfdadplpaeaaVSUWWords
import Derived.Test.YtkehfdadplpaeaaVSUWMore
/- A store of several cells at once into a variable in memory, as one event: the block's cells are told, the world is a letter. -/
namespace Go.Proofs.Ytkehfdadplpaeaa.Box
open Go.RowKit Go.Proofs.YtkehfdadplpaeaaW.PrintWords

theorem grown_setCells (W : World) (g o : Nat) (seg : List Value) : W.grownBy (W.setCells g o seg) (some g) :=
  have h := setCells_same g seg o W
  ⟨h.1, h.2.1, h.2.2.1, by rw [h.2.2.2]; exact Nat.le_refl _, fun k _ hk => setCells_far seg o k (fun e => hk (by rw [e]))⟩
section
variable {P : Program} {ops : Array Oper} {rest : List Oper} {o : Oper} {a : Act} {Q : Exit → Act → World → Prop}
theorem store_cells {W : World} (hgd : o.guard = none) (t : TypeId) (p x : Operand) (ho : o.op = .store t p x) (hN : o.dst = none) (g off : Nat) (haddr : a.eval p = .pointer (some ⟨g, off, none⟩)) (u : Value) (hx : a.eval x = u) (seg : List Value) (hu : u.cells.toList = seg)
    (ht : (P.info? t).map (·.size) = some seg.length) (h1 : ∀ q ∈ seg, q.oneCell' = true) (cur cur' : Array Value) (e : TypeId) (hh : W.heap[g]? = some (.cells cur e (0, 0))) (hfit : off + seg.length ≤ cur.size) (hc : (cur.toList.take off ++ seg ++ cur.toList.drop (off + seg.length)).toArray = cur')
    (h : ∀ w1, w1.heap[g]? = some (.cells cur' e (0, 0)) → W.grownBy w1 (some g) → wpList P ops Q rest a w1) : wpList P ops Q (o :: rest) a W := by
  have hrun := run_store_run (P := P) t u seg hh hu ht hfit h1
  obtain ⟨cur2, hrow, _, hl2⟩ := setCells_row seg off W cur hh hfit
  obtain rfl : cur2 = cur' := by apply Array.ext'; rw [hl2, ← hc]
  refine wpList_plain hgd fun K hK => ?_
  unfold Oper.wp execOp
  simp only [ho, haddr, hx, Sem.run_bind, Sem.run_pure, Result.andThen_ok, hrun]
  show K (a.put o.dst undef) _
  rw [hN]
  exact hK a _ (h _ hrow (grown_setCells _ _ _ _))
/-- The load of a whole variable in memory. -/
theorem below_grown {w W w1 : World} {g : Nat} (h : Below w.heap.size w W) (hg : W.grownBy w1 (some g)) (hw : w.heap.size ≤ g) : Below w.heap.size w w1 :=
  h.grown hg h.size (fun k hk => by cases hk; exact hw)
end
end Go.Proofs.Ytkehfdadplpaeaa.Box
