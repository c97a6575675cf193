/- What the rows' condition gives: the map impl.shapes and internal/bytealg.MaxLen; a world that meets the condition; the map reads as before behind a call that writes none of it. -/
import Derived.Test.YtkehfdadplpaeaaDoorRows
import Derived.Test.YtkehfdadplpaeaaDoorVPLShp
import Derived.ChangeVars
import Derived.Lay
import Derived.LaidLaws
import Derived.LaidMore
import Derived.Lib.LaidU8
import Derived.Stop.Joined
import Derived.ProofKit
namespace Go.Proofs.YtkehfdadplpaeaaDoor.Shl
open Go.ChangeShapes Go.WideShapes Go.ChangeAt Go.WideMaps Go.WideElems Go.RowKit
abbrev laid : List (String × DataW Unit) := Rows.fnExactParseLineRow.laid
abbrev nm : String := "loop.example/s01525/impl.shapes"
theorem gS : Tryd.prog.globalNamed nm = some 0 := by kernel_rfl
theorem tS : (Tryd.prog.globals[0]?).map (·.type) = some 75 := by kernel_rfl
theorem dataIs : (Rows.laid_loop_example_s01525_impl_shapes : DataW Unit) = Shp.data := by kernel_rfl
abbrev rest : List (String × DataW Unit) := laid.filter fun x => x.1 != nm
def entries : Array MapEntry := (Shp.words.zipIdx.map fun x => { key := .string ⟨x.1.1.toArray⟩, val := .agg #[.int .i64 x.1.2.1, .string ⟨x.1.2.2.toArray⟩], born := x.2 }).toArray
/-- A world in which the variables are laid. -/
noncomputable def laidWorld (os : Os) : World :=
  let w1 := World.laidAll Tryd.prog os rest
  { w1 with heap := (w1.heap.push (.map entries 26)).modify 0 fun
      | .cells _ t fr => .cells #[.map (some w1.heap.size)] t fr
      | o => o }
theorem door_met (os : Os) (args : Array Value) : laidMetH Tryd.prog laid ((laidWorld os).forCall (fun _ _ => 0) ⟨#[], args, []⟩).memory :=
  laidMetH_of_parts3 (fuel := 8) (laidMet_of_run' 8 (by kernel_rfl) (by kernel_rfl)) (by kernel_rfl) (by kernel_rfl)
set_option maxRecDepth 100000 in
theorem globS_of_laid {W : World} (h : laidMetH Tryd.prog laid W) (hm : ∃ m : Int, W.cell? ⟨1, 0, none⟩ = some (.int .i64 m)) : Shp.GlobS W ∧ ∃ bm, W.var? Tryd.prog nm = some #[.map (some bm)] := by
  rw [MakeChecks.laidMetH_plain _ _ _ (by kernel_rfl)] at h
  have hmem : (nm, (Rows.laid_loop_example_s01525_impl_shapes : DataW Unit)) ∈ laid := .tail _ (.tail _ (.tail _ (.tail _ (.tail _ (.tail _ (.head _))))))
  obtain ⟨g, t, cs, fuel, p, hg, ht, hv, hd⟩ := Lib.laidMet.reads h hmem
  obtain rfl := Option.some.inj (gS.symm.trans hg)
  obtain rfl := Option.some.inj (tS.symm.trans ht)
  rcases open_map Tryd.underlying75 hd with ⟨_, hx⟩ | ⟨bm, es, clock, m, rfl, hcs, hb, _, F, hx⟩
  · simp only [Prod.mk.injEq, dataIs, Shp.data] at hx
    cases hx.1
  simp only [Prod.mk.injEq] at hx
  have e : cs = #[.map (some bm)] := Array.eq_one_of_toList hcs
  subst e
  have hcell : W.cell? ⟨0, 0, none⟩ = some (.map (some bm)) := by simpa using World.var?_cell hg hv 0
  exact ⟨⟨hm, bm, es, clock, hcell, hb, fun W' hb' s hs => Shp.looks F (hx.1.symm.trans dataIs) W' hb' s hs⟩, bm, hv⟩
theorem var_below {n : String} {cs : Array Value} {W W' : World} (hb : Below W.heap.size W W') (h : W.var? Tryd.prog n = some cs) : W'.var? Tryd.prog n = some cs := by
  simp only [World.var?] at h ⊢
  cases hg : Tryd.prog.globalNamed n with
  | none => rw [hg] at h; cases h
  | some g =>
    rw [hg] at h
    simp only [Option.bind_some] at h ⊢
    cases ho : W.heap[g]? with
    | none => rw [ho] at h; cases h
    | some o => rw [hb.block g (Array.getElem?_eq_some_iff.1 ho).1, ho]; rw [ho] at h; exact h
end Go.Proofs.YtkehfdadplpaeaaDoor.Shl
