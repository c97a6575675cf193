/- What the Decode rows' condition gives: the two variables' cells; a world that meets it; errForm reads as before behind a call that writes none of it. -/
import Derived.Test.YtmlahbgogbjfpaaDoorRows
import Derived.Test.YtmlahbgogbjfpaaDoorErh
import Derived.ChangeVars
import Derived.LaidLaws
import Derived.LaidHandle
import Derived.Stop.LaidErr
import Derived.Stop.Joined
import Derived.ProofKit
namespace Go.Proofs.YtmlahbgogbjfpaaDoor.Erl
open Go.ChangeShapes Go.WideShapes Go.RowKit
abbrev laid : List (String × DataW Unit) := [("errors.errorType", Rows.laid_errors_errorType), ("loop.example/s01525/impl.errForm", Rows.laid_loop_example_s01525_impl_errForm)]
theorem gT : Tryd.prog.globalNamed "errors.errorType" = some 1 := by kernel_rfl
theorem gF : Tryd.prog.globalNamed "loop.example/s01525/impl.errForm" = some 0 := by kernel_rfl
theorem tF : (Tryd.prog.globals[0]?).map (·.type) = some 56 := by kernel_rfl
theorem rt : (Tryd.prog.cutTypes.find? (·.1 == "internal/reflectlite.rtype")).map (·.2) = some 108 := by kernel_rfl
theorem oneRow : ((List.range 156).filter fun t => Tryd.prog.rowNamed t [101, 114, 114, 111, 114]) = [56] := by kernel_rfl
theorem tsize : Tryd.prog.types.size = 156 := by kernel_rfl
theorem star : "*" ++ "errors.errorString" = "*errors.errorString" := by decide
theorem row122 (u : TypeId) (h : Tryd.prog.typeName? 3 u = some "*errors.errorString") : u = 122 :=
  typeName_ptr_named (nm := "errors.errorString") (by rw [star]; kernel_rfl) (by kernel_rfl) (by decide) u (by rw [star]; exact h)
theorem cells144 : Tryd.prog.cellsOf 144 = 1 := by kernel_rfl
theorem cells9 : Tryd.prog.cellsOf 9 = 1 := by kernel_rfl
theorem globE_of_laid {W : World} (h : laidMetH Tryd.prog laid W) : ∃ b, Erh.GlobE b W ∧ W.var? Tryd.prog "loop.example/s01525/impl.errForm" = some #[.iface 122 (.pointer (some b))] := by
  have h' : laidMet Tryd.prog [("loop.example/s01525/impl.errForm", Rows.laid_loop_example_s01525_impl_errForm)] W ∧ handlesMet Tryd.prog [("errors.errorType", Rows.laid_errors_errorType)] W := h
  obtain ⟨a, s, hv, _⟩ := laid_sentinel h'.1 gF tF Tryd.underlying56 row122 Tryd.underlying122 Tryd.underlying144 rfl rfl Tryd.underlying9 cells144 cells9
  obtain ⟨name, u, ty, e1, e2, e3, e4, e5⟩ := h'.2 _ (List.mem_singleton.2 rfl)
  have en : name = [101, 114, 114, 111, 114] := (Option.some.inj e1).symm
  subst en
  obtain rfl := Option.some.inj (rt.symm.trans e2)
  have hm : ty ∈ (List.range 156).filter fun t => Tryd.prog.rowNamed t [101, 114, 114, 111, 114] := List.mem_filter.2 ⟨List.mem_range.2 (by rw [← tsize]; exact e3), e4⟩
  rw [oneRow] at hm
  obtain rfl := List.mem_singleton.1 hm
  have hh : typeHandle Tryd.prog 56 = .pointer (some ⟨2, 56, none⟩) := by kernel_rfl
  rw [hh] at e5
  exact ⟨a, ⟨by simpa using World.var?_cell gF hv 0, by simpa using World.var?_cell gT e5 0⟩, hv⟩
noncomputable def low : Nat := (World.holding Tryd.prog default ⟨#[], #[], []⟩).heap.size
noncomputable def laidWorld (os : Os) : World :=
  let w0 := World.holding Tryd.prog os ⟨#[.cells #[.string ⟨#[110, 111, 116, 32, 116, 104, 101, 32, 111, 110, 101, 32, 102, 111, 114, 109, 32, 111, 102, 32, 105, 116, 115, 32, 107, 105, 110, 100]⟩] 144], #[], []⟩
  { w0 with heap := (w0.heap.modify 0 fun
      | .cells _ t frozen => .cells #[.iface 122 (.pointer (some ⟨low, 0, none⟩))] t frozen
      | o => o).modify 1 fun
      | .cells _ t frozen => .cells #[.iface 108 (.agg #[.pointer (some ⟨2, 56, none⟩)])] t frozen
      | o => o }
theorem laidWorld_met (os : Os) (args : Array Value) : laidMetH Tryd.prog laid ((laidWorld os).forCall (fun _ _ => 0) ⟨#[], args, []⟩).memory :=
  laidMetH_of_parts (laidMet_of_run (ps := [.cell 0 0, .cell low 0]) 8 (by kernel_rfl) (by kernel_rfl) (by kernel_rfl)) (by kernel_rfl)
theorem var_below {n : String} {cs : Array Value} {W W' : World} (hb : Below W.heap.size W W') (h : W.var? Tryd.prog n = some cs) : W'.var? Tryd.prog n = some cs := by
  simp only [World.var?] at h ⊢
  cases hg : Tryd.prog.globalNamed n with
  | none => rw [hg] at h; cases h
  | some g =>
    rw [hg] at h
    simp only [Option.bind_some] at h ⊢
    cases ho : W.heap[g]? with
    | none => rw [ho] at h; cases h
    | some o => rw [hb.block g (Array.getElem?_eq_some_iff.1 ho).1, ho]; rw [ho] at h; exact h
end Go.Proofs.YtmlahbgogbjfpaaDoor.Erl
