/- The statement FnExactSurvivors: the law's call returns true for every input, and its arguments read as before. -/
import Derived.Test.YtkehfdadplpaeaaRows
import Derived.Test.YtkehfdadplpaeaaPFnExactSurvivorsx8
import Derived.Test.YtkehfdadplpaeaaPureFnExactSurvivors
import Derived.Test.YtkehfdadplpaeaaVSUOpn
import Derived.Test.YtkehfdadplpaeaaVSUWSized
import Derived.WalkKit
import Derived.ProofKit
import Derived.OpenShut
import Derived.ShutString
import Derived.ChangeOld
import Derived.Below
import Derived.SizedLaws
namespace Go.Proofs.Ytkehfdadplpaeaa.fnExactSurvivors
open Go.ChangeShapes Go.WideShapes Go.ChangeAt Go.RowKit
open Go.ChangeMaps (open_string shut_string)
open Go.Proofs.YtkehfdadplpaeaaW.PrintWords (Kd)
set_option linter.unusedVariables false
theorem own : ownKnob Try.prog.godebug = none := by kernel_rfl
theorem laidOut : laidOutB Try.prog = true := by kernel_rfl
theorem opens68 : Opn.Opens Try.prog 68 PFnExactSurvivors.k68 (fun x => ((Lit.int .i64 x.f0).wf = true) ∧ ((x.f1.length ≤ maxLen ∧ ∀ y ∈ x.f1, (Lit.int .u8 y).wf = true))) := ⟨by kernel_rfl, fun h => by
  obtain ⟨y0, k0, g0⟩ := Opn.field_ Try.underlying68 0 rfl (Opn.int_ Try.underlying2 (by kernel_rfl)) h
  obtain ⟨y1, k1, g1⟩ := Opn.field_ Try.underlying68 1 rfl (Opn.slice_ Try.underlying59 (by kernel_rfl) (Opn.int_ Try.underlying5 (by kernel_rfl))) h
  have hl := Opn.len_ Try.underlying68 h
  have hc : Try.prog.cellsOf 68 = 2 := by kernel_rfl
  rw [hc] at hl
  exact ⟨⟨y0, y1⟩, (Opn.mk_ (o := 0) (n := 1) (m := 1) k0 (Opn.last_ (o := 1) (n := 1) k1 (by omega)) rfl), g0, g1⟩⟩
theorem opens27 : Opn.Opens Try.prog 27 PFnExactSurvivors.k27 (fun x => ((Lit.int .i64 x.f0).wf = true) ∧ ((x.f1.length ≤ maxLen ∧ ∀ y ∈ x.f1, (((Lit.int .i64 y.f0).wf = true) ∧ ((y.f1.length ≤ maxLen ∧ ∀ y_ ∈ y.f1, (Lit.int .u8 y_).wf = true))))) ∧ ((x.f2.length ≤ maxLen ∧ ∀ y ∈ x.f2, (Lit.int .i64 y).wf = true))) := ⟨by kernel_rfl, fun h => by
  obtain ⟨y0, k0, g0⟩ := Opn.field_ Try.underlying27 0 rfl (Opn.int_ Try.underlying2 (by kernel_rfl)) h
  obtain ⟨y1, k1, g1⟩ := Opn.field_ Try.underlying27 1 rfl (Opn.slice_ Try.underlying24 (by kernel_rfl) opens68) h
  obtain ⟨y2, k2, g2⟩ := Opn.field_ Try.underlying27 2 rfl (Opn.slice_ Try.underlying25 (by kernel_rfl) (Opn.int_ Try.underlying2 (by kernel_rfl))) h
  have hl := Opn.len_ Try.underlying27 h
  have hc : Try.prog.cellsOf 27 = 3 := by kernel_rfl
  rw [hc] at hl
  exact ⟨⟨y0, y1, y2⟩, (Opn.mk_ (o := 0) (n := 1) (m := 1) k0 (Opn.mk_ (o := 1) (n := 1) (m := 2) k1 (Opn.last_ (o := 2) (n := 1) k2 (by omega)) rfl) rfl), g0, g1, g2⟩⟩
set_option maxRecDepth 100000 in
theorem lifted (os : Os) (started : os.Started) (H : Type) (enc : TypeId × Value → H) :
    ReturnsInHanded {} Try.checked os 4 .any (Rows.fnExactSurvivorsSpec.pre6 enc Try.prog Try.f4 Rows.fnExactSurvivorsRow.domain false) (Rows.fnExactSurvivorsSpec.post enc Try.prog Try.f4 false true false false) := by
  refine returnsInHanded_of_change_sized (C := Try.checked) own started (by kernel_rfl) Try.func4
    (ChangeSpec.witness6 (enc := enc) (C := Try.checked) false ⟨#[], #[.slice none 0 0], []⟩ 8 (by kernel_rfl) (by kernel_rfl) (by kernel_rfl) (by kernel_rfl)) ?_
  intro W base args ds gs before hval0 hW hcnd hsz0 _
  have hsz : (DataW.weightsEach Try.prog (Try.f4.params.toList ++ Rows.fnExactSurvivorsSpec.plain.varTypes Try.prog) (ds ++ gs)).all (· ≤ reachBytes) = true := hsz0
  have hval : ∀ (j : Nat) t v, Try.f4.params[j]? = some t → args[j]? = some v → Value.okWide Try.prog W .any base t v := hval0
  have hW' := hW
  obtain ⟨p, q, hA0, hV, rfl, hfz, hnd⟩ := hW
  have hA : DataW.TrodAll enc Try.prog W 0 (fun _ => true) true Try.f4.params.toList args.toList ds p := hA0
  rw [Try.params4] at hA hval hsz
  obtain ⟨v0, vs0, d0, ds0, p0, q0, hargs, rfl, rfl, h0, r0⟩ := trodAll_cons hA
  obtain ⟨rfl, rfl, rfl⟩ := trodAll_nil r0
  obtain rfl : args = #[v0] := by cases args; simp_all
  obtain ⟨rfl, rfl⟩ := trodVars_none hV
  have k0 := h0
  have lt0 : ∀ x ∈ p0, x.block < W.heap.size := by obtain ⟨m, hm⟩ := k0; exact DataW.trod_lt m _ _ _ hm
  obtain ⟨x0, xl0, xc0, rfl⟩ := okWide_slice Try.underlying39 (hval 0 39 v0 rfl rfl)
  obtain ⟨fuel0, hf0⟩ := h0
  obtain ⟨l0, ky0, g0⟩ := Opn.row_ Try.underlying39 opens27 hf0
  obtain ⟨A0, c0, e0, hc0, hr0⟩ := ky0
  simp only [Value.cells, List.cons.injEq, Value.slice.injEq, and_true] at e0
  obtain ⟨rfl, rfl, rfl⟩ := e0
  clear hA0 hval0 hsz0 hsz
  obtain ⟨k, h⟩ := Pure.FnExactSurvivors l0 g0
  refine (PFnExactSurvivors.laws_FnExactSurvivors.calls (k := k) (A0 := x0) (c0 := xc0) (l0 := l0) (hr0 := hr0) (hc0 := hc0) (r := true) (w := W) (h := h) (hrt := ⟨rfl⟩)).mono fun e W' ⟨he, bel0⟩ => ?_
  have bel : Below W.heap.size W W' := bel0
  subst he
  exact ⟨_, rfl, _, _, _, [], _, [], hW', trodAll_mk1 (shut_bool Try.underlying4 _), (trodAll_cons_mk (Below.trod laidOut (by kernel_rfl) (of_decide_eq_true (by kernel_rfl)) k0 bel lt0) trodAll_mk0), rfl, bel.frame _, fun h => by cases h⟩
theorem over : Rows.fnExactSurvivorsRow.holds Try.pinned (OpenSpec.ofChange Rows.fnExactSurvivorsSpec) :=
  OpenClaim.holds_of_wide 4 Try.f4 rfl rfl rfl rfl rfl rfl rfl ⟨rfl, rfl, rfl, rfl, rfl⟩ rfl rfl rfl rfl rfl (by kernel_rfl) Try.func4 (by kernel_rfl)
    (of_decide_eq_true (by kernel_rfl)) (by unfold Func.isWrapper; first | (rw [if_pos (by decide +kernel)]; kernel_rfl) | (rw [if_neg (by decide +kernel)]; exact ⟨rfl, rfl⟩))
    (fun os started H enc _ => lifted os started H enc)
theorem proved : Rows.FnExactSurvivorsSaid := over
end Go.Proofs.Ytkehfdadplpaeaa.fnExactSurvivors
namespace Go.Proofs.Ytkehfdadplpaeaa
/-- The statement, under a short name. -/
theorem fnExactSurvivors_holds : Rows.FnExactSurvivorsSaid := fnExactSurvivors.proved
end Go.Proofs.Ytkehfdadplpaeaa
