/- The statement FnExactDirRemove: the law's call returns true for every input, and its arguments read as before. -/
import Derived.Test.YtdhjhadcadcceaaRows
import Derived.Test.YtdhjhadcadcceaaPFnExactDirRemovex3
import Derived.Test.YtdhjhadcadcceaaPureFnExactDirRemove
import Derived.Test.YtdhjhadcadcceaaOpn
import Derived.Test.YtdhjhadcadcceaaWSized
import Derived.WalkKit
import Derived.ProofKit
import Derived.OpenShut
import Derived.ShutString
import Derived.ChangeOld
import Derived.Below
import Derived.SizedLaws
namespace Go.Proofs.Ytdhjhadcadcceaa.fnExactDirRemove
open Go.ChangeShapes Go.WideShapes Go.ChangeAt Go.RowKit
open Go.ChangeMaps (open_string shut_string)
open Go.Proofs.YtdhjhadcadcceaaW.PrintWords (Kd)
set_option linter.unusedVariables false
theorem own : ownKnob Try.prog.godebug = none := by kernel_rfl
theorem laidOut : laidOutB Try.prog = true := by kernel_rfl
theorem opens105 : Opn.Opens Try.prog 105 PFnExactDirRemove.k105 (fun x => ((Lit.int .i64 x.f0).wf = true) ∧ (x.f1.size ≤ maxLen)) := ⟨by kernel_rfl, fun h => by
  obtain ⟨y0, k0, g0⟩ := Opn.field_ Try.underlying105 0 rfl (Opn.int_ Try.underlying2 (by kernel_rfl)) h
  obtain ⟨y1, k1, g1⟩ := Opn.field_ Try.underlying105 1 rfl (Opn.string_ Try.underlying9 (by kernel_rfl)) h
  have hl := Opn.len_ Try.underlying105 h
  have hc : Try.prog.cellsOf 105 = 2 := by kernel_rfl
  rw [hc] at hl
  exact ⟨⟨y0, y1⟩, (Opn.mk_ (o := 0) (n := 1) (m := 1) k0 (Opn.last_ (o := 1) (n := 1) k1 (by omega)) rfl), g0, g1⟩⟩
set_option maxRecDepth 100000 in
theorem lifted (os : Os) (started : os.Started) (H : Type) (enc : TypeId × Value → H) :
    ReturnsInHanded {} Try.checked os 14 .any (Rows.fnExactDirRemoveSpec.pre6 enc Try.prog Try.f14 Rows.fnExactDirRemoveRow.domain false) (Rows.fnExactDirRemoveSpec.post enc Try.prog Try.f14 false true false false) := by
  refine returnsInHanded_of_change_sized (C := Try.checked) own started (by kernel_rfl) Try.func14
    (ChangeSpec.witness6 (enc := enc) (C := Try.checked) false ⟨#[], #[.slice none 0 0, .int .i64 0], []⟩ 8 (by kernel_rfl) (by kernel_rfl) (by kernel_rfl) (by kernel_rfl)) ?_
  intro W base args ds gs before hval0 hW hcnd hsz0 _
  have hsz : (DataW.weightsEach Try.prog (Try.f14.params.toList ++ Rows.fnExactDirRemoveSpec.plain.varTypes Try.prog) (ds ++ gs)).all (· ≤ reachBytes) = true := hsz0
  have hval : ∀ (j : Nat) t v, Try.f14.params[j]? = some t → args[j]? = some v → Value.okWide Try.prog W .any base t v := hval0
  have hW' := hW
  obtain ⟨p, q, hA0, hV, rfl, hfz, hnd⟩ := hW
  have hA : DataW.TrodAll enc Try.prog W 0 (fun _ => true) true Try.f14.params.toList args.toList ds p := hA0
  rw [Try.params14] at hA hval hsz
  obtain ⟨v0, vs0, d0, ds0, p0, q0, hargs, rfl, rfl, h0, r0⟩ := trodAll_cons hA
  obtain ⟨v1, vs1, d1, ds1, p1, q1, rfl, rfl, rfl, h1, r1⟩ := trodAll_cons r0
  obtain ⟨rfl, rfl, rfl⟩ := trodAll_nil r1
  obtain rfl : args = #[v0, v1] := by cases args; simp_all
  obtain ⟨rfl, rfl⟩ := trodVars_none hV
  have k0 := h0
  have lt0 : ∀ x ∈ p0, x.block < W.heap.size := by obtain ⟨m, hm⟩ := k0; exact DataW.trod_lt m _ _ _ hm
  obtain ⟨x0, xl0, xc0, rfl⟩ := okWide_slice Try.underlying69 (hval 0 69 v0 rfl rfl)
  obtain ⟨fuel0, hf0⟩ := h0
  obtain ⟨l0, ky0, g0⟩ := Opn.row_ Try.underlying69 opens105 hf0
  obtain ⟨A0, c0, e0, hc0, hr0⟩ := ky0
  simp only [Value.cells, List.cons.injEq, Value.slice.injEq, and_true] at e0
  obtain ⟨rfl, rfl, rfl⟩ := e0
  obtain ⟨a1, rfl, rfl, rfl, g1⟩ := open_int Try.underlying2 (hval 1 2 v1 rfl rfl) h1
  clear hA0 hval0 hsz0 hsz
  obtain ⟨k, h⟩ := Pure.FnExactDirRemove l0 a1 g0 g1
  refine (PFnExactDirRemove.laws_FnExactDirRemove.calls (k := k) (A0 := x0) (c0 := xc0) (l0 := l0) (hr0 := hr0) (hc0 := hc0) (a1 := a1) (r := true) (w := W) (h := h)).mono fun e W' ⟨he, bel0⟩ => ?_
  have bel : Below W.heap.size W W' := bel0
  subst he
  exact ⟨_, rfl, _, _, _, [], _, [], hW', trodAll_mk1 (shut_bool Try.underlying4 _), (trodAll_cons_mk (Below.trod laidOut (by kernel_rfl) (of_decide_eq_true (by kernel_rfl)) k0 bel lt0) (trodAll_cons_mk (shut_int Try.underlying2 g1) trodAll_mk0)), rfl, bel.frame _, fun h => by cases h⟩
theorem over : Rows.fnExactDirRemoveRow.holds Try.pinned (OpenSpec.ofChange Rows.fnExactDirRemoveSpec) :=
  OpenClaim.holds_of_wide 14 Try.f14 rfl rfl rfl rfl rfl rfl rfl ⟨rfl, rfl, rfl, rfl, rfl⟩ rfl rfl rfl rfl rfl (by kernel_rfl) Try.func14 (by kernel_rfl)
    (of_decide_eq_true (by kernel_rfl)) (by unfold Func.isWrapper; first | (rw [if_pos (by decide +kernel)]; kernel_rfl) | (rw [if_neg (by decide +kernel)]; exact ⟨rfl, rfl⟩))
    (fun os started H enc _ => lifted os started H enc)
theorem proved : Rows.FnExactDirRemoveSaid := over
end Go.Proofs.Ytdhjhadcadcceaa.fnExactDirRemove
namespace Go.Proofs.Ytdhjhadcadcceaa
/-- The statement, under a short name. -/
theorem fnExactDirRemove_holds : Rows.FnExactDirRemoveSaid := fnExactDirRemove.proved
end Go.Proofs.Ytdhjhadcadcceaa
