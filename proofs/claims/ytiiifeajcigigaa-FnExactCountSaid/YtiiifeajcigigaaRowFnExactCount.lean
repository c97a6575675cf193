/- The statement FnExactCount: the law's call returns true for every input, and its arguments read as before. -/
import Derived.Test.YtiiifeajcigigaaRows
import Derived.Test.YtiiifeajcigigaaPFnExactCountx2
import Derived.Test.YtiiifeajcigigaaPureFnExactCount
import Derived.Test.YtiiifeajcigigaaOpn
import Derived.Test.YtiiifeajcigigaaWSized
import Derived.WalkKit
import Derived.ProofKit
import Derived.OpenShut
import Derived.ShutString
import Derived.ChangeOld
import Derived.Below
import Derived.SizedLaws
namespace Go.Proofs.Ytiiifeajcigigaa.fnExactCount
open Go.ChangeShapes Go.WideShapes Go.ChangeAt Go.RowKit
open Go.ChangeMaps (open_string shut_string)
open Go.Proofs.YtiiifeajcigigaaW.PrintWords (Kd)
set_option linter.unusedVariables false
theorem own : ownKnob Try.prog.godebug = none := by kernel_rfl
theorem laidOut : laidOutB Try.prog = true := by kernel_rfl
theorem opens90 : Opn.Opens Try.prog 90 PFnExactCount.k90 (fun x => (x.f0.size ≤ maxLen) ∧ ((Lit.int .i64 x.f1).wf = true) ∧ ((Lit.int .i64 x.f2).wf = true) ∧ ((Lit.int .i64 x.f3).wf = true) ∧ ((Lit.int .i64 x.f4).wf = true) ∧ ((Lit.int .i64 x.f5).wf = true) ∧ (x.f6.size ≤ maxLen)) := ⟨by kernel_rfl, fun h => by
  obtain ⟨y0, k0, g0⟩ := Opn.field_ Try.underlying90 0 rfl (Opn.string_ Try.underlying9 (by kernel_rfl)) h
  obtain ⟨y1, k1, g1⟩ := Opn.field_ Try.underlying90 1 rfl (Opn.int_ Try.underlying2 (by kernel_rfl)) h
  obtain ⟨y2, k2, g2⟩ := Opn.field_ Try.underlying90 2 rfl (Opn.int_ Try.underlying2 (by kernel_rfl)) h
  obtain ⟨y3, k3, g3⟩ := Opn.field_ Try.underlying90 3 rfl (Opn.int_ Try.underlying2 (by kernel_rfl)) h
  obtain ⟨y4, k4, g4⟩ := Opn.field_ Try.underlying90 4 rfl (Opn.int_ Try.underlying2 (by kernel_rfl)) h
  obtain ⟨y5, k5, g5⟩ := Opn.field_ Try.underlying90 5 rfl (Opn.int_ Try.underlying2 (by kernel_rfl)) h
  obtain ⟨y6, k6, g6⟩ := Opn.field_ Try.underlying90 6 rfl (Opn.string_ Try.underlying9 (by kernel_rfl)) h
  have hl := Opn.len_ Try.underlying90 h
  have hc : Try.prog.cellsOf 90 = 7 := by kernel_rfl
  rw [hc] at hl
  exact ⟨⟨y0, y1, y2, y3, y4, y5, y6⟩, (Opn.mk_ (o := 0) (n := 1) (m := 1) k0 (Opn.mk_ (o := 1) (n := 1) (m := 2) k1 (Opn.mk_ (o := 2) (n := 1) (m := 3) k2 (Opn.mk_ (o := 3) (n := 1) (m := 4) k3 (Opn.mk_ (o := 4) (n := 1) (m := 5) k4 (Opn.mk_ (o := 5) (n := 1) (m := 6) k5 (Opn.last_ (o := 6) (n := 1) k6 (by omega)) rfl) rfl) rfl) rfl) rfl) rfl), g0, g1, g2, g3, g4, g5, g6⟩⟩
set_option maxRecDepth 100000 in
theorem lifted (os : Os) (started : os.Started) (H : Type) (enc : TypeId × Value → H) :
    ReturnsInHanded {} Try.checked os 9 .any (Rows.fnExactCountSpec.pre6 enc Try.prog Try.f9 Rows.fnExactCountRow.domain false) (Rows.fnExactCountSpec.post enc Try.prog Try.f9 false true false false) := by
  refine returnsInHanded_of_change_sized (C := Try.checked) own started (by kernel_rfl) Try.func9
    (ChangeSpec.witness6 (enc := enc) (C := Try.checked) false ⟨#[], #[.slice none 0 0], []⟩ 8 (by kernel_rfl) (by kernel_rfl) (by kernel_rfl) (by kernel_rfl)) ?_
  intro W base args ds gs before hval0 hW hcnd hsz0 _
  have hsz : (DataW.weightsEach Try.prog (Try.f9.params.toList ++ Rows.fnExactCountSpec.plain.varTypes Try.prog) (ds ++ gs)).all (· ≤ reachBytes) = true := hsz0
  have hval : ∀ (j : Nat) t v, Try.f9.params[j]? = some t → args[j]? = some v → Value.okWide Try.prog W .any base t v := hval0
  have hW' := hW
  obtain ⟨p, q, hA0, hV, rfl, hfz, hnd⟩ := hW
  have hA : DataW.TrodAll enc Try.prog W 0 (fun _ => true) true Try.f9.params.toList args.toList ds p := hA0
  rw [Try.params9] at hA hval hsz
  obtain ⟨v0, vs0, d0, ds0, p0, q0, hargs, rfl, rfl, h0, r0⟩ := trodAll_cons hA
  obtain ⟨rfl, rfl, rfl⟩ := trodAll_nil r0
  obtain rfl : args = #[v0] := by cases args; simp_all
  obtain ⟨rfl, rfl⟩ := trodVars_none hV
  have k0 := h0
  have lt0 : ∀ x ∈ p0, x.block < W.heap.size := by obtain ⟨m, hm⟩ := k0; exact DataW.trod_lt m _ _ _ hm
  obtain ⟨x0, xl0, xc0, rfl⟩ := okWide_slice Try.underlying60 (hval 0 60 v0 rfl rfl)
  obtain ⟨fuel0, hf0⟩ := h0
  obtain ⟨l0, ky0, g0⟩ := Opn.row_ Try.underlying60 opens90 hf0
  obtain ⟨A0, c0, e0, hc0, hr0⟩ := ky0
  simp only [Value.cells, List.cons.injEq, Value.slice.injEq, and_true] at e0
  obtain ⟨rfl, rfl, rfl⟩ := e0
  clear hA0 hval0 hsz0 hsz
  obtain ⟨k, h⟩ := Pure.FnExactCount l0 g0
  refine (PFnExactCount.laws_FnExactCount.calls (k := k) (A0 := x0) (c0 := xc0) (l0 := l0) (hr0 := hr0) (hc0 := hc0) (r := true) (w := W) (h := h) (hrt := ⟨rfl⟩)).mono fun e W' ⟨he, bel0⟩ => ?_
  have bel : Below W.heap.size W W' := bel0
  subst he
  exact ⟨_, rfl, _, _, _, [], _, [], hW', trodAll_mk1 (shut_bool Try.underlying4 _), (trodAll_cons_mk (Below.trod laidOut (by kernel_rfl) (of_decide_eq_true (by kernel_rfl)) k0 bel lt0) trodAll_mk0), rfl, bel.frame _, fun h => by cases h⟩
theorem over : Rows.fnExactCountRow.holds Try.pinned (OpenSpec.ofChange Rows.fnExactCountSpec) :=
  OpenClaim.holds_of_wide 9 Try.f9 rfl rfl rfl rfl rfl rfl rfl ⟨rfl, rfl, rfl, rfl, rfl⟩ rfl rfl rfl rfl rfl (by kernel_rfl) Try.func9 (by kernel_rfl)
    (of_decide_eq_true (by kernel_rfl)) (by unfold Func.isWrapper; first | (rw [if_pos (by decide +kernel)]; kernel_rfl) | (rw [if_neg (by decide +kernel)]; exact ⟨rfl, rfl⟩))
    (fun os started H enc _ => lifted os started H enc)
theorem proved : Rows.FnExactCountSaid := over
end Go.Proofs.Ytiiifeajcigigaa.fnExactCount
namespace Go.Proofs.Ytiiifeajcigigaa
/-- The statement, under a short name. -/
theorem fnExactCount_holds : Rows.FnExactCountSaid := fnExactCount.proved
end Go.Proofs.Ytiiifeajcigigaa
