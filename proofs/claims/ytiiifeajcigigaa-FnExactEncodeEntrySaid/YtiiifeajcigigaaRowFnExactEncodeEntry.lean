/- The statement FnExactEncodeEntry: the law's call returns true for every input, and its arguments read as before. -/
import Derived.Test.YtiiifeajcigigaaRows
import Derived.Test.YtiiifeajcigigaaPFnExactEncodeEntryx4
import Derived.Test.YtiiifeajcigigaaPureFnExactEncodeEntry
import Derived.Test.YtiiifeajcigigaaOpn
import Derived.Test.YtiiifeajcigigaaWSized
import Derived.WalkKit
import Derived.ProofKit
import Derived.OpenShut
import Derived.ShutString
import Derived.ChangeOld
import Derived.Below
import Derived.SizedLaws
namespace Go.Proofs.Ytiiifeajcigigaa.fnExactEncodeEntry
open Go.ChangeShapes Go.WideShapes Go.ChangeAt Go.RowKit
open Go.ChangeMaps (open_string shut_string)
open Go.Proofs.YtiiifeajcigigaaW.PrintWords (Kd)
set_option linter.unusedVariables false
theorem own : ownKnob Try.prog.godebug = none := by kernel_rfl
theorem laidOut : laidOutB Try.prog = true := by kernel_rfl
set_option maxRecDepth 100000 in
theorem lifted (os : Os) (started : os.Started) (H : Type) (enc : TypeId × Value → H) :
    ReturnsInHanded {} Try.checked os 3 .any (Rows.fnExactEncodeEntrySpec.pre6 enc Try.prog Try.f3 Rows.fnExactEncodeEntryRow.domain false) (Rows.fnExactEncodeEntrySpec.post enc Try.prog Try.f3 false true false false) := by
  refine returnsInHanded_of_change_sized (C := Try.checked) own started (by kernel_rfl) Try.func3
    (ChangeSpec.witness6 (enc := enc) (C := Try.checked) false ⟨#[], #[.agg #[.int .i64 0, .string ByteArray.empty]], []⟩ 8 (by kernel_rfl) (by kernel_rfl) (by kernel_rfl) (by kernel_rfl)) ?_
  intro W base args ds gs before hval0 hW hcnd hsz0 _
  have hsz : (DataW.weightsEach Try.prog (Try.f3.params.toList ++ Rows.fnExactEncodeEntrySpec.plain.varTypes Try.prog) (ds ++ gs)).all (· ≤ reachBytes) = true := hsz0
  have hval : ∀ (j : Nat) t v, Try.f3.params[j]? = some t → args[j]? = some v → Value.okWide Try.prog W .any base t v := hval0
  have hW' := hW
  obtain ⟨p, q, hA0, hV, rfl, hfz, hnd⟩ := hW
  have hA : DataW.TrodAll enc Try.prog W 0 (fun _ => true) true Try.f3.params.toList args.toList ds p := hA0
  rw [Try.params3] at hA hval hsz
  obtain ⟨v0, vs0, d0, ds0, p0, q0, hargs, rfl, rfl, h0, r0⟩ := trodAll_cons hA
  obtain ⟨rfl, rfl, rfl⟩ := trodAll_nil r0
  obtain rfl : args = #[v0] := by cases args; simp_all
  obtain ⟨rfl, rfl⟩ := trodVars_none hV
  have k0 := h0
  have lt0 : ∀ x ∈ p0, x.block < W.heap.size := by obtain ⟨m, hm⟩ := k0; exact DataW.trod_lt m _ _ _ hm
  obtain ⟨cs0, rfl, hs0⟩ := okWide_struct Try.underlying23 (hval 0 23 v0 rfl rfl)
  obtain ⟨fuel0, hg0⟩ := h0
  have hf0 : DataW.trod enc Try.prog W 0 (fun _ => true) true fuel0 23 cs0.toList = some (d0, p0) := hg0
  have hl0 := Opn.len_ Try.underlying23 hf0
  have hn0 : Try.prog.cellsOf 23 = 2 := by kernel_rfl
  rw [hn0] at hl0
  obtain ⟨a0_0, ky0_0, g0_0⟩ := Opn.field_ Try.underlying23 0 rfl (Opn.int_ Try.underlying2 (by kernel_rfl)) hf0
  have p0_0 : (cs0.toList.drop 0).take 1 = [.int .i64 a0_0] := ky0_0
  obtain ⟨a0_1, ky0_1, g0_1⟩ := Opn.field_ Try.underlying23 1 rfl (Opn.string_ Try.underlying9 (by kernel_rfl)) hf0
  have p0_1 : (cs0.toList.drop 1).take 1 = [.string a0_1] := ky0_1
  have es0 : cs0.toList = [.int .i64 a0_0, .string a0_1] := by
    have q := List.drop_zero (l := cs0.toList)
    rw [← q, Opn.cell_ p0_0, Opn.cell_ p0_1, List.drop_eq_nil_of_le (by omega)]
  obtain rfl : cs0 = #[.int .i64 a0_0, .string a0_1] := by apply Array.ext'; rw [es0]
  clear hA0 hval0 hsz0 hsz
  obtain ⟨k, h⟩ := Pure.FnExactEncodeEntry a0_0 a0_1 g0_0 g0_1
  refine (PFnExactEncodeEntry.laws_FnExactEncodeEntry.calls (k := k) (a0_0 := a0_0) (a0_1 := a0_1) (r := true) (w := W) (h := h) (hrt := ⟨rfl⟩)).mono fun e W' ⟨he, bel0⟩ => ?_
  have bel : Below W.heap.size W W' := bel0
  subst he
  exact ⟨_, rfl, _, _, _, [], _, [], hW', trodAll_mk1 (shut_bool Try.underlying4 _), (trodAll_cons_mk (Below.trod laidOut (by kernel_rfl) (of_decide_eq_true (by kernel_rfl)) k0 bel lt0) trodAll_mk0), rfl, bel.frame _, fun h => by cases h⟩
theorem over : Rows.fnExactEncodeEntryRow.holds Try.pinned (OpenSpec.ofChange Rows.fnExactEncodeEntrySpec) :=
  OpenClaim.holds_of_wide 3 Try.f3 rfl rfl rfl rfl rfl rfl rfl ⟨rfl, rfl, rfl, rfl, rfl⟩ rfl rfl rfl rfl rfl (by kernel_rfl) Try.func3 (by kernel_rfl)
    (of_decide_eq_true (by kernel_rfl)) (by unfold Func.isWrapper; first | (rw [if_pos (by decide +kernel)]; kernel_rfl) | (rw [if_neg (by decide +kernel)]; exact ⟨rfl, rfl⟩))
    (fun os started H enc _ => lifted os started H enc)
theorem proved : Rows.FnExactEncodeEntrySaid := over
end Go.Proofs.Ytiiifeajcigigaa.fnExactEncodeEntry
namespace Go.Proofs.Ytiiifeajcigigaa
/-- The statement, under a short name. -/
theorem fnExactEncodeEntry_holds : Rows.FnExactEncodeEntrySaid := fnExactEncodeEntry.proved
end Go.Proofs.Ytiiifeajcigigaa
