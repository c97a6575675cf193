/- The statement FnExactEncodeInode: the law's call returns true for every input, and its arguments read as before. -/
import Derived.Test.YtplefdkookhlhaaRows
import Derived.Test.YtplefdkookhlhaaPFnExactEncodeInodex8
import Derived.Test.YtplefdkookhlhaaPureFnExactEncodeInode
import Derived.Test.YtplefdkookhlhaaOpn
import Derived.Test.YtplefdkookhlhaaWSized
import Derived.WalkKit
import Derived.ProofKit
import Derived.OpenShut
import Derived.ShutString
import Derived.ChangeOld
import Derived.Below
import Derived.SizedLaws
namespace Go.Proofs.Ytplefdkookhlhaa.fnExactEncodeInode
open Go.ChangeShapes Go.WideShapes Go.ChangeAt Go.RowKit
open Go.ChangeMaps (open_string shut_string)
open Go.Proofs.YtplefdkookhlhaaW.PrintWords (Kd)
set_option linter.unusedVariables false
theorem own : ownKnob Try.prog.godebug = none := by kernel_rfl
theorem laidOut : laidOutB Try.prog = true := by kernel_rfl
set_option maxRecDepth 100000 in
theorem lifted (os : Os) (started : os.Started) (H : Type) (enc : TypeId × Value → H) :
    ReturnsInHanded {} Try.checked os 8 .any (Rows.fnExactEncodeInodeSpec.pre6 enc Try.prog Try.f8 Rows.fnExactEncodeInodeRow.domain false) (Rows.fnExactEncodeInodeSpec.post enc Try.prog Try.f8 false true false false) := by
  refine returnsInHanded_of_change_sized (C := Try.checked) own started (by kernel_rfl) Try.func8
    (ChangeSpec.witness6 (enc := enc) (C := Try.checked) false ⟨#[], #[.agg #[.int .i64 0, .int .i64 0, .int .i64 0, .slice none 0 0, .int .i64 0]], []⟩ 8 (by kernel_rfl) (by kernel_rfl) (by kernel_rfl) (by kernel_rfl)) ?_
  intro W base args ds gs before hval0 hW hcnd hsz0 _
  have hsz : (DataW.weightsEach Try.prog (Try.f8.params.toList ++ Rows.fnExactEncodeInodeSpec.plain.varTypes Try.prog) (ds ++ gs)).all (· ≤ reachBytes) = true := hsz0
  have hval : ∀ (j : Nat) t v, Try.f8.params[j]? = some t → args[j]? = some v → Value.okWide Try.prog W .any base t v := hval0
  have hW' := hW
  obtain ⟨p, q, hA0, hV, rfl, hfz, hnd⟩ := hW
  have hA : DataW.TrodAll enc Try.prog W 0 (fun _ => true) true Try.f8.params.toList args.toList ds p := hA0
  rw [Try.params8] at hA hval hsz
  obtain ⟨v0, vs0, d0, ds0, p0, q0, hargs, rfl, rfl, h0, r0⟩ := trodAll_cons hA
  obtain ⟨rfl, rfl, rfl⟩ := trodAll_nil r0
  obtain rfl : args = #[v0] := by cases args; simp_all
  obtain ⟨rfl, rfl⟩ := trodVars_none hV
  have k0 := h0
  have lt0 : ∀ x ∈ p0, x.block < W.heap.size := by obtain ⟨m, hm⟩ := k0; exact DataW.trod_lt m _ _ _ hm
  obtain ⟨cs0, rfl, hs0⟩ := okWide_struct Try.underlying62 (hval 0 62 v0 rfl rfl)
  obtain ⟨fuel0, hg0⟩ := h0
  have hf0 : DataW.trod enc Try.prog W 0 (fun _ => true) true fuel0 62 cs0.toList = some (d0, p0) := hg0
  have hl0 := Opn.len_ Try.underlying62 hf0
  have hn0 : Try.prog.cellsOf 62 = 5 := by kernel_rfl
  rw [hn0] at hl0
  obtain ⟨a0_0, ky0_0, g0_0⟩ := Opn.field_ Try.underlying62 0 rfl (Opn.int_ Try.underlying2 (by kernel_rfl)) hf0
  have p0_0 : (cs0.toList.drop 0).take 1 = [.int .i64 a0_0] := ky0_0
  obtain ⟨a0_1, ky0_1, g0_1⟩ := Opn.field_ Try.underlying62 1 rfl (Opn.int_ Try.underlying2 (by kernel_rfl)) hf0
  have p0_1 : (cs0.toList.drop 1).take 1 = [.int .i64 a0_1] := ky0_1
  obtain ⟨a0_2, ky0_2, g0_2⟩ := Opn.field_ Try.underlying62 2 rfl (Opn.int_ Try.underlying2 (by kernel_rfl)) hf0
  have p0_2 : (cs0.toList.drop 2).take 1 = [.int .i64 a0_2] := ky0_2
  obtain ⟨l0_3, ky0_3, g0_3⟩ := Opn.field_ Try.underlying62 3 rfl (Opn.slice_ Try.underlying22 (by kernel_rfl) (Opn.int_ Try.underlying2 (by kernel_rfl))) hf0
  obtain ⟨A0_3, c0_3, e0_3, hc0_3, hr0_3⟩ := ky0_3
  have p0_3 : (cs0.toList.drop 3).take 1 = [.slice A0_3 l0_3.length c0_3] := e0_3
  obtain ⟨a0_4, ky0_4, g0_4⟩ := Opn.field_ Try.underlying62 4 rfl (Opn.int_ Try.underlying2 (by kernel_rfl)) hf0
  have p0_4 : (cs0.toList.drop 4).take 1 = [.int .i64 a0_4] := ky0_4
  have es0 : cs0.toList = [.int .i64 a0_0, .int .i64 a0_1, .int .i64 a0_2, .slice A0_3 l0_3.length c0_3, .int .i64 a0_4] := by
    have q := List.drop_zero (l := cs0.toList)
    rw [← q, Opn.cell_ p0_0, Opn.cell_ p0_1, Opn.cell_ p0_2, Opn.cell_ p0_3, Opn.cell_ p0_4, List.drop_eq_nil_of_le (by omega)]
  obtain rfl : cs0 = #[.int .i64 a0_0, .int .i64 a0_1, .int .i64 a0_2, .slice A0_3 l0_3.length c0_3, .int .i64 a0_4] := by apply Array.ext'; rw [es0]
  clear hA0 hval0 hsz0 hsz
  obtain ⟨k, h⟩ := Pure.FnExactEncodeInode a0_0 a0_1 a0_2 l0_3 a0_4 g0_0 g0_1 g0_2 g0_3 g0_4
  refine (PFnExactEncodeInode.laws_FnExactEncodeInode.calls (k := k) (a0_0 := a0_0) (a0_1 := a0_1) (a0_2 := a0_2) (A0_3 := A0_3) (c0_3 := c0_3) (l0_3 := l0_3) (hr0_3 := hr0_3) (hc0_3 := hc0_3) (a0_4 := a0_4) (r := true) (w := W) (h := h) (hrt := ⟨rfl⟩)).mono fun e W' ⟨he, bel0⟩ => ?_
  have bel : Below W.heap.size W W' := bel0
  subst he
  exact ⟨_, rfl, _, _, _, [], _, [], hW', trodAll_mk1 (shut_bool Try.underlying4 _), (trodAll_cons_mk (Below.trod laidOut (by kernel_rfl) (of_decide_eq_true (by kernel_rfl)) k0 bel lt0) trodAll_mk0), rfl, bel.frame _, fun h => by cases h⟩
theorem over : Rows.fnExactEncodeInodeRow.holds Try.pinned (OpenSpec.ofChange Rows.fnExactEncodeInodeSpec) :=
  OpenClaim.holds_of_wide 8 Try.f8 rfl rfl rfl rfl rfl rfl rfl ⟨rfl, rfl, rfl, rfl, rfl⟩ rfl rfl rfl rfl rfl (by kernel_rfl) Try.func8 (by kernel_rfl)
    (of_decide_eq_true (by kernel_rfl)) (by unfold Func.isWrapper; first | (rw [if_pos (by decide +kernel)]; kernel_rfl) | (rw [if_neg (by decide +kernel)]; exact ⟨rfl, rfl⟩))
    (fun os started H enc _ => lifted os started H enc)
theorem proved : Rows.FnExactEncodeInodeSaid := over
end Go.Proofs.Ytplefdkookhlhaa.fnExactEncodeInode
namespace Go.Proofs.Ytplefdkookhlhaa
/-- The statement, under a short name. -/
theorem fnExactEncodeInode_holds : Rows.FnExactEncodeInodeSaid := fnExactEncodeInode.proved
end Go.Proofs.Ytplefdkookhlhaa
