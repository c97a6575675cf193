/- The statement FnExactLogNext: the law's call returns true for every input, and its arguments read as before. -/
import Derived.Test.YtkehfdadplpaeaaRows
import Derived.Test.YtkehfdadplpaeaaPFnExactLogNextx12
import Derived.Test.YtkehfdadplpaeaaPureFnExactLogNext
import Derived.Test.YtkehfdadplpaeaaVLNOpn
import Derived.Test.YtkehfdadplpaeaaVLNWSized
import Derived.WalkKit
import Derived.ProofKit
import Derived.OpenShut
import Derived.ShutString
import Derived.ChangeOld
import Derived.Below
import Derived.SizedLaws
namespace Go.Proofs.Ytkehfdadplpaeaa.fnExactLogNext
open Go.ChangeShapes Go.WideShapes Go.ChangeAt Go.RowKit
open Go.ChangeMaps (open_string shut_string)
open Go.Proofs.YtkehfdadplpaeaaW.PrintWords (Kd)
set_option linter.unusedVariables false
theorem own : ownKnob Try.prog.godebug = none := by kernel_rfl
theorem laidOut : laidOutB Try.prog = true := by kernel_rfl
theorem opens68 : Opn.Opens Try.prog 68 PFnExactLogNext.k68 (fun x => ((Lit.int .i64 x.f0).wf = true) ∧ ((x.f1.length ≤ maxLen ∧ ∀ y ∈ x.f1, (Lit.int .u8 y).wf = true))) := ⟨by kernel_rfl, fun h => by
  obtain ⟨y0, k0, g0⟩ := Opn.field_ Try.underlying68 0 rfl (Opn.int_ Try.underlying2 (by kernel_rfl)) h
  obtain ⟨y1, k1, g1⟩ := Opn.field_ Try.underlying68 1 rfl (Opn.slice_ Try.underlying59 (by kernel_rfl) (Opn.int_ Try.underlying5 (by kernel_rfl))) h
  have hl := Opn.len_ Try.underlying68 h
  have hc : Try.prog.cellsOf 68 = 2 := by kernel_rfl
  rw [hc] at hl
  exact ⟨⟨y0, y1⟩, (Opn.mk_ (o := 0) (n := 1) (m := 1) k0 (Opn.last_ (o := 1) (n := 1) k1 (by omega)) rfl), g0, g1⟩⟩
set_option maxRecDepth 100000 in
theorem lifted (os : Os) (started : os.Started) (H : Type) (enc : TypeId × Value → H) :
    ReturnsInHanded {} Try.checked os 3 .any (Rows.fnExactLogNextSpec.pre6 enc Try.prog Try.f3 Rows.fnExactLogNextRow.domain false) (Rows.fnExactLogNextSpec.post enc Try.prog Try.f3 false true false false) := by
  refine returnsInHanded_of_change_sized (C := Try.checked) own started (by kernel_rfl) Try.func3
    (ChangeSpec.witness6 (enc := enc) (C := Try.checked) false ⟨#[], #[.agg #[.int .i64 0, .int .i64 0, .int .i64 0, .int .i64 0, .int .i64 0], .agg #[.int .i64 0, .slice none 0 0, .slice none 0 0]], []⟩ 8 (by kernel_rfl) (by kernel_rfl) (by kernel_rfl) (by kernel_rfl)) ?_
  intro W base args ds gs before hval0 hW hcnd hsz0 _
  have hsz : (DataW.weightsEach Try.prog (Try.f3.params.toList ++ Rows.fnExactLogNextSpec.plain.varTypes Try.prog) (ds ++ gs)).all (· ≤ reachBytes) = true := hsz0
  have hval : ∀ (j : Nat) t v, Try.f3.params[j]? = some t → args[j]? = some v → Value.okWide Try.prog W .any base t v := hval0
  have hW' := hW
  obtain ⟨p, q, hA0, hV, rfl, hfz, hnd⟩ := hW
  have hA : DataW.TrodAll enc Try.prog W 0 (fun _ => true) true Try.f3.params.toList args.toList ds p := hA0
  rw [Try.params3] at hA hval hsz
  obtain ⟨v0, vs0, d0, ds0, p0, q0, hargs, rfl, rfl, h0, r0⟩ := trodAll_cons hA
  obtain ⟨v1, vs1, d1, ds1, p1, q1, rfl, rfl, rfl, h1, r1⟩ := trodAll_cons r0
  obtain ⟨rfl, rfl, rfl⟩ := trodAll_nil r1
  obtain rfl : args = #[v0, v1] := by cases args; simp_all
  obtain ⟨rfl, rfl⟩ := trodVars_none hV
  have k0 := h0
  have lt0 : ∀ x ∈ p0, x.block < W.heap.size := by obtain ⟨m, hm⟩ := k0; exact DataW.trod_lt m _ _ _ hm
  obtain ⟨cs0, rfl, hs0⟩ := okWide_struct Try.underlying23 (hval 0 23 v0 rfl rfl)
  obtain ⟨fuel0, hg0⟩ := h0
  have hf0 : DataW.trod enc Try.prog W 0 (fun _ => true) true fuel0 23 cs0.toList = some (d0, p0) := hg0
  have hl0 := Opn.len_ Try.underlying23 hf0
  have hn0 : Try.prog.cellsOf 23 = 5 := by kernel_rfl
  rw [hn0] at hl0
  obtain ⟨a0_0, ky0_0, g0_0⟩ := Opn.field_ Try.underlying23 0 rfl (Opn.int_ Try.underlying2 (by kernel_rfl)) hf0
  have p0_0 : (cs0.toList.drop 0).take 1 = [.int .i64 a0_0] := ky0_0
  obtain ⟨a0_1, ky0_1, g0_1⟩ := Opn.field_ Try.underlying23 1 rfl (Opn.int_ Try.underlying2 (by kernel_rfl)) hf0
  have p0_1 : (cs0.toList.drop 1).take 1 = [.int .i64 a0_1] := ky0_1
  obtain ⟨a0_2, ky0_2, g0_2⟩ := Opn.field_ Try.underlying23 2 rfl (Opn.int_ Try.underlying2 (by kernel_rfl)) hf0
  have p0_2 : (cs0.toList.drop 2).take 1 = [.int .i64 a0_2] := ky0_2
  obtain ⟨a0_3, ky0_3, g0_3⟩ := Opn.field_ Try.underlying23 3 rfl (Opn.int_ Try.underlying2 (by kernel_rfl)) hf0
  have p0_3 : (cs0.toList.drop 3).take 1 = [.int .i64 a0_3] := ky0_3
  obtain ⟨a0_4, ky0_4, g0_4⟩ := Opn.field_ Try.underlying23 4 rfl (Opn.int_ Try.underlying2 (by kernel_rfl)) hf0
  have p0_4 : (cs0.toList.drop 4).take 1 = [.int .i64 a0_4] := ky0_4
  have es0 : cs0.toList = [.int .i64 a0_0, .int .i64 a0_1, .int .i64 a0_2, .int .i64 a0_3, .int .i64 a0_4] := by
    have q := List.drop_zero (l := cs0.toList)
    rw [← q, Opn.cell_ p0_0, Opn.cell_ p0_1, Opn.cell_ p0_2, Opn.cell_ p0_3, Opn.cell_ p0_4, List.drop_eq_nil_of_le (by omega)]
  obtain rfl : cs0 = #[.int .i64 a0_0, .int .i64 a0_1, .int .i64 a0_2, .int .i64 a0_3, .int .i64 a0_4] := by apply Array.ext'; rw [es0]
  have k1 := h1
  have lt1 : ∀ x ∈ p1, x.block < W.heap.size := by obtain ⟨m, hm⟩ := k1; exact DataW.trod_lt m _ _ _ hm
  obtain ⟨cs1, rfl, hs1⟩ := okWide_struct Try.underlying27 (hval 1 27 v1 rfl rfl)
  obtain ⟨fuel1, hg1⟩ := h1
  have hf1 : DataW.trod enc Try.prog W 0 (fun _ => true) true fuel1 27 cs1.toList = some (d1, p1) := hg1
  have hl1 := Opn.len_ Try.underlying27 hf1
  have hn1 : Try.prog.cellsOf 27 = 3 := by kernel_rfl
  rw [hn1] at hl1
  obtain ⟨a1_0, ky1_0, g1_0⟩ := Opn.field_ Try.underlying27 0 rfl (Opn.int_ Try.underlying2 (by kernel_rfl)) hf1
  have p1_0 : (cs1.toList.drop 0).take 1 = [.int .i64 a1_0] := ky1_0
  obtain ⟨l1_1, ky1_1, g1_1⟩ := Opn.field_ Try.underlying27 1 rfl (Opn.slice_ Try.underlying24 (by kernel_rfl) opens68) hf1
  obtain ⟨A1_1, c1_1, e1_1, hc1_1, hr1_1⟩ := ky1_1
  have p1_1 : (cs1.toList.drop 1).take 1 = [.slice A1_1 l1_1.length c1_1] := e1_1
  obtain ⟨l1_2, ky1_2, g1_2⟩ := Opn.field_ Try.underlying27 2 rfl (Opn.slice_ Try.underlying25 (by kernel_rfl) (Opn.int_ Try.underlying2 (by kernel_rfl))) hf1
  obtain ⟨A1_2, c1_2, e1_2, hc1_2, hr1_2⟩ := ky1_2
  have p1_2 : (cs1.toList.drop 2).take 1 = [.slice A1_2 l1_2.length c1_2] := e1_2
  have es1 : cs1.toList = [.int .i64 a1_0, .slice A1_1 l1_1.length c1_1, .slice A1_2 l1_2.length c1_2] := by
    have q := List.drop_zero (l := cs1.toList)
    rw [← q, Opn.cell_ p1_0, Opn.cell_ p1_1, Opn.cell_ p1_2, List.drop_eq_nil_of_le (by omega)]
  obtain rfl : cs1 = #[.int .i64 a1_0, .slice A1_1 l1_1.length c1_1, .slice A1_2 l1_2.length c1_2] := by apply Array.ext'; rw [es1]
  clear hA0 hval0 hsz0 hsz
  obtain ⟨k, h⟩ := Pure.FnExactLogNext a0_0 a0_1 a0_2 a0_3 a0_4 a1_0 l1_1 l1_2 g0_0 g0_1 g0_2 g0_3 g0_4 g1_0 g1_1 g1_2
  refine (PFnExactLogNext.laws_FnExactLogNext.calls (k := k) (a0_0 := a0_0) (a0_1 := a0_1) (a0_2 := a0_2) (a0_3 := a0_3) (a0_4 := a0_4) (a1_0 := a1_0) (A1_1 := A1_1) (c1_1 := c1_1) (l1_1 := l1_1) (hr1_1 := hr1_1) (hc1_1 := hc1_1) (A1_2 := A1_2) (c1_2 := c1_2) (l1_2 := l1_2) (hr1_2 := hr1_2) (hc1_2 := hc1_2) (r := true) (w := W) (h := h) (hrt := ⟨rfl⟩)).mono fun e W' ⟨he, bel0⟩ => ?_
  have bel : Below W.heap.size W W' := bel0
  subst he
  exact ⟨_, rfl, _, _, _, [], _, [], hW', trodAll_mk1 (shut_bool Try.underlying4 _), (trodAll_cons_mk (Below.trod laidOut (by kernel_rfl) (of_decide_eq_true (by kernel_rfl)) k0 bel lt0) (trodAll_cons_mk (Below.trod laidOut (by kernel_rfl) (of_decide_eq_true (by kernel_rfl)) k1 bel lt1) trodAll_mk0)), rfl, bel.frame _, fun h => by cases h⟩
theorem over : Rows.fnExactLogNextRow.holds Try.pinned (OpenSpec.ofChange Rows.fnExactLogNextSpec) :=
  OpenClaim.holds_of_wide 3 Try.f3 rfl rfl rfl rfl rfl rfl rfl ⟨rfl, rfl, rfl, rfl, rfl⟩ rfl rfl rfl rfl rfl (by kernel_rfl) Try.func3 (by kernel_rfl)
    (of_decide_eq_true (by kernel_rfl)) (by unfold Func.isWrapper; first | (rw [if_pos (by decide +kernel)]; kernel_rfl) | (rw [if_neg (by decide +kernel)]; exact ⟨rfl, rfl⟩))
    (fun os started H enc _ => lifted os started H enc)
theorem proved : Rows.FnExactLogNextSaid := over
end Go.Proofs.Ytkehfdadplpaeaa.fnExactLogNext
namespace Go.Proofs.Ytkehfdadplpaeaa
/-- The statement, under a short name. -/
theorem fnExactLogNext_holds : Rows.FnExactLogNextSaid := fnExactLogNext.proved
end Go.Proofs.Ytkehfdadplpaeaa
