/- The statement FnExactDiskDo: the law's call returns true for every input, and its arguments read as before. -/
import Derived.Test.YtdhjhadcadcceaaRows
import Derived.Test.YtdhjhadcadcceaaPFnExactDiskDox11
import Derived.Test.YtdhjhadcadcceaaPureFnExactDiskDo
import Derived.Test.YtdhjhadcadcceaaVDDOpn
import Derived.Test.YtdhjhadcadcceaaVDDWSized
import Derived.WalkKit
import Derived.ProofKit
import Derived.OpenShut
import Derived.ShutString
import Derived.ChangeOld
import Derived.Below
import Derived.SizedLaws
namespace Go.Proofs.Ytdhjhadcadcceaa.fnExactDiskDo
open Go.ChangeShapes Go.WideShapes Go.ChangeAt Go.RowKit
open Go.ChangeMaps (open_string shut_string)
open Go.Proofs.YtdhjhadcadcceaaW.PrintWords (Kd)
set_option linter.unusedVariables false
theorem own : ownKnob Try.prog.godebug = none := by kernel_rfl
theorem laidOut : laidOutB Try.prog = true := by kernel_rfl
theorem opens112 : Opn.Opens Try.prog 112 PFnExactDiskDo.k112 (fun x => ((Lit.int .i64 x.f0).wf = true) ∧ ((x.f1.length ≤ maxLen ∧ ∀ y ∈ x.f1, (Lit.int .u8 y).wf = true))) := ⟨by kernel_rfl, fun h => by
  obtain ⟨y0, k0, g0⟩ := Opn.field_ Try.underlying112 0 rfl (Opn.int_ Try.underlying2 (by kernel_rfl)) h
  obtain ⟨y1, k1, g1⟩ := Opn.field_ Try.underlying112 1 rfl (Opn.slice_ Try.underlying22 (by kernel_rfl) (Opn.int_ Try.underlying5 (by kernel_rfl))) h
  have hl := Opn.len_ Try.underlying112 h
  have hc : Try.prog.cellsOf 112 = 2 := by kernel_rfl
  rw [hc] at hl
  exact ⟨⟨y0, y1⟩, (Opn.mk_ (o := 0) (n := 1) (m := 1) k0 (Opn.last_ (o := 1) (n := 1) k1 (by omega)) rfl), g0, g1⟩⟩
theorem opens100 : Opn.Opens Try.prog 100 PFnExactDiskDo.k100 (fun x => ((Lit.int .i64 x.f0).wf = true) ∧ ((Lit.int .i64 x.f1).wf = true) ∧ ((x.f2.length ≤ maxLen ∧ ∀ y ∈ x.f2, (Lit.int .u8 y).wf = true))) := ⟨by kernel_rfl, fun h => by
  obtain ⟨y0, k0, g0⟩ := Opn.field_ Try.underlying100 0 rfl (Opn.int_ Try.underlying2 (by kernel_rfl)) h
  obtain ⟨y1, k1, g1⟩ := Opn.field_ Try.underlying100 1 rfl (Opn.int_ Try.underlying2 (by kernel_rfl)) h
  obtain ⟨y2, k2, g2⟩ := Opn.field_ Try.underlying100 2 rfl (Opn.slice_ Try.underlying22 (by kernel_rfl) (Opn.int_ Try.underlying5 (by kernel_rfl))) h
  have hl := Opn.len_ Try.underlying100 h
  have hc : Try.prog.cellsOf 100 = 3 := by kernel_rfl
  rw [hc] at hl
  exact ⟨⟨y0, y1, y2⟩, (Opn.mk_ (o := 0) (n := 1) (m := 1) k0 (Opn.mk_ (o := 1) (n := 1) (m := 2) k1 (Opn.last_ (o := 2) (n := 1) k2 (by omega)) rfl) rfl), g0, g1, g2⟩⟩
set_option maxRecDepth 100000 in
theorem lifted (os : Os) (started : os.Started) (H : Type) (enc : TypeId × Value → H) :
    ReturnsInHanded {} Try.checked os 12 .any (Rows.fnExactDiskDoSpec.pre6 enc Try.prog Try.f12 Rows.fnExactDiskDoRow.domain false) (Rows.fnExactDiskDoSpec.post enc Try.prog Try.f12 false true false false) := by
  refine returnsInHanded_of_change_sized (C := Try.checked) own started (by kernel_rfl) Try.func12
    (ChangeSpec.witness6 (enc := enc) (C := Try.checked) false ⟨#[], #[.agg #[.slice none 0 0, .slice none 0 0], .slice none 0 0, .int .i64 0], []⟩ 8 (by kernel_rfl) (by kernel_rfl) (by kernel_rfl) (by kernel_rfl)) ?_
  intro W base args ds gs before hval0 hW hcnd hsz0 _
  have hsz : (DataW.weightsEach Try.prog (Try.f12.params.toList ++ Rows.fnExactDiskDoSpec.plain.varTypes Try.prog) (ds ++ gs)).all (· ≤ reachBytes) = true := hsz0
  have hval : ∀ (j : Nat) t v, Try.f12.params[j]? = some t → args[j]? = some v → Value.okWide Try.prog W .any base t v := hval0
  have hW' := hW
  obtain ⟨p, q, hA0, hV, rfl, hfz, hnd⟩ := hW
  have hA : DataW.TrodAll enc Try.prog W 0 (fun _ => true) true Try.f12.params.toList args.toList ds p := hA0
  rw [Try.params12] at hA hval hsz
  obtain ⟨v0, vs0, d0, ds0, p0, q0, hargs, rfl, rfl, h0, r0⟩ := trodAll_cons hA
  obtain ⟨v1, vs1, d1, ds1, p1, q1, rfl, rfl, rfl, h1, r1⟩ := trodAll_cons r0
  obtain ⟨v2, vs2, d2, ds2, p2, q2, rfl, rfl, rfl, h2, r2⟩ := trodAll_cons r1
  obtain ⟨rfl, rfl, rfl⟩ := trodAll_nil r2
  obtain rfl : args = #[v0, v1, v2] := by cases args; simp_all
  obtain ⟨rfl, rfl⟩ := trodVars_none hV
  have k0 := h0
  have lt0 : ∀ x ∈ p0, x.block < W.heap.size := by obtain ⟨m, hm⟩ := k0; exact DataW.trod_lt m _ _ _ hm
  obtain ⟨cs0, rfl, hs0⟩ := okWide_struct Try.underlying36 (hval 0 36 v0 rfl rfl)
  obtain ⟨fuel0, hg0⟩ := h0
  have hf0 : DataW.trod enc Try.prog W 0 (fun _ => true) true fuel0 36 cs0.toList = some (d0, p0) := hg0
  have hl0 := Opn.len_ Try.underlying36 hf0
  have hn0 : Try.prog.cellsOf 36 = 2 := by kernel_rfl
  rw [hn0] at hl0
  obtain ⟨l0_0, ky0_0, g0_0⟩ := Opn.field_ Try.underlying36 0 rfl (Opn.slice_ Try.underlying22 (by kernel_rfl) (Opn.int_ Try.underlying5 (by kernel_rfl))) hf0
  obtain ⟨A0_0, c0_0, e0_0, hc0_0, hr0_0⟩ := ky0_0
  have p0_0 : (cs0.toList.drop 0).take 1 = [.slice A0_0 l0_0.length c0_0] := e0_0
  obtain ⟨l0_1, ky0_1, g0_1⟩ := Opn.field_ Try.underlying36 1 rfl (Opn.slice_ Try.underlying34 (by kernel_rfl) opens112) hf0
  obtain ⟨A0_1, c0_1, e0_1, hc0_1, hr0_1⟩ := ky0_1
  have p0_1 : (cs0.toList.drop 1).take 1 = [.slice A0_1 l0_1.length c0_1] := e0_1
  have es0 : cs0.toList = [.slice A0_0 l0_0.length c0_0, .slice A0_1 l0_1.length c0_1] := by
    have q := List.drop_zero (l := cs0.toList)
    rw [← q, Opn.cell_ p0_0, Opn.cell_ p0_1, List.drop_eq_nil_of_le (by omega)]
  obtain rfl : cs0 = #[.slice A0_0 l0_0.length c0_0, .slice A0_1 l0_1.length c0_1] := by apply Array.ext'; rw [es0]
  have k1 := h1
  have lt1 : ∀ x ∈ p1, x.block < W.heap.size := by obtain ⟨m, hm⟩ := k1; exact DataW.trod_lt m _ _ _ hm
  obtain ⟨x1, xl1, xc1, rfl⟩ := okWide_slice Try.underlying63 (hval 1 63 v1 rfl rfl)
  obtain ⟨fuel1, hf1⟩ := h1
  obtain ⟨l1, ky1, g1⟩ := Opn.row_ Try.underlying63 opens100 hf1
  obtain ⟨A1, c1, e1, hc1, hr1⟩ := ky1
  simp only [Value.cells, List.cons.injEq, Value.slice.injEq, and_true] at e1
  obtain ⟨rfl, rfl, rfl⟩ := e1
  obtain ⟨a2, rfl, rfl, rfl, g2⟩ := open_int Try.underlying2 (hval 2 2 v2 rfl rfl) h2
  clear hA0 hval0 hsz0 hsz
  obtain ⟨k, h⟩ := Pure.FnExactDiskDo l0_0 l0_1 l1 a2 g0_0 g0_1 g1 g2
  refine (PFnExactDiskDo.laws_FnExactDiskDo.calls (k := k) (A0_0 := A0_0) (c0_0 := c0_0) (l0_0 := l0_0) (hr0_0 := hr0_0) (hc0_0 := hc0_0) (A0_1 := A0_1) (c0_1 := c0_1) (l0_1 := l0_1) (hr0_1 := hr0_1) (hc0_1 := hc0_1) (A1 := x1) (c1 := xc1) (l1 := l1) (hr1 := hr1) (hc1 := hc1) (a2 := a2) (r := true) (w := W) (h := h) (hrt := ⟨rfl⟩)).mono fun e W' ⟨he, bel0⟩ => ?_
  have bel : Below W.heap.size W W' := bel0
  subst he
  exact ⟨_, rfl, _, _, _, [], _, [], hW', trodAll_mk1 (shut_bool Try.underlying4 _), (trodAll_cons_mk (Below.trod laidOut (by kernel_rfl) (of_decide_eq_true (by kernel_rfl)) k0 bel lt0) (trodAll_cons_mk (Below.trod laidOut (by kernel_rfl) (of_decide_eq_true (by kernel_rfl)) k1 bel lt1) (trodAll_cons_mk (shut_int Try.underlying2 g2) trodAll_mk0))), rfl, bel.frame _, fun h => by cases h⟩
theorem over : Rows.fnExactDiskDoRow.holds Try.pinned (OpenSpec.ofChange Rows.fnExactDiskDoSpec) :=
  OpenClaim.holds_of_wide 12 Try.f12 rfl rfl rfl rfl rfl rfl rfl ⟨rfl, rfl, rfl, rfl, rfl⟩ rfl rfl rfl rfl rfl (by kernel_rfl) Try.func12 (by kernel_rfl)
    (of_decide_eq_true (by kernel_rfl)) (by unfold Func.isWrapper; first | (rw [if_pos (by decide +kernel)]; kernel_rfl) | (rw [if_neg (by decide +kernel)]; exact ⟨rfl, rfl⟩))
    (fun os started H enc _ => lifted os started H enc)
theorem proved : Rows.FnExactDiskDoSaid := over
end Go.Proofs.Ytdhjhadcadcceaa.fnExactDiskDo
namespace Go.Proofs.Ytdhjhadcadcceaa
/-- The statement, under a short name. -/
theorem fnExactDiskDo_holds : Rows.FnExactDiskDoSaid := fnExactDiskDo.proved
end Go.Proofs.Ytdhjhadcadcceaa
