/- The statement FnPaths: the law's call returns true for every input, and its arguments read as before. -/
import Derived.Test.YtjaiolojmglmiaaDoorCards
import Derived.Test.YtjaiolojmglmiaaDoorTie
import Derived.Test.YtjaiolojmglmiaaDoorDoor
import Derived.LaidMore
import Derived.Lay
import Derived.SevenTiedAt
import Derived.Stop.Joined
import Derived.Shelf.Vars
import Derived.Test.YtjaiolojmglmiaaDoorRows
import Derived.Test.YtjaiolojmglmiaaDoorPFnPathsx5
import Derived.Test.YtjaiolojmglmiaaDoorPureFnPaths
import Derived.Test.YtjaiolojmglmiaaDoorOpn
import Derived.Test.YtjaiolojmglmiaaDoorWSized
import Derived.WalkKit
import Derived.ProofKit
import Derived.OpenShut
import Derived.ShutString
import Derived.ChangeOld
import Derived.Below
import Derived.SizedLaws
namespace Go.Proofs.YtjaiolojmglmiaaDoor.fnPaths
open Go.ChangeShapes Go.WideShapes Go.ChangeAt Go.RowKit
open Go.ChangeMaps (open_string shut_string)
open Go.Proofs.YtjaiolojmglmiaaDoorW.PrintWords (Kd)
set_option linter.unusedVariables false
theorem own : ownKnob Tryd.prog.godebug = none := by kernel_rfl
theorem laidOut : laidOutB Tryd.prog = true := by kernel_rfl
set_option maxRecDepth 100000 in
theorem lifted (os : Os) (started : os.Started) (H : Type) (enc : TypeId × Value → H) :
    ReturnsInHanded {} Tryd.checked os 4 .any (fun w args => (Rows.fnPathsSpec.pre enc Tryd.prog Tryd.f4 Rows.fnPathsRow.domain false w args ∧ laidMetH Tryd.prog Rows.fnPathsRow.laid w) ∧ sizedMet enc Tryd.prog Tryd.f4 (OpenSpec.ofChange Rows.fnPathsSpec) false w args) (Rows.fnPathsSpec.post enc Tryd.prog Tryd.f4 false true false false) := by
  refine wrapDoor (C := Tryd.checked) (X := fun w _ => laidMetH Tryd.prog Rows.fnPathsRow.laid w) (fun _ _ _ hh h => h.of_heap hh) own started (by kernel_rfl) Tryd.func4
    (ChangeSpec.witness_shaped (enc := enc) (C := Tryd.checked) (os := os) (X := fun w _ => laidMetH Tryd.prog Rows.fnPathsRow.laid w) false (World.laidAll Tryd.prog os Rows.fnPathsRow.laid) #[.slice none 0 0] 8 (World.laidAll_os _ _ _)
      (World.shaped_of_ZipB (by kernel_rfl) (by kernel_rfl)) (by kernel_rfl) (by kernel_rfl) (by kernel_rfl)
      (by rw [MakeChecks.laidMetH_plain _ _ _ (by kernel_rfl)]; exact laidMet_laidAll _ (by kernel_rfl) (by kernel_rfl))) ?_
  intro W base args ds gs before hval0 hW hsz0 hL hsh
  have hsz : (DataW.weightsEach Tryd.prog (Tryd.f4.params.toList ++ Rows.fnPathsSpec.plain.varTypes Tryd.prog) (ds ++ gs)).all (· ≤ reachBytes) = true := hsz0
  have hval : ∀ (j : Nat) t v, Tryd.f4.params[j]? = some t → args[j]? = some v → Value.okWide Tryd.prog W .any base t v := hval0
  have hW' := hW
  obtain ⟨p, q, hA0, hV, rfl, hfz, hnd⟩ := hW
  have hA : DataW.TrodAll enc Tryd.prog W 0 (fun _ => true) true Tryd.f4.params.toList args.toList ds p := hA0
  rw [Tryd.params4] at hA hval hsz
  obtain ⟨v0, vs0, d0, ds0, p0, q0, hargs, rfl, rfl, h0, r0⟩ := trodAll_cons hA
  obtain ⟨rfl, rfl, rfl⟩ := trodAll_nil r0
  obtain rfl : args = #[v0] := by cases args; simp_all
  obtain ⟨rfl, rfl⟩ := trodVars_none hV
  have k0 := h0
  have lt0 : ∀ x ∈ p0, x.block < W.heap.size := by obtain ⟨m, hm⟩ := k0; exact DataW.trod_lt m _ _ _ hm
  obtain ⟨x0, xl0, xc0, rfl⟩ := okWide_slice Tryd.underlying29 (hval 0 29 v0 rfl rfl)
  have y0 : xl0 * 1 ≤ 140737488351232 := Go.Proofs.YtjaiolojmglmiaaDoorW.PrintWords.sized_ints hsz (j := 0) (t := 29) rfl rfl Tryd.underlying29 Tryd.underlying5 (by kernel_rfl) (by kernel_rfl) h0
  obtain ⟨fuel0, hf0⟩ := h0
  obtain ⟨l0, ky0, g0⟩ := Opn.row_ Tryd.underlying29 (Opn.int_ Tryd.underlying5 (by kernel_rfl)) hf0
  obtain ⟨A0, c0, e0, hc0, hr0⟩ := ky0
  simp only [Value.cells, List.cons.injEq, Value.slice.injEq, and_true] at e0
  obtain ⟨rfl, rfl, rfl⟩ := e0
  clear hA0 hval0 hsz0 hsz
  obtain ⟨k, h⟩ := Pure.FnPaths l0 g0.1 y0 g0.2
  have hG0 : PFnPaths.GlobM W := cell_of_shapedOpen_int (zero := #[.int .i64 0]) (t := 3) hsh (of_decide_eq_true (by kernel_rfl)) (by kernel_rfl) rfl (by kernel_rfl) (by kernel_rfl) Tryd.underlying3
  refine (PFnPaths.laws_FnPaths.calls (k := k) (A0 := x0) (c0 := xc0) (l0 := l0) (hr0 := hr0) (hc0 := hc0) (r := true) (w := W) (h := h) (hrt := ⟨rfl⟩) (hG0 := hG0)).mono fun e W' ⟨he, bel0⟩ => ?_
  have bel : Below W.heap.size W W' := bel0
  subst he
  exact ⟨_, rfl, _, _, _, [], _, [], hW', trodAll_mk1 (shut_bool Tryd.underlying4 _), (trodAll_cons_mk (Below.trod laidOut (by kernel_rfl) (of_decide_eq_true (by kernel_rfl)) k0 bel lt0) trodAll_mk0), rfl, bel.frame _, fun h => by cases h⟩
theorem over : Rows.fnPathsRow.holds Tryd.pinned (OpenSpec.ofChange Rows.fnPathsSpec) :=
  OpenClaim.holds_of_wide 4 Tryd.f4 rfl rfl rfl rfl rfl rfl rfl ⟨rfl, rfl, rfl, rfl, rfl⟩ rfl rfl rfl rfl rfl (by kernel_rfl) Tryd.func4 (by kernel_rfl)
    (of_decide_eq_true (by kernel_rfl)) (by unfold Func.isWrapper; first | (rw [if_pos (by decide +kernel)]; kernel_rfl) | (rw [if_neg (by decide +kernel)]; exact ⟨rfl, rfl⟩))
    (fun os started H enc _ => lifted os started H enc)
theorem card : Rows.FnPathsCardSaid :=
  Claim7.holds_tied_plain_at .later [] [.data, .pinned] true (true, "e1f55c671aa52619a1c3de79b8b5942b13c8ef4d22280bba1de765a654ee66bd") false over (fun _ h => by cases h) (by kernel_rfl) (fun _ h => by cases h) fnPaths_row_tie rfl ⟨rfl, rfl⟩ (by kernel_rfl) rfl
    (fun f fn hf hfn => by
      obtain rfl : f = 4 := Option.some.inj ((show Tryd.prog.funcNamed "loop.example/s01525/laws.FnPaths" = some 4 by kernel_rfl).symm.trans hf) |>.symm
      obtain rfl : fn = Tryd.f4 := (Option.some.inj (Tryd.func4.symm.trans hfn)).symm
      exact ⟨by kernel_rfl, fun j t ht => by
        rw [Tryd.params4] at ht
        have hm : t ∈ [29] := by simpa using Array.mem_of_getElem? ht
        have hall : ([29].all fun u => !Tryd.prog.wantsStandIn u) = true := by kernel_rfl
        exact (show Tryd.prog.wantsStandIn t = false by simpa using List.all_eq_true.1 hall t hm)⟩)
    (by kernel_rfl)
end Go.Proofs.YtjaiolojmglmiaaDoor.fnPaths
namespace Go.Proofs.YtjaiolojmglmiaaDoor
/-- The statement, under a short name. -/
theorem fnPaths_holds : Rows.FnPathsCardSaid := fnPaths.card
end Go.Proofs.YtjaiolojmglmiaaDoor
