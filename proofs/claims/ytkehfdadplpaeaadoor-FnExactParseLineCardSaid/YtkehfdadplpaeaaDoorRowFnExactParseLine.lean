/- The statement FnExactParseLine: the law's call returns true for every input, and its arguments read as before. -/
import Derived.Test.YtkehfdadplpaeaaDoorCards
import Derived.Test.YtkehfdadplpaeaaDoorTie
import Derived.Test.YtkehfdadplpaeaaDoorDoor
import Derived.Test.YtkehfdadplpaeaaDoorVPLShl
import Derived.Carry
import Derived.ChangeVars
import Derived.LaidMore
import Derived.Lay
import Derived.SevenTiedAt
import Derived.Stop.Joined
import Derived.Shelf.Vars
import Derived.Test.YtkehfdadplpaeaaDoorRows
import Derived.Test.YtkehfdadplpaeaaDoorPFnExactParseLinex12
import Derived.Test.YtkehfdadplpaeaaDoorPureFnExactParseLine
import Derived.Test.YtkehfdadplpaeaaDoorVPLOpn
import Derived.Test.YtkehfdadplpaeaaDoorVPLWSized
import Derived.WalkKit
import Derived.ProofKit
import Derived.OpenShut
import Derived.ShutString
import Derived.ChangeOld
import Derived.Below
import Derived.SizedLaws
namespace Go.Proofs.YtkehfdadplpaeaaDoor.fnExactParseLine
open Go.ChangeShapes Go.WideShapes Go.ChangeAt Go.RowKit
open Go.ChangeMaps (open_string shut_string)
open Go.Proofs.YtkehfdadplpaeaaDoorW.PrintWords (Kd)
set_option linter.unusedVariables false
theorem own : ownKnob Tryd.prog.godebug = none := by kernel_rfl
theorem laidOut : laidOutB Tryd.prog = true := by kernel_rfl
set_option maxRecDepth 100000 in
theorem lifted (os : Os) (started : os.Started) (H : Type) (enc : TypeId × Value → H) :
    ReturnsInHanded {} Tryd.checked os 3 .any (fun w args => (Rows.fnExactParseLineSpec.pre enc Tryd.prog Tryd.f3 Rows.fnExactParseLineRow.domain false w args ∧ laidMetH Tryd.prog Rows.fnExactParseLineRow.laid w) ∧ sizedMet enc Tryd.prog Tryd.f3 (OpenSpec.ofChange Rows.fnExactParseLineSpec) false w args) (Rows.fnExactParseLineSpec.post enc Tryd.prog Tryd.f3 false true false false) := by
  refine wrapDoor (C := Tryd.checked) (X := fun w _ => laidMetH Tryd.prog Rows.fnExactParseLineRow.laid w) (fun _ _ _ hh h => h.of_heap hh) own started (by kernel_rfl) Tryd.func3
    (ChangeSpec.witness_shaped (enc := enc) (C := Tryd.checked) (os := os) (X := fun w _ => laidMetH Tryd.prog Rows.fnExactParseLineRow.laid w) false (Shl.laidWorld os) #[.slice none 0 0] 8 (World.laidAll_os _ _ _)
      (World.shaped_of_ZipB (by kernel_rfl) (by kernel_rfl)) (by kernel_rfl) (by kernel_rfl) (by kernel_rfl)
      (Shl.door_met os _)) ?_
  intro W base args ds gs before hval0 hW hsz0 hL hsh
  have hsz : (DataW.weightsEach Tryd.prog (Tryd.f3.params.toList ++ Rows.fnExactParseLineSpec.plain.varTypes Tryd.prog) (ds ++ gs)).all (· ≤ reachBytes) = true := hsz0
  have hval : ∀ (j : Nat) t v, Tryd.f3.params[j]? = some t → args[j]? = some v → Value.okWide Tryd.prog W .any base t v := hval0
  have hW' := hW
  obtain ⟨p, q, hA0, hV, rfl, hfz, hnd⟩ := hW
  have hA : DataW.TrodAll enc Tryd.prog W 0 (fun _ => true) true Tryd.f3.params.toList args.toList ds p := hA0
  rw [Tryd.params3] at hA hval hsz
  obtain ⟨v0, vs0, d0, ds0, p0, q0, hargs, rfl, rfl, h0, r0⟩ := trodAll_cons hA
  obtain ⟨rfl, rfl, rfl⟩ := trodAll_nil r0
  obtain rfl : args = #[v0] := by cases args; simp_all
  obtain ⟨gv, tv, csv, fuelv, dv, pv, rfl, hgv, htv, hvv, hdv, rfl⟩ := trodVars_one hV
  have hMx : ∃ m : Int, W.cell? ⟨1, 0, none⟩ = some (.int .i64 m) := cell_of_shapedOpen_int (zero := #[.int .i64 0]) (t := 3) hsh (of_decide_eq_true (by kernel_rfl)) (by kernel_rfl) rfl (by kernel_rfl) (by kernel_rfl) Tryd.underlying3
  obtain ⟨hG0, bE, hvE⟩ := Shl.globS_of_laid hL hMx
  obtain rfl := Option.some.inj (hvv.symm.trans hvE)
  obtain rfl := Option.some.inj (Shl.gS.symm.trans hgv)
  obtain rfl := Option.some.inj (Shl.tS.symm.trans htv)
  have k0 := h0
  have lt0 : ∀ x ∈ p0, x.block < W.heap.size := by obtain ⟨m, hm⟩ := k0; exact DataW.trod_lt m _ _ _ hm
  obtain ⟨x0, xl0, xc0, rfl⟩ := okWide_slice Tryd.underlying22 (hval 0 22 v0 rfl rfl)
  have y0 : xl0 * 1 ≤ 140737488351232 := Go.Proofs.YtkehfdadplpaeaaDoorW.PrintWords.sized_ints hsz (j := 0) (t := 22) rfl rfl Tryd.underlying22 Tryd.underlying5 (by kernel_rfl) (by kernel_rfl) h0
  obtain ⟨fuel0, hf0⟩ := h0
  obtain ⟨l0, ky0, g0⟩ := Opn.row_ Tryd.underlying22 (Opn.int_ Tryd.underlying5 (by kernel_rfl)) hf0
  obtain ⟨A0, c0, e0, hc0, hr0⟩ := ky0
  simp only [Value.cells, List.cons.injEq, Value.slice.injEq, and_true] at e0
  obtain ⟨rfl, rfl, rfl⟩ := e0
  clear hA0 hval0 hsz0 hsz
  obtain ⟨k, h⟩ := Pure.FnExactParseLine l0 g0.1 y0 g0.2
  refine (PFnExactParseLine.laws_FnExactParseLine.calls (k := k) (A0 := x0) (c0 := xc0) (l0 := l0) (hr0 := hr0) (hc0 := hc0) (r := true) (w := W) (h := h) (hrt := ⟨rfl⟩) (hG0 := hG0)).mono fun e W' ⟨he, bel0⟩ => ?_
  have bel : Below W.heap.size W W' := bel0
  subst he
  have hvb : DataW.Trod enc Tryd.prog W' 0 (fun b => decide (b < W.heap.size)) true 75 (.map (some bE)) dv pv := Below.trod laidOut (by kernel_rfl) (of_decide_eq_true (by kernel_rfl)) (⟨fuelv, hdv⟩ : DataW.Trod enc Tryd.prog W 0 (fun _ => true) true 75 (.map (some bE)) dv pv) bel (DataW.trod_lt fuelv _ _ _ hdv)
  obtain ⟨fuelb, hdb⟩ := hvb
  exact ⟨_, rfl, _, _, _, [], _, _, hW', trodAll_mk1 (shut_bool Tryd.underlying4 _), (trodAll_cons_mk (Below.trod laidOut (by kernel_rfl) (of_decide_eq_true (by kernel_rfl)) k0 bel lt0) trodAll_mk0), trodVars_mk1 Shl.gS Shl.tS (Shl.var_below bel hvv) hdb, bel.frame _, fun h => by cases h⟩
theorem over : Rows.fnExactParseLineRow.holds Tryd.pinned (OpenSpec.ofChange Rows.fnExactParseLineSpec) :=
  OpenClaim.holds_of_wide 3 Tryd.f3 rfl rfl rfl rfl rfl rfl rfl ⟨rfl, rfl, rfl, rfl, rfl⟩ rfl rfl rfl rfl rfl (by kernel_rfl) Tryd.func3 (by kernel_rfl)
    (of_decide_eq_true (by kernel_rfl)) (by unfold Func.isWrapper; first | (rw [if_pos (by decide +kernel)]; kernel_rfl) | (rw [if_neg (by decide +kernel)]; exact ⟨rfl, rfl⟩))
    (fun os started H enc _ => lifted os started H enc)
theorem card : Rows.FnExactParseLineCardSaid :=
  Claim7.holds_tied_plain_at .later [] [.data, .data, .data, .data, .sentinel, .sentinel, .mapped, .pinned] true (true, "d647dc85504f665375c78a8c7cd2563f72f22b7f9695b6e9ff12fd830de12229") true over (fun _ h => by cases h) (by kernel_rfl) (fun _ h => by cases h) fnExactParseLine_row_tie rfl ⟨rfl, rfl⟩ (by kernel_rfl) rfl
    (fun f fn hf hfn => by
      obtain rfl : f = 3 := Option.some.inj ((show Tryd.prog.funcNamed "loop.example/s01525/laws.FnExactParseLine" = some 3 by kernel_rfl).symm.trans hf) |>.symm
      obtain rfl : fn = Tryd.f3 := (Option.some.inj (Tryd.func3.symm.trans hfn)).symm
      exact ⟨by kernel_rfl, fun j t ht => by
        rw [Tryd.params3] at ht
        have hm : t ∈ [22] := by simpa using Array.mem_of_getElem? ht
        have hall : ([22].all fun u => !Tryd.prog.wantsStandIn u) = true := by kernel_rfl
        exact (show Tryd.prog.wantsStandIn t = false by simpa using List.all_eq_true.1 hall t hm)⟩)
    (by kernel_rfl)
end Go.Proofs.YtkehfdadplpaeaaDoor.fnExactParseLine
namespace Go.Proofs.YtkehfdadplpaeaaDoor
/-- The statement, under a short name. -/
theorem fnExactParseLine_holds : Rows.FnExactParseLineCardSaid := fnExactParseLine.card
end Go.Proofs.YtkehfdadplpaeaaDoor
