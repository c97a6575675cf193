/- The statement FnExactFormatAnswer: the law's call returns true for every input, and its arguments read as before. -/
import Derived.Test.YtkehfdadplpaeaaDoorCards
import Derived.Test.YtkehfdadplpaeaaDoorTie
import Derived.Test.YtkehfdadplpaeaaDoorDoor
import Derived.Test.YtkehfdadplpaeaaDoorTbl
import Derived.LaidMore
import Derived.Lay
import Derived.SevenTiedAt
import Derived.Stop.Joined
import Derived.Shelf.Vars
import Derived.Test.YtkehfdadplpaeaaDoorRows
import Derived.Test.YtkehfdadplpaeaaDoorPFnExactFormatAnswerx6
import Derived.Test.YtkehfdadplpaeaaDoorPureFnExactFormatAnswer
import Derived.Test.YtkehfdadplpaeaaDoorOpn
import Derived.Test.YtkehfdadplpaeaaDoorWSized
import Derived.WalkKit
import Derived.ProofKit
import Derived.OpenShut
import Derived.ShutString
import Derived.ChangeOld
import Derived.Below
import Derived.SizedLaws
namespace Go.Proofs.YtkehfdadplpaeaaDoor.fnExactFormatAnswer
open Go.ChangeShapes Go.WideShapes Go.ChangeAt Go.RowKit
open Go.ChangeMaps (open_string shut_string)
open Go.Proofs.YtkehfdadplpaeaaDoorW.PrintWords (Kd)
set_option linter.unusedVariables false
theorem own : ownKnob Tryd.prog.godebug = none := by kernel_rfl
theorem laidOut : laidOutB Tryd.prog = true := by kernel_rfl
set_option maxRecDepth 100000 in
theorem lifted (os : Os) (started : os.Started) (H : Type) (enc : TypeId × Value → H) :
    ReturnsInHanded {} Tryd.checked os 5 .any (fun w args => (Rows.fnExactFormatAnswerSpec.pre enc Tryd.prog Tryd.f5 Rows.fnExactFormatAnswerRow.domain false w args ∧ laidMetH Tryd.prog Rows.fnExactFormatAnswerRow.laid w) ∧ sizedMet enc Tryd.prog Tryd.f5 (OpenSpec.ofChange Rows.fnExactFormatAnswerSpec) false w args) (Rows.fnExactFormatAnswerSpec.post enc Tryd.prog Tryd.f5 false true false false) := by
  refine wrapDoor (C := Tryd.checked) (X := fun w _ => laidMetH Tryd.prog Rows.fnExactFormatAnswerRow.laid w) (fun _ _ _ hh h => h.of_heap hh) own started (by kernel_rfl) Tryd.func5
    (ChangeSpec.witness_shaped (enc := enc) (C := Tryd.checked) (os := os) (X := fun w _ => laidMetH Tryd.prog Rows.fnExactFormatAnswerRow.laid w) false (World.laidAll Tryd.prog os Rows.fnExactFormatAnswerRow.laid) #[.agg #[.int .i64 0, .string ByteArray.empty, .string ByteArray.empty, .int .i64 0, .int .i64 0, .int .i64 0, .string ByteArray.empty], .agg #[.int .i64 0, .string ByteArray.empty, .slice none 0 0, .int .i64 0, .int .i64 0, .int .i64 0, .int .i64 0, .int .i64 0, .int .i64 0, .int .i64 0, .int .i64 0, .int .i64 0, .int .i64 0]] 8 (World.laidAll_os _ _ _)
      (World.shaped_of_ZipB (by kernel_rfl) (by kernel_rfl)) (by kernel_rfl) (by kernel_rfl) (by kernel_rfl)
      (by rw [MakeChecks.laidMetH_plain _ _ _ (by kernel_rfl)]; exact laidMet_laidAll _ (by kernel_rfl) (by kernel_rfl))) ?_
  intro W base args ds gs before hval0 hW hsz0 hL hsh
  have hsz : (DataW.weightsEach Tryd.prog (Tryd.f5.params.toList ++ Rows.fnExactFormatAnswerSpec.plain.varTypes Tryd.prog) (ds ++ gs)).all (· ≤ reachBytes) = true := hsz0
  have hval : ∀ (j : Nat) t v, Tryd.f5.params[j]? = some t → args[j]? = some v → Value.okWide Tryd.prog W .any base t v := hval0
  have hW' := hW
  obtain ⟨p, q, hA0, hV, rfl, hfz, hnd⟩ := hW
  have hA : DataW.TrodAll enc Tryd.prog W 0 (fun _ => true) true Tryd.f5.params.toList args.toList ds p := hA0
  rw [Tryd.params5] at hA hval hsz
  obtain ⟨v0, vs0, d0, ds0, p0, q0, hargs, rfl, rfl, h0, r0⟩ := trodAll_cons hA
  obtain ⟨v1, vs1, d1, ds1, p1, q1, rfl, rfl, rfl, h1, r1⟩ := trodAll_cons r0
  obtain ⟨rfl, rfl, rfl⟩ := trodAll_nil r1
  obtain rfl : args = #[v0, v1] := by cases args; simp_all
  obtain ⟨rfl, rfl⟩ := trodVars_none hV
  have k0 := h0
  have lt0 : ∀ x ∈ p0, x.block < W.heap.size := by obtain ⟨m, hm⟩ := k0; exact DataW.trod_lt m _ _ _ hm
  obtain ⟨cs0, rfl, hs0⟩ := okWide_struct Tryd.underlying45 (hval 0 45 v0 rfl rfl)
  obtain ⟨fuel0, hg0⟩ := h0
  have hf0 : DataW.trod enc Tryd.prog W 0 (fun _ => true) true fuel0 45 cs0.toList = some (d0, p0) := hg0
  have hl0 := Opn.len_ Tryd.underlying45 hf0
  have hn0 : Tryd.prog.cellsOf 45 = 7 := by kernel_rfl
  rw [hn0] at hl0
  obtain ⟨a0_0, ky0_0, g0_0⟩ := Opn.field_ Tryd.underlying45 0 rfl (Opn.int_ Tryd.underlying2 (by kernel_rfl)) hf0
  have p0_0 : (cs0.toList.drop 0).take 1 = [.int .i64 a0_0] := ky0_0
  obtain ⟨a0_1, ky0_1, g0_1⟩ := Opn.field_ Tryd.underlying45 1 rfl (Opn.string_ Tryd.underlying9 (by kernel_rfl)) hf0
  have p0_1 : (cs0.toList.drop 1).take 1 = [.string a0_1] := ky0_1
  obtain ⟨a0_2, ky0_2, g0_2⟩ := Opn.field_ Tryd.underlying45 2 rfl (Opn.string_ Tryd.underlying9 (by kernel_rfl)) hf0
  have p0_2 : (cs0.toList.drop 2).take 1 = [.string a0_2] := ky0_2
  obtain ⟨a0_3, ky0_3, g0_3⟩ := Opn.field_ Tryd.underlying45 3 rfl (Opn.int_ Tryd.underlying2 (by kernel_rfl)) hf0
  have p0_3 : (cs0.toList.drop 3).take 1 = [.int .i64 a0_3] := ky0_3
  obtain ⟨a0_4, ky0_4, g0_4⟩ := Opn.field_ Tryd.underlying45 4 rfl (Opn.int_ Tryd.underlying2 (by kernel_rfl)) hf0
  have p0_4 : (cs0.toList.drop 4).take 1 = [.int .i64 a0_4] := ky0_4
  obtain ⟨a0_5, ky0_5, g0_5⟩ := Opn.field_ Tryd.underlying45 5 rfl (Opn.int_ Tryd.underlying2 (by kernel_rfl)) hf0
  have p0_5 : (cs0.toList.drop 5).take 1 = [.int .i64 a0_5] := ky0_5
  obtain ⟨a0_6, ky0_6, g0_6⟩ := Opn.field_ Tryd.underlying45 6 rfl (Opn.string_ Tryd.underlying9 (by kernel_rfl)) hf0
  have p0_6 : (cs0.toList.drop 6).take 1 = [.string a0_6] := ky0_6
  have es0 : cs0.toList = [.int .i64 a0_0, .string a0_1, .string a0_2, .int .i64 a0_3, .int .i64 a0_4, .int .i64 a0_5, .string a0_6] := by
    have q := List.drop_zero (l := cs0.toList)
    rw [← q, Opn.cell_ p0_0, Opn.cell_ p0_1, Opn.cell_ p0_2, Opn.cell_ p0_3, Opn.cell_ p0_4, Opn.cell_ p0_5, Opn.cell_ p0_6, List.drop_eq_nil_of_le (by omega)]
  obtain rfl : cs0 = #[.int .i64 a0_0, .string a0_1, .string a0_2, .int .i64 a0_3, .int .i64 a0_4, .int .i64 a0_5, .string a0_6] := by apply Array.ext'; rw [es0]
  have k1 := h1
  have lt1 : ∀ x ∈ p1, x.block < W.heap.size := by obtain ⟨m, hm⟩ := k1; exact DataW.trod_lt m _ _ _ hm
  obtain ⟨cs1, rfl, hs1⟩ := okWide_struct Tryd.underlying52 (hval 1 52 v1 rfl rfl)
  obtain ⟨fuel1, hg1⟩ := h1
  have hf1 : DataW.trod enc Tryd.prog W 0 (fun _ => true) true fuel1 52 cs1.toList = some (d1, p1) := hg1
  have hl1 := Opn.len_ Tryd.underlying52 hf1
  have hn1 : Tryd.prog.cellsOf 52 = 13 := by kernel_rfl
  rw [hn1] at hl1
  obtain ⟨a1_0, ky1_0, g1_0⟩ := Opn.field_ Tryd.underlying52 0 rfl (Opn.int_ Tryd.underlying2 (by kernel_rfl)) hf1
  have p1_0 : (cs1.toList.drop 0).take 1 = [.int .i64 a1_0] := ky1_0
  obtain ⟨a1_1, ky1_1, g1_1⟩ := Opn.field_ Tryd.underlying52 1 rfl (Opn.string_ Tryd.underlying9 (by kernel_rfl)) hf1
  have p1_1 : (cs1.toList.drop 1).take 1 = [.string a1_1] := ky1_1
  obtain ⟨l1_2, ky1_2, g1_2⟩ := Opn.field_ Tryd.underlying52 2 rfl (Opn.slice_ Tryd.underlying46 (by kernel_rfl) (Opn.string_ Tryd.underlying9 (by kernel_rfl))) hf1
  obtain ⟨A1_2, c1_2, e1_2, hc1_2, hr1_2⟩ := ky1_2
  have p1_2 : (cs1.toList.drop 2).take 1 = [.slice A1_2 l1_2.length c1_2] := e1_2
  obtain ⟨a1_3, ky1_3, g1_3⟩ := Opn.field_ Tryd.underlying52 3 rfl (Opn.int_ Tryd.underlying2 (by kernel_rfl)) hf1
  have p1_3 : (cs1.toList.drop 3).take 1 = [.int .i64 a1_3] := ky1_3
  obtain ⟨nhf1_4, yhf1_4, hf1_4⟩ := Opn.sub_ Tryd.underlying52 4 rfl hf1
  obtain ⟨a1_4, ky1_4, g1_4⟩ := Opn.field_ Tryd.underlying48 0 rfl (Opn.int_ Tryd.underlying2 (by kernel_rfl)) hf1_4
  have p1_4 : (((cs1.toList.drop 4).take 4).drop 0).take 1 = [.int .i64 a1_4] := ky1_4
  replace p1_4 := Opn.nest_ p1_4
  obtain ⟨a1_5, ky1_5, g1_5⟩ := Opn.field_ Tryd.underlying48 1 rfl (Opn.int_ Tryd.underlying2 (by kernel_rfl)) hf1_4
  have p1_5 : (((cs1.toList.drop 4).take 4).drop 1).take 1 = [.int .i64 a1_5] := ky1_5
  replace p1_5 := Opn.nest_ p1_5
  obtain ⟨a1_6, ky1_6, g1_6⟩ := Opn.field_ Tryd.underlying48 2 rfl (Opn.int_ Tryd.underlying2 (by kernel_rfl)) hf1_4
  have p1_6 : (((cs1.toList.drop 4).take 4).drop 2).take 1 = [.int .i64 a1_6] := ky1_6
  replace p1_6 := Opn.nest_ p1_6
  obtain ⟨a1_7, ky1_7, g1_7⟩ := Opn.field_ Tryd.underlying48 3 rfl (Opn.int_ Tryd.underlying2 (by kernel_rfl)) hf1_4
  have p1_7 : (((cs1.toList.drop 4).take 4).drop 3).take 1 = [.int .i64 a1_7] := ky1_7
  replace p1_7 := Opn.nest_ p1_7
  obtain ⟨nhf1_5, yhf1_5, hf1_5⟩ := Opn.sub_ Tryd.underlying52 5 rfl hf1
  obtain ⟨a1_8, ky1_8, g1_8⟩ := Opn.field_ Tryd.underlying50 0 rfl (Opn.int_ Tryd.underlying2 (by kernel_rfl)) hf1_5
  have p1_8 : (((cs1.toList.drop 8).take 5).drop 0).take 1 = [.int .i64 a1_8] := ky1_8
  replace p1_8 := Opn.nest_ p1_8
  obtain ⟨a1_9, ky1_9, g1_9⟩ := Opn.field_ Tryd.underlying50 1 rfl (Opn.int_ Tryd.underlying2 (by kernel_rfl)) hf1_5
  have p1_9 : (((cs1.toList.drop 8).take 5).drop 1).take 1 = [.int .i64 a1_9] := ky1_9
  replace p1_9 := Opn.nest_ p1_9
  obtain ⟨a1_10, ky1_10, g1_10⟩ := Opn.field_ Tryd.underlying50 2 rfl (Opn.int_ Tryd.underlying2 (by kernel_rfl)) hf1_5
  have p1_10 : (((cs1.toList.drop 8).take 5).drop 2).take 1 = [.int .i64 a1_10] := ky1_10
  replace p1_10 := Opn.nest_ p1_10
  obtain ⟨a1_11, ky1_11, g1_11⟩ := Opn.field_ Tryd.underlying50 3 rfl (Opn.int_ Tryd.underlying2 (by kernel_rfl)) hf1_5
  have p1_11 : (((cs1.toList.drop 8).take 5).drop 3).take 1 = [.int .i64 a1_11] := ky1_11
  replace p1_11 := Opn.nest_ p1_11
  obtain ⟨a1_12, ky1_12, g1_12⟩ := Opn.field_ Tryd.underlying50 4 rfl (Opn.int_ Tryd.underlying2 (by kernel_rfl)) hf1_5
  have p1_12 : (((cs1.toList.drop 8).take 5).drop 4).take 1 = [.int .i64 a1_12] := ky1_12
  replace p1_12 := Opn.nest_ p1_12
  have es1 : cs1.toList = [.int .i64 a1_0, .string a1_1, .slice A1_2 l1_2.length c1_2, .int .i64 a1_3, .int .i64 a1_4, .int .i64 a1_5, .int .i64 a1_6, .int .i64 a1_7, .int .i64 a1_8, .int .i64 a1_9, .int .i64 a1_10, .int .i64 a1_11, .int .i64 a1_12] := by
    have q := List.drop_zero (l := cs1.toList)
    rw [← q, Opn.cell_ p1_0, Opn.cell_ p1_1, Opn.cell_ p1_2, Opn.cell_ p1_3, Opn.cell_ p1_4, Opn.cell_ p1_5, Opn.cell_ p1_6, Opn.cell_ p1_7, Opn.cell_ p1_8, Opn.cell_ p1_9, Opn.cell_ p1_10, Opn.cell_ p1_11, Opn.cell_ p1_12, List.drop_eq_nil_of_le (by omega)]
  obtain rfl : cs1 = #[.int .i64 a1_0, .string a1_1, .slice A1_2 l1_2.length c1_2, .int .i64 a1_3, .int .i64 a1_4, .int .i64 a1_5, .int .i64 a1_6, .int .i64 a1_7, .int .i64 a1_8, .int .i64 a1_9, .int .i64 a1_10, .int .i64 a1_11, .int .i64 a1_12] := by apply Array.ext'; rw [es1]
  clear hA0 hval0 hsz0 hsz
  obtain ⟨k, h⟩ := Pure.FnExactFormatAnswer a0_0 a0_1 a0_2 a0_3 a0_4 a0_5 a0_6 a1_0 a1_1 l1_2 a1_3 a1_4 a1_5 a1_6 a1_7 a1_8 a1_9 a1_10 a1_11 a1_12 g0_0 g0_1 g0_2 g0_3 g0_4 g0_5 g0_6 g1_0 g1_1 g1_2 g1_3 g1_4 g1_5 g1_6 g1_7 g1_8 g1_9 g1_10 g1_11 g1_12
  have hL2 := hL
  rw [MakeChecks.laidMetH_plain _ _ _ (by kernel_rfl)] at hL2
  have hG0 : PFnExactFormatAnswer.GlobT W := Tbl.tabIs_of_reads (g := 4) (t := 159) (e := 137) (n := 20) (by kernel_rfl) (by kernel_rfl) Tryd.underlying159 Tryd.underlying137 (by kernel_rfl) (by kernel_rfl) (show Lib.VarReads Tryd.prog W "internal/strconv.uint64pow10" (Lib.tabData .u64 Lib.pow10Tab) from Lib.laidMet.reads hL2 (.tail _ (.tail _ (.head _))))
  refine (PFnExactFormatAnswer.laws_FnExactFormatAnswer.calls (k := k) (a0_0 := a0_0) (a0_1 := a0_1) (a0_2 := a0_2) (a0_3 := a0_3) (a0_4 := a0_4) (a0_5 := a0_5) (a0_6 := a0_6) (a1_0 := a1_0) (a1_1 := a1_1) (A1_2 := A1_2) (c1_2 := c1_2) (l1_2 := l1_2) (hr1_2 := hr1_2) (hc1_2 := hc1_2) (a1_3 := a1_3) (a1_4 := a1_4) (a1_5 := a1_5) (a1_6 := a1_6) (a1_7 := a1_7) (a1_8 := a1_8) (a1_9 := a1_9) (a1_10 := a1_10) (a1_11 := a1_11) (a1_12 := a1_12) (r := true) (w := W) (h := h) (hrt := ⟨rfl⟩) (hG0 := hG0)).mono fun e W' ⟨he, bel0⟩ => ?_
  have bel : Below W.heap.size W W' := bel0
  subst he
  exact ⟨_, rfl, _, _, _, [], _, [], hW', trodAll_mk1 (shut_bool Tryd.underlying4 _), (trodAll_cons_mk (Below.trod laidOut (by kernel_rfl) (of_decide_eq_true (by kernel_rfl)) k0 bel lt0) (trodAll_cons_mk (Below.trod laidOut (by kernel_rfl) (of_decide_eq_true (by kernel_rfl)) k1 bel lt1) trodAll_mk0)), rfl, bel.frame _, fun h => by cases h⟩
theorem over : Rows.fnExactFormatAnswerRow.holds Tryd.pinned (OpenSpec.ofChange Rows.fnExactFormatAnswerSpec) :=
  OpenClaim.holds_of_wide 5 Tryd.f5 rfl rfl rfl rfl rfl rfl rfl ⟨rfl, rfl, rfl, rfl, rfl⟩ rfl rfl rfl rfl rfl (by kernel_rfl) Tryd.func5 (by kernel_rfl)
    (of_decide_eq_true (by kernel_rfl)) (by unfold Func.isWrapper; first | (rw [if_pos (by decide +kernel)]; kernel_rfl) | (rw [if_neg (by decide +kernel)]; exact ⟨rfl, rfl⟩))
    (fun os started H enc _ => lifted os started H enc)
theorem card : Rows.FnExactFormatAnswerCardSaid :=
  Claim7.holds_tied_plain_at .later [] [.data, .data, .data] true (true, "d647dc85504f665375c78a8c7cd2563f72f22b7f9695b6e9ff12fd830de12229") true over (fun _ h => by cases h) (by kernel_rfl) (fun _ h => by cases h) fnExactFormatAnswer_row_tie rfl ⟨rfl, rfl⟩ (by kernel_rfl) rfl
    (fun f fn hf hfn => by
      obtain rfl : f = 5 := Option.some.inj ((show Tryd.prog.funcNamed "loop.example/s01525/laws.FnExactFormatAnswer" = some 5 by kernel_rfl).symm.trans hf) |>.symm
      obtain rfl : fn = Tryd.f5 := (Option.some.inj (Tryd.func5.symm.trans hfn)).symm
      exact ⟨by kernel_rfl, fun j t ht => by
        rw [Tryd.params5] at ht
        have hm : t ∈ [45, 52] := by simpa using Array.mem_of_getElem? ht
        have hall : ([45, 52].all fun u => !Tryd.prog.wantsStandIn u) = true := by kernel_rfl
        exact (show Tryd.prog.wantsStandIn t = false by simpa using List.all_eq_true.1 hall t hm)⟩)
    (by kernel_rfl)
end Go.Proofs.YtkehfdadplpaeaaDoor.fnExactFormatAnswer
namespace Go.Proofs.YtkehfdadplpaeaaDoor
/-- The statement, under a short name. -/
theorem fnExactFormatAnswer_holds : Rows.FnExactFormatAnswerCardSaid := fnExactFormatAnswer.card
end Go.Proofs.YtkehfdadplpaeaaDoor
