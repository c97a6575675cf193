-- written by a program of this session (wip/src/print2.py)
import Derived.Test.YtkehfdadplpaeaaPFnExactLogNextx0
import Derived.Test.YtkehfdadplpaeaaPFnExactLogNextx9
namespace Go.Proofs.Ytkehfdadplpaeaa.PFnExactLogNext
open Go.RowKit Go.Proofs.YtkehfdadplpaeaaW.PrintWords Go.Proofs.YtkehfdadplpaeaaW.PrintLast Go.Proofs.YtkehfdadplpaeaaW.PrintMore
attribute [local go_sem] max2_int min2_int max_two min_two max_three min_three max_four min_four   -- for this text's walks alone
set_option linter.unusedVariables false
set_option linter.unusedSimpArgs false

/-! ### impl_takes: function 28 -/
def impl_takes.f (k : Nat) (a0_0 : Int) (a0_1 : Int) (a0_2 : Int) (a0_3 : Int) (a0_4 : Int) (a1_0 : Int) (l1_1 : List (S61)) (l1_2 : List Int) : Option (Bool) := (impl_ValidLog.f k a0_0 a0_1 a0_2 a0_3 a0_4).bind fun t433 => (if t433 = true then ((impl_ValidTxn.f k a1_0 l1_1 l1_2).bind fun t434 => (if t434 = true then (if a0_2 = a1_0 then (if a0_2 < 4294967295 then ((impl_TxnLength.f k a1_0 l1_1 l1_2).bind fun t435 => (some (decide (t435 ≤ (wrap64 (a0_0 - a0_4)))))) else (some false)) else (some false)) else (some false))) else (some false))
theorem impl_takes.mono : ∀ a0 a1 a2 a3 a4 a5 a6 a7 k, LeO (impl_takes.f k a0 a1 a2 a3 a4 a5 a6 a7) (impl_takes.f (k + 1) a0 a1 a2 a3 a4 a5 a6 a7) := by
  intro a0 a1 a2 a3 a4 a5 a6 a7 k
  unfold impl_takes.f
  repeat' first
      | (with_reducible exact impl_TxnLength.mono _ _ _ _)
      | (with_reducible exact impl_ValidLog.mono _ _ _ _ _ _)
      | (with_reducible exact impl_ValidTxn.mono _ _ _ _)
      | (with_reducible exact LeO.refl _)
      | (with_reducible exact LeO.none _)
      | (with_reducible refine LeO.ite ?_ ?_)
      | (with_reducible refine LeO.bind ?_ (fun _ => ?_))
      | exact impl_TxnLength.mono _ _ _ _
      | exact impl_ValidLog.mono _ _ _ _ _ _
      | exact impl_ValidTxn.mono _ _ _ _
      | exact LeO.none _
      | refine LeO.ite ?_ ?_
      | refine LeO.bind ?_ (fun _ => ?_)
def impl_takes.T1 : Bool × List (List Nat × List Nat) := (true, [([], []), ([0], [0]), ([1, 1], [1]), ([2], [2]), ([3, 2, 2], [2, 3]), ([2, 4], [2, 4]), ([5, 4], [5]), ([6], [6]), ([7, 6], [6, 7]), ([6], [6]), ([9, 6], [6, 9]), ([8, 10, 6], [6, 8, 10]), ([6, 11], [6, 11]), ([12, 6], [12]), ([13], [13]), ([14, 13], [13, 14]), ([15, 13], [13, 15]), ([13, 16], [13, 16]), ([17, 13], [17]), ([18], [18]), ([19, 18, 18], [18, 19]), ([18], [18]), ([21, 18], [18, 21]), ([18], [18]), ([23, 18], [18, 23]), ([22, 24, 18], [18, 22, 24]), ([20, 25, 18], [18, 20, 25]), ([18, 26], [18, 26]), ([27, 20, 0, 1, 2, 3, 4, 5, 6, 7, 8, 9, 10, 11, 12, 13, 14, 15, 16, 17, 18, 19, 20, 21, 22, 23, 24, 25, 26, 27], [27])])
def impl_takes.B1 : List Nat := [0, 1, 3, 7, 15, 31, 63, 127, 255, 127, 639, 2047, 4095, 8191, 16383, 32767, 65535, 131071, 262143, 524287, 1048575, 524287, 2621439, 524287, 8912895, 31981567, 67108863, 134217727, 268435455]
theorem impl_takes.tab1 : rtab .any (opsOf Try.f28 1) = impl_takes.T1 := by kernel_rfl
theorem impl_takes.bits1 : waitsOk impl_takes.T1.2 impl_takes.B1 = true := by kernel_rfl
set_option maxHeartbeats 8000000 in
set_option maxRecDepth 100000 in
theorem impl_takes.calls (k : Nat) (a0_0 : Int) (a0_1 : Int) (a0_2 : Int) (a0_3 : Int) (a0_4 : Int) (a1_0 : Int) (A1_1 : Option Addr) (c1_1 : Nat) (l1_1 : List (S61)) (A1_2 : Option Addr) (c1_2 : Nat) (l1_2 : List Int) (r : Bool) (w : World) (hr1_1 : Kd.C k61 w A1_1 l1_1.length l1_1) (hc1_1 : l1_1.length ≤ c1_1) (hr1_2 : Kd.C (Kd.int .i64) w A1_2 l1_2.length l1_2) (hc1_2 : l1_2.length ≤ c1_2) (h : impl_takes.f k a0_0 a0_1 a0_2 a0_3 a0_4 a1_0 l1_1 l1_2 = some r) :
    Calls Try.prog 28 #[.agg #[.int .i64 a0_0, .int .i64 a0_1, .int .i64 a0_2, .int .i64 a0_3, .int .i64 a0_4], .agg #[.int .i64 a1_0, .slice A1_1 l1_1.length c1_1, .slice A1_2 l1_2.length c1_2]] w fun e w' => e = .returned (.bool r) ∧ Below w.heap.size w w' := by
  have hu29 := Try.underlying29
  have hu34 := Try.underlying34
  have HR1_1 := Aside0.mk hr1_1
  have HC1_1 := Aside0.mk hc1_1
  clear hr1_1 hc1_1
  have HR1_2 := Aside0.mk hr1_2
  have HC1_2 := Aside0.mk hc1_2
  clear hr1_2 hc1_2
  have HB := Aside0.mk (Below.refl w.heap.size w)
  have H : ((impl_ValidLog.f k a0_0 a0_1 a0_2 a0_3 a0_4).bind fun t433 => (if t433 = true then ((impl_ValidTxn.f k a1_0 l1_1 l1_2).bind fun t434 => (if t434 = true then (if a0_2 = a1_0 then (if a0_2 < 4294967295 then ((impl_TxnLength.f k a1_0 l1_1 l1_2).bind fun t435 => (some (decide (t435 ≤ (wrap64 (a0_0 - a0_4)))))) else (some false)) else (some false)) else (some false))) else (some false))) = some r := h
  clear h
  replace H := Option.bind_eq_some_iff.mp H
  obtain ⟨t433, A30, H⟩ := H
  replace H : (if t433 = true then ((impl_ValidTxn.f k a1_0 l1_1 l1_2).bind fun t434 => (if t434 = true then (if a0_2 = a1_0 then (if a0_2 < 4294967295 then ((impl_TxnLength.f k a1_0 l1_1 l1_2).bind fun t435 => (some (decide (t435 ≤ (wrap64 (a0_0 - a0_4)))))) else (some false)) else (some false)) else (some false))) else (some false)) = some r := H
  have A3 := Aside0.mk A30
  clear A30
  by_cases c4 : t433 = true
  · subst c4
    have H1 : ((impl_ValidTxn.f k a1_0 l1_1 l1_2).bind fun t434 => (if t434 = true then (if a0_2 = a1_0 then (if a0_2 < 4294967295 then ((impl_TxnLength.f k a1_0 l1_1 l1_2).bind fun t435 => (some (decide (t435 ≤ (wrap64 (a0_0 - a0_4)))))) else (some false)) else (some false)) else (some false))) = some r := by rw [if_pos rfl] at H; exact H
    clear H
    have H := H1
    clear H1
    replace H := Option.bind_eq_some_iff.mp H
    obtain ⟨t434, A50, H⟩ := H
    replace H : (if t434 = true then (if a0_2 = a1_0 then (if a0_2 < 4294967295 then ((impl_TxnLength.f k a1_0 l1_1 l1_2).bind fun t435 => (some (decide (t435 ≤ (wrap64 (a0_0 - a0_4)))))) else (some false)) else (some false)) else (some false)) = some r := H
    have A5 := Aside0.mk A50
    clear A50
    by_cases c6 : t434 = true
    · subst c6
      have H1 : (if a0_2 = a1_0 then (if a0_2 < 4294967295 then ((impl_TxnLength.f k a1_0 l1_1 l1_2).bind fun t435 => (some (decide (t435 ≤ (wrap64 (a0_0 - a0_4)))))) else (some false)) else (some false)) = some r := by rw [if_pos rfl] at H; exact H
      clear H
      have H := H1
      clear H1
      by_cases c7 : a0_2 = a1_0
      · rw [if_pos c7] at H
        have c7b0 : (a0_2 == a1_0) = true := beq_iff_eq.mpr c7
        have c7b1 : (a0_2 != a1_0) = false := bne_eq_false_iff_eq.mpr c7
        clear c7
        by_cases c8 : a0_2 < 4294967295
        · rw [if_pos c8] at H
          have c8b0 : decide (a0_2 < 4294967295) = true := decide_eq_true c8
          clear c8
          replace H := Option.bind_eq_some_iff.mp H
          obtain ⟨t435, A90, H⟩ := H
          replace H : (some (decide (t435 ≤ (wrap64 (a0_0 - a0_4))))) = some r := H
          have A9 := Aside0.mk A90
          clear A90
          obtain rfl := Option.some.inj H
          go_enter Try.func28, Try.ntmps28
          try go_wp2_with (first | ((with_reducible refine gate_dst (N := 2) rfl ?_); refine box_event ?hg (N := 2) ?hd (cs := #[.int .i64 a0_0, .int .i64 a0_1, .int .i64 a0_2, .int .i64 a0_3, .int .i64 a0_4]) (t := 29) ?hr ?_; (case hd => rfl); (case hg => rfl); (case hr => first | (go_simp; done) | (go_simp; rfl)); intro gb431 hg w10 hbox hb; have n0_ := Aside0.mk (below_step (Rgn.bq HB.out) hb); have n1_ := Aside0.mk (hbox); have n2_ := Aside0.mk ((by rw [hg]; exact (below_size (Rgn.bq HB.out)) : w.heap.size ≤ gb431)); have n3_ := Aside0.mk ((by rw [hg]; exact (below_size (Rgn.bq HB.out)) : w.heap.size ≤ gb431)); clear HB; have HB := n0_; have BK431 := n1_; have GW431 := n2_; have GE431 := n3_; clear n0_ n1_ n2_ n3_; clear hb hbox hg) | ((with_reducible refine gate_dst (N := 3) rfl ?_); refine box_event ?hg (N := 3) ?hd (cs := #[.int .i64 a1_0, .slice A1_1 l1_1.length c1_1, .slice A1_2 l1_2.length c1_2]) (t := 34) ?hr ?_; (case hd => rfl); (case hg => rfl); (case hr => first | (go_simp; done) | (go_simp; rfl)); intro gb432 hg w11 hbox hb; have n0_ := Aside0.mk (Rgn.bb BK431.out hb); have n1_ := Aside0.mk (below_step (Rgn.bq HB.out) hb); have n2_ := Aside0.mk (hbox); have n3_ := Aside0.mk ((by rw [hg]; exact (below_size (Rgn.bq HB.out)) : w.heap.size ≤ gb432)); have n4_ := Aside0.mk ((by rw [hg]; exact (below_size (Rgn.bq HB.out)) : w.heap.size ≤ gb432)); have n5_ := Aside0.mk ((by rw [hg]; exact Nat.ne_of_lt (blk_lt (g := gb431) (o := .cells #[.int .i64 a0_0, .int .i64 a0_1, .int .i64 a0_2, .int .i64 a0_3, .int .i64 a0_4] 29 (0, 0)) (Rgn.kb BK431.out)) : gb431 ≠ gb432)); have n6_ := Aside0.mk ((by rw [hg]; exact Nat.ne_of_gt (blk_lt (g := gb431) (o := .cells #[.int .i64 a0_0, .int .i64 a0_1, .int .i64 a0_2, .int .i64 a0_3, .int .i64 a0_4] 29 (0, 0)) (Rgn.kb BK431.out)) : gb432 ≠ gb431)); clear BK431; clear HB; have BK431 := n0_; have HB := n1_; have BK432 := n2_; have GW432 := n3_; have GE432 := n4_; have NB431_432 := n5_; have NB432_431 := n6_; clear n0_ n1_ n2_ n3_ n4_ n5_ n6_; clear hb hbox hg))
          have n0_ := Aside0.mk (blk_drew BK431.out)
          have n1_ := Aside0.mk (blk_drew BK432.out)
          have n2_ := Aside0.mk (below_drew1 HB.out)
          clear BK431
          clear BK432
          clear HB
          have BK431 := n0_
          have BK432 := n1_
          have HB := n2_
          clear n0_ n1_ n2_
          refine start_ (n := 29) (S := fun w' => w'.cell? ⟨gb431, 0, none⟩ = some (.int .i64 a0_0) ∧ w'.cell? ⟨gb431, 1, none⟩ = some (.int .i64 a0_1) ∧ w'.cell? ⟨gb431, 2, none⟩ = some (.int .i64 a0_2) ∧ w'.cell? ⟨gb431, 3, none⟩ = some (.int .i64 a0_3) ∧ w'.cell? ⟨gb431, 4, none⟩ = some (.int .i64 a0_4) ∧ w'.cell? ⟨gb432, 0, none⟩ = some (.int .i64 a1_0) ∧ w'.cell? ⟨gb432, 1, none⟩ = some (.slice A1_1 l1_1.length c1_1) ∧ w'.cell? ⟨gb432, 2, none⟩ = some (.slice A1_2 l1_2.length c1_2)) (ds := []) #[false, false, false, false, false, false, false, false, false, false, false, false, false, false, false, false, false, false, false, false, false, false, false, false, false, false, false, false, false] (by kernel_rfl) rfl rfl ⟨(blk_cell BK431.out 0).trans rfl, (blk_cell BK431.out 1).trans rfl, (blk_cell BK431.out 2).trans rfl, (blk_cell BK431.out 3).trans rfl, (blk_cell BK431.out 4).trans rfl, (blk_cell BK432.out 0).trans rfl, (blk_cell BK432.out 1).trans rfl, (blk_cell BK432.out 2).trans rfl⟩ (fun hHeld => ?_); refine with_tabW impl_takes.tab1 impl_takes.bits1 (fun HT_ HW_ => ?_)
          generalize w11.drew = w12 at BK431 BK432 HB hHeld ⊢
          refine Rgn.tk HT_.out HW_.out 0 5 hHeld ?_
          refine one_ (i := 1) (N := some 6) #[true, true, false, false, false, false, false, false, false, false, false, false, false, false, false, false, false, false, false, false, false, false, false, false, false, false, false, false, false] rfl rfl (one_of HT_.out (by kernel_rfl)) (by decide) (fun K hK => ?_)
          refine Rgn.gs Try.func45 #[.agg #[.int .i64 a0_0, .int .i64 a0_1, .int .i64 a0_2, .int .i64 a0_3, .int .i64 a0_4]] ?_
          with_reducible refine (impl_ValidLog.calls k a0_0 a0_1 a0_2 a0_3 a0_4 true _ A3.out).mono ?_
          rintro e w13 ⟨rfl, hb⟩
          refine ⟨_, rfl, ?_⟩
          have n0_ := Aside0.mk (Rgn.bb BK431.out hb)
          have n1_ := Aside0.mk (Rgn.bb BK432.out hb)
          have n2_ := Aside0.mk (below_step (Rgn.bq HB.out) hb)
          clear BK431
          clear BK432
          clear HB
          have BK431 := n0_
          have BK432 := n1_
          have HB := n2_
          clear n0_ n1_ n2_
          (try clear hb)
          (try clear hb2)
          (try clear hk)
          (try clear hi)
          refine hK.out _ _ ⟨(blk_cell BK431.out 0).trans rfl, (blk_cell BK431.out 1).trans rfl, (blk_cell BK431.out 2).trans rfl, (blk_cell BK431.out 3).trans rfl, (blk_cell BK431.out 4).trans rfl, (blk_cell BK432.out 0).trans rfl, (blk_cell BK432.out 1).trans rfl, (blk_cell BK432.out 2).trans rfl⟩ (fun hHeld => ?_)
          clear hK K
          refine norm_ (a' := ?_) ?_ ?_
          rotate_left
          · show Act.put _ (some 6) _ = _
            simp only [Act.put, List.setIfInBounds_toArray, List.set_cons_zero, List.set_cons_succ, i64_w, i32_w]
            rfl
          refine Rgn.pu HT_.out 2 7 ?_
          refine Rgn.tk HT_.out HW_.out 3 8 hHeld ?_
          refine one_ (i := 4) (N := some 9) #[true, true, true, true, true, false, false, false, false, false, false, false, false, false, false, false, false, false, false, false, false, false, false, false, false, false, false, false, false] rfl rfl (one_of HT_.out (by kernel_rfl)) (by decide) (fun K hK => ?_)
          refine Rgn.gs Try.func46 #[.agg #[.int .i64 a1_0, .slice A1_1 l1_1.length c1_1, .slice A1_2 l1_2.length c1_2]] ?_
          with_reducible refine (impl_ValidTxn.calls k a1_0 _ _ l1_1 _ _ l1_2 true _ ?side1 ?side2 ?side3 ?side4 A5.out).mono ?_
          (case side1 => exact Rgn.cq (Kd.C_below HR1_1.out HB.out))
          (case side2 => exact HC1_1.out)
          (case side3 => exact Rgn.cq (Kd.C_below HR1_2.out HB.out))
          (case side4 => exact HC1_2.out)
          rintro e w14 ⟨rfl, hb⟩
          refine ⟨_, rfl, ?_⟩
          have n0_ := Aside0.mk (Rgn.bb BK431.out hb)
          have n1_ := Aside0.mk (Rgn.bb BK432.out hb)
          have n2_ := Aside0.mk (below_step (Rgn.bq HB.out) hb)
          clear BK431
          clear BK432
          clear HB
          have BK431 := n0_
          have BK432 := n1_
          have HB := n2_
          clear n0_ n1_ n2_
          (try clear hb)
          (try clear hb2)
          (try clear hk)
          (try clear hi)
          refine hK.out _ _ ⟨(blk_cell BK431.out 0).trans rfl, (blk_cell BK431.out 1).trans rfl, (blk_cell BK431.out 2).trans rfl, (blk_cell BK431.out 3).trans rfl, (blk_cell BK431.out 4).trans rfl, (blk_cell BK432.out 0).trans rfl, (blk_cell BK432.out 1).trans rfl, (blk_cell BK432.out 2).trans rfl⟩ (fun hHeld => ?_)
          clear hK K
          refine norm_ (a' := ?_) ?_ ?_
          rotate_left
          · show Act.put _ (some 9) _ = _
            simp only [Act.put, List.setIfInBounds_toArray, List.set_cons_zero, List.set_cons_succ, i64_w, i32_w]
            rfl
          refine Rgn.pu HT_.out 5 10 ?_
          refine Rgn.pu HT_.out 6 11 ?_
          refine Rgn.pu HT_.out 7 12 ?_
          refine Rgn.pu HT_.out 9 14 ?_
          refine Rgn.tk HT_.out HW_.out 8 13 hHeld ?_
          refine Rgn.tk HT_.out HW_.out 10 15 hHeld ?_
          refine Rgn.pu HT_.out 11 16 ?_
          refine Rgn.pu HT_.out 12 17 ?_
          refine Rgn.pu HT_.out 13 18 ?_
          refine Rgn.pu HT_.out 14 19 ?_
          refine Rgn.tk HT_.out HW_.out 15 20 hHeld ?_
          refine Rgn.pu HT_.out 16 21 ?_
          refine Rgn.pu HT_.out 17 22 ?_
          refine Rgn.pu HT_.out 18 23 ?_
          refine Rgn.pu HT_.out 21 26 ?_
          refine Rgn.pu HT_.out 23 28 ?_
          refine Rgn.tk HT_.out HW_.out 19 24 hHeld ?_
          refine Rgn.tk HT_.out HW_.out 22 27 hHeld ?_
          refine Rgn.tk HT_.out HW_.out 24 29 hHeld ?_
          refine Rgn.pu HT_.out 25 30 ?_
          refine one_ (i := 20) (N := some 25) #[true, true, true, true, true, true, true, true, true, true, true, true, true, true, true, true, true, true, true, true, true, true, true, true, true, true, false, false, false] rfl rfl (one_of HT_.out (by kernel_rfl)) (by decide) (fun K hK => ?_)
          refine Rgn.gs Try.func29 #[.agg #[.int .i64 a1_0, .slice A1_1 l1_1.length c1_1, .slice A1_2 l1_2.length c1_2]] ?_
          with_reducible refine (impl_TxnLength.calls k a1_0 _ _ l1_1 _ _ l1_2 t435 _ ?side1 ?side2 ?side3 ?side4 A9.out).mono ?_
          (case side1 => exact Rgn.cq (Kd.C_below HR1_1.out HB.out))
          (case side2 => exact HC1_1.out)
          (case side3 => exact Rgn.cq (Kd.C_below HR1_2.out HB.out))
          (case side4 => exact HC1_2.out)
          rintro e w15 ⟨rfl, hb⟩
          refine ⟨_, rfl, ?_⟩
          have n0_ := Aside0.mk (Rgn.bb BK431.out hb)
          have n1_ := Aside0.mk (Rgn.bb BK432.out hb)
          have n2_ := Aside0.mk (below_step (Rgn.bq HB.out) hb)
          clear BK431
          clear BK432
          clear HB
          have BK431 := n0_
          have BK432 := n1_
          have HB := n2_
          clear n0_ n1_ n2_
          (try clear hb)
          (try clear hb2)
          (try clear hk)
          (try clear hi)
          refine hK.out _ _ ⟨(blk_cell BK431.out 0).trans rfl, (blk_cell BK431.out 1).trans rfl, (blk_cell BK431.out 2).trans rfl, (blk_cell BK431.out 3).trans rfl, (blk_cell BK431.out 4).trans rfl, (blk_cell BK432.out 0).trans rfl, (blk_cell BK432.out 1).trans rfl, (blk_cell BK432.out 2).trans rfl⟩ (fun hHeld => ?_)
          clear hK K
          refine norm_ (a' := ?_) ?_ ?_
          rotate_left
          · show Act.put _ (some 25) _ = _
            simp only [Act.put, List.setIfInBounds_toArray, List.set_cons_zero, List.set_cons_succ, i64_w, i32_w]
            rfl
          refine Rgn.pu HT_.out 26 31 ?_
          refine Rgn.pu HT_.out 27 32 ?_
          refine Rgn.pu HT_.out 28 4 ?_
          refine done_ (done_of HT_.out (by kernel_rfl)) ?_
          try go_wp2
          go_ret
          exact ⟨by first | rfl | (simp [errW_none, errW_some] <;> rfl) | (simp [*, errW_none, errW_some] <;> rfl), Rgn.bq HB.out⟩
        · rw [if_neg c8] at H
          have c8b0 : decide (a0_2 < 4294967295) = false := decide_eq_false c8
          clear c8
          obtain rfl := Option.some.inj H
          go_enter Try.func28, Try.ntmps28
          try go_wp2_with (first | ((with_reducible refine gate_dst (N := 2) rfl ?_); refine box_event ?hg (N := 2) ?hd (cs := #[.int .i64 a0_0, .int .i64 a0_1, .int .i64 a0_2, .int .i64 a0_3, .int .i64 a0_4]) (t := 29) ?hr ?_; (case hd => rfl); (case hg => rfl); (case hr => first | (go_simp; done) | (go_simp; rfl)); intro gb431 hg w16 hbox hb; have n0_ := Aside0.mk (below_step (Rgn.bq HB.out) hb); have n1_ := Aside0.mk (hbox); have n2_ := Aside0.mk ((by rw [hg]; exact (below_size (Rgn.bq HB.out)) : w.heap.size ≤ gb431)); have n3_ := Aside0.mk ((by rw [hg]; exact (below_size (Rgn.bq HB.out)) : w.heap.size ≤ gb431)); clear HB; have HB := n0_; have BK431 := n1_; have GW431 := n2_; have GE431 := n3_; clear n0_ n1_ n2_ n3_; clear hb hbox hg) | ((with_reducible refine gate_dst (N := 3) rfl ?_); refine box_event ?hg (N := 3) ?hd (cs := #[.int .i64 a1_0, .slice A1_1 l1_1.length c1_1, .slice A1_2 l1_2.length c1_2]) (t := 34) ?hr ?_; (case hd => rfl); (case hg => rfl); (case hr => first | (go_simp; done) | (go_simp; rfl)); intro gb432 hg w17 hbox hb; have n0_ := Aside0.mk (Rgn.bb BK431.out hb); have n1_ := Aside0.mk (below_step (Rgn.bq HB.out) hb); have n2_ := Aside0.mk (hbox); have n3_ := Aside0.mk ((by rw [hg]; exact (below_size (Rgn.bq HB.out)) : w.heap.size ≤ gb432)); have n4_ := Aside0.mk ((by rw [hg]; exact (below_size (Rgn.bq HB.out)) : w.heap.size ≤ gb432)); have n5_ := Aside0.mk ((by rw [hg]; exact Nat.ne_of_lt (blk_lt (g := gb431) (o := .cells #[.int .i64 a0_0, .int .i64 a0_1, .int .i64 a0_2, .int .i64 a0_3, .int .i64 a0_4] 29 (0, 0)) (Rgn.kb BK431.out)) : gb431 ≠ gb432)); have n6_ := Aside0.mk ((by rw [hg]; exact Nat.ne_of_gt (blk_lt (g := gb431) (o := .cells #[.int .i64 a0_0, .int .i64 a0_1, .int .i64 a0_2, .int .i64 a0_3, .int .i64 a0_4] 29 (0, 0)) (Rgn.kb BK431.out)) : gb432 ≠ gb431)); clear BK431; clear HB; have BK431 := n0_; have HB := n1_; have BK432 := n2_; have GW432 := n3_; have GE432 := n4_; have NB431_432 := n5_; have NB432_431 := n6_; clear n0_ n1_ n2_ n3_ n4_ n5_ n6_; clear hb hbox hg))
          have n0_ := Aside0.mk (blk_drew BK431.out)
          have n1_ := Aside0.mk (blk_drew BK432.out)
          have n2_ := Aside0.mk (below_drew1 HB.out)
          clear BK431
          clear BK432
          clear HB
          have BK431 := n0_
          have BK432 := n1_
          have HB := n2_
          clear n0_ n1_ n2_
          refine start_ (n := 29) (S := fun w' => w'.cell? ⟨gb431, 0, none⟩ = some (.int .i64 a0_0) ∧ w'.cell? ⟨gb431, 1, none⟩ = some (.int .i64 a0_1) ∧ w'.cell? ⟨gb431, 2, none⟩ = some (.int .i64 a0_2) ∧ w'.cell? ⟨gb431, 3, none⟩ = some (.int .i64 a0_3) ∧ w'.cell? ⟨gb431, 4, none⟩ = some (.int .i64 a0_4) ∧ w'.cell? ⟨gb432, 0, none⟩ = some (.int .i64 a1_0) ∧ w'.cell? ⟨gb432, 1, none⟩ = some (.slice A1_1 l1_1.length c1_1) ∧ w'.cell? ⟨gb432, 2, none⟩ = some (.slice A1_2 l1_2.length c1_2)) (ds := []) #[false, false, false, false, false, false, false, false, false, false, false, false, false, false, false, false, false, false, false, false, false, false, false, false, false, false, false, false, false] (by kernel_rfl) rfl rfl ⟨(blk_cell BK431.out 0).trans rfl, (blk_cell BK431.out 1).trans rfl, (blk_cell BK431.out 2).trans rfl, (blk_cell BK431.out 3).trans rfl, (blk_cell BK431.out 4).trans rfl, (blk_cell BK432.out 0).trans rfl, (blk_cell BK432.out 1).trans rfl, (blk_cell BK432.out 2).trans rfl⟩ (fun hHeld => ?_); refine with_tabW impl_takes.tab1 impl_takes.bits1 (fun HT_ HW_ => ?_)
          generalize w17.drew = w18 at BK431 BK432 HB hHeld ⊢
          refine Rgn.tk HT_.out HW_.out 0 5 hHeld ?_
          refine one_ (i := 1) (N := some 6) #[true, true, false, false, false, false, false, false, false, false, false, false, false, false, false, false, false, false, false, false, false, false, false, false, false, false, false, false, false] rfl rfl (one_of HT_.out (by kernel_rfl)) (by decide) (fun K hK => ?_)
          refine Rgn.gs Try.func45 #[.agg #[.int .i64 a0_0, .int .i64 a0_1, .int .i64 a0_2, .int .i64 a0_3, .int .i64 a0_4]] ?_
          with_reducible refine (impl_ValidLog.calls k a0_0 a0_1 a0_2 a0_3 a0_4 true _ A3.out).mono ?_
          rintro e w19 ⟨rfl, hb⟩
          refine ⟨_, rfl, ?_⟩
          have n0_ := Aside0.mk (Rgn.bb BK431.out hb)
          have n1_ := Aside0.mk (Rgn.bb BK432.out hb)
          have n2_ := Aside0.mk (below_step (Rgn.bq HB.out) hb)
          clear BK431
          clear BK432
          clear HB
          have BK431 := n0_
          have BK432 := n1_
          have HB := n2_
          clear n0_ n1_ n2_
          (try clear hb)
          (try clear hb2)
          (try clear hk)
          (try clear hi)
          refine hK.out _ _ ⟨(blk_cell BK431.out 0).trans rfl, (blk_cell BK431.out 1).trans rfl, (blk_cell BK431.out 2).trans rfl, (blk_cell BK431.out 3).trans rfl, (blk_cell BK431.out 4).trans rfl, (blk_cell BK432.out 0).trans rfl, (blk_cell BK432.out 1).trans rfl, (blk_cell BK432.out 2).trans rfl⟩ (fun hHeld => ?_)
          clear hK K
          refine norm_ (a' := ?_) ?_ ?_
          rotate_left
          · show Act.put _ (some 6) _ = _
            simp only [Act.put, List.setIfInBounds_toArray, List.set_cons_zero, List.set_cons_succ, i64_w, i32_w]
            rfl
          refine Rgn.pu HT_.out 2 7 ?_
          refine Rgn.tk HT_.out HW_.out 3 8 hHeld ?_
          refine one_ (i := 4) (N := some 9) #[true, true, true, true, true, false, false, false, false, false, false, false, false, false, false, false, false, false, false, false, false, false, false, false, false, false, false, false, false] rfl rfl (one_of HT_.out (by kernel_rfl)) (by decide) (fun K hK => ?_)
          refine Rgn.gs Try.func46 #[.agg #[.int .i64 a1_0, .slice A1_1 l1_1.length c1_1, .slice A1_2 l1_2.length c1_2]] ?_
          with_reducible refine (impl_ValidTxn.calls k a1_0 _ _ l1_1 _ _ l1_2 true _ ?side1 ?side2 ?side3 ?side4 A5.out).mono ?_
          (case side1 => exact Rgn.cq (Kd.C_below HR1_1.out HB.out))
          (case side2 => exact HC1_1.out)
          (case side3 => exact Rgn.cq (Kd.C_below HR1_2.out HB.out))
          (case side4 => exact HC1_2.out)
          rintro e w20 ⟨rfl, hb⟩
          refine ⟨_, rfl, ?_⟩
          have n0_ := Aside0.mk (Rgn.bb BK431.out hb)
          have n1_ := Aside0.mk (Rgn.bb BK432.out hb)
          have n2_ := Aside0.mk (below_step (Rgn.bq HB.out) hb)
          clear BK431
          clear BK432
          clear HB
          have BK431 := n0_
          have BK432 := n1_
          have HB := n2_
          clear n0_ n1_ n2_
          (try clear hb)
          (try clear hb2)
          (try clear hk)
          (try clear hi)
          refine hK.out _ _ ⟨(blk_cell BK431.out 0).trans rfl, (blk_cell BK431.out 1).trans rfl, (blk_cell BK431.out 2).trans rfl, (blk_cell BK431.out 3).trans rfl, (blk_cell BK431.out 4).trans rfl, (blk_cell BK432.out 0).trans rfl, (blk_cell BK432.out 1).trans rfl, (blk_cell BK432.out 2).trans rfl⟩ (fun hHeld => ?_)
          clear hK K
          refine norm_ (a' := ?_) ?_ ?_
          rotate_left
          · show Act.put _ (some 9) _ = _
            simp only [Act.put, List.setIfInBounds_toArray, List.set_cons_zero, List.set_cons_succ, i64_w, i32_w]
            rfl
          refine Rgn.pu HT_.out 5 10 ?_
          refine Rgn.pu HT_.out 6 11 ?_
          refine Rgn.pu HT_.out 7 12 ?_
          refine Rgn.pu HT_.out 9 14 ?_
          refine Rgn.tk HT_.out HW_.out 8 13 hHeld ?_
          refine Rgn.tk HT_.out HW_.out 10 15 hHeld ?_
          refine Rgn.pu HT_.out 11 16 ?_
          refine Rgn.pu HT_.out 12 17 ?_
          refine Rgn.pu HT_.out 13 18 ?_
          refine Rgn.pu HT_.out 14 19 ?_
          refine Rgn.tk HT_.out HW_.out 15 20 hHeld ?_
          refine Rgn.pu HT_.out 16 21 ?_
          refine Rgn.pu HT_.out 17 22 ?_
          refine Rgn.pu HT_.out 18 23 ?_
          refine Rgn.pn HT_.out 19 24 ?_
          refine Rgn.pn HT_.out 20 25 ?_
          refine Rgn.pn HT_.out 21 26 ?_
          refine Rgn.pn HT_.out 22 27 ?_
          refine Rgn.pn HT_.out 23 28 ?_
          refine Rgn.pn HT_.out 24 29 ?_
          refine Rgn.pn HT_.out 25 30 ?_
          refine Rgn.pn HT_.out 26 31 ?_
          refine Rgn.pu HT_.out 27 32 ?_
          refine Rgn.pu HT_.out 28 4 ?_
          refine done_ (done_of HT_.out (by kernel_rfl)) ?_
          try go_wp2
          go_ret
          exact ⟨by first | rfl | (simp [errW_none, errW_some] <;> rfl) | (simp [*, errW_none, errW_some] <;> rfl), Rgn.bq HB.out⟩
      · rw [if_neg c7] at H
        have c7b0 : (a0_2 == a1_0) = false := beq_eq_false_iff_ne.mpr c7
        have c7b1 : (a0_2 != a1_0) = true := bne_iff_ne.mpr c7
        obtain rfl := Option.some.inj H
        go_enter Try.func28, Try.ntmps28
        try go_wp2_with (first | ((with_reducible refine gate_dst (N := 2) rfl ?_); refine box_event ?hg (N := 2) ?hd (cs := #[.int .i64 a0_0, .int .i64 a0_1, .int .i64 a0_2, .int .i64 a0_3, .int .i64 a0_4]) (t := 29) ?hr ?_; (case hd => rfl); (case hg => rfl); (case hr => first | (go_simp; done) | (go_simp; rfl)); intro gb431 hg w21 hbox hb; have n0_ := Aside0.mk (below_step (Rgn.bq HB.out) hb); have n1_ := Aside0.mk (hbox); have n2_ := Aside0.mk ((by rw [hg]; exact (below_size (Rgn.bq HB.out)) : w.heap.size ≤ gb431)); have n3_ := Aside0.mk ((by rw [hg]; exact (below_size (Rgn.bq HB.out)) : w.heap.size ≤ gb431)); clear HB; have HB := n0_; have BK431 := n1_; have GW431 := n2_; have GE431 := n3_; clear n0_ n1_ n2_ n3_; clear hb hbox hg) | ((with_reducible refine gate_dst (N := 3) rfl ?_); refine box_event ?hg (N := 3) ?hd (cs := #[.int .i64 a1_0, .slice A1_1 l1_1.length c1_1, .slice A1_2 l1_2.length c1_2]) (t := 34) ?hr ?_; (case hd => rfl); (case hg => rfl); (case hr => first | (go_simp; done) | (go_simp; rfl)); intro gb432 hg w22 hbox hb; have n0_ := Aside0.mk (Rgn.bb BK431.out hb); have n1_ := Aside0.mk (below_step (Rgn.bq HB.out) hb); have n2_ := Aside0.mk (hbox); have n3_ := Aside0.mk ((by rw [hg]; exact (below_size (Rgn.bq HB.out)) : w.heap.size ≤ gb432)); have n4_ := Aside0.mk ((by rw [hg]; exact (below_size (Rgn.bq HB.out)) : w.heap.size ≤ gb432)); have n5_ := Aside0.mk ((by rw [hg]; exact Nat.ne_of_lt (blk_lt (g := gb431) (o := .cells #[.int .i64 a0_0, .int .i64 a0_1, .int .i64 a0_2, .int .i64 a0_3, .int .i64 a0_4] 29 (0, 0)) (Rgn.kb BK431.out)) : gb431 ≠ gb432)); have n6_ := Aside0.mk ((by rw [hg]; exact Nat.ne_of_gt (blk_lt (g := gb431) (o := .cells #[.int .i64 a0_0, .int .i64 a0_1, .int .i64 a0_2, .int .i64 a0_3, .int .i64 a0_4] 29 (0, 0)) (Rgn.kb BK431.out)) : gb432 ≠ gb431)); clear BK431; clear HB; have BK431 := n0_; have HB := n1_; have BK432 := n2_; have GW432 := n3_; have GE432 := n4_; have NB431_432 := n5_; have NB432_431 := n6_; clear n0_ n1_ n2_ n3_ n4_ n5_ n6_; clear hb hbox hg))
        have n0_ := Aside0.mk (blk_drew BK431.out)
        have n1_ := Aside0.mk (blk_drew BK432.out)
        have n2_ := Aside0.mk (below_drew1 HB.out)
        clear BK431
        clear BK432
        clear HB
        have BK431 := n0_
        have BK432 := n1_
        have HB := n2_
        clear n0_ n1_ n2_
        refine start_ (n := 29) (S := fun w' => w'.cell? ⟨gb431, 0, none⟩ = some (.int .i64 a0_0) ∧ w'.cell? ⟨gb431, 1, none⟩ = some (.int .i64 a0_1) ∧ w'.cell? ⟨gb431, 2, none⟩ = some (.int .i64 a0_2) ∧ w'.cell? ⟨gb431, 3, none⟩ = some (.int .i64 a0_3) ∧ w'.cell? ⟨gb431, 4, none⟩ = some (.int .i64 a0_4) ∧ w'.cell? ⟨gb432, 0, none⟩ = some (.int .i64 a1_0) ∧ w'.cell? ⟨gb432, 1, none⟩ = some (.slice A1_1 l1_1.length c1_1) ∧ w'.cell? ⟨gb432, 2, none⟩ = some (.slice A1_2 l1_2.length c1_2)) (ds := []) #[false, false, false, false, false, false, false, false, false, false, false, false, false, false, false, false, false, false, false, false, false, false, false, false, false, false, false, false, false] (by kernel_rfl) rfl rfl ⟨(blk_cell BK431.out 0).trans rfl, (blk_cell BK431.out 1).trans rfl, (blk_cell BK431.out 2).trans rfl, (blk_cell BK431.out 3).trans rfl, (blk_cell BK431.out 4).trans rfl, (blk_cell BK432.out 0).trans rfl, (blk_cell BK432.out 1).trans rfl, (blk_cell BK432.out 2).trans rfl⟩ (fun hHeld => ?_); refine with_tabW impl_takes.tab1 impl_takes.bits1 (fun HT_ HW_ => ?_)
        generalize w22.drew = w23 at BK431 BK432 HB hHeld ⊢
        refine Rgn.tk HT_.out HW_.out 0 5 hHeld ?_
        refine one_ (i := 1) (N := some 6) #[true, true, false, false, false, false, false, false, false, false, false, false, false, false, false, false, false, false, false, false, false, false, false, false, false, false, false, false, false] rfl rfl (one_of HT_.out (by kernel_rfl)) (by decide) (fun K hK => ?_)
        refine Rgn.gs Try.func45 #[.agg #[.int .i64 a0_0, .int .i64 a0_1, .int .i64 a0_2, .int .i64 a0_3, .int .i64 a0_4]] ?_
        with_reducible refine (impl_ValidLog.calls k a0_0 a0_1 a0_2 a0_3 a0_4 true _ A3.out).mono ?_
        rintro e w24 ⟨rfl, hb⟩
        refine ⟨_, rfl, ?_⟩
        have n0_ := Aside0.mk (Rgn.bb BK431.out hb)
        have n1_ := Aside0.mk (Rgn.bb BK432.out hb)
        have n2_ := Aside0.mk (below_step (Rgn.bq HB.out) hb)
        clear BK431
        clear BK432
        clear HB
        have BK431 := n0_
        have BK432 := n1_
        have HB := n2_
        clear n0_ n1_ n2_
        (try clear hb)
        (try clear hb2)
        (try clear hk)
        (try clear hi)
        refine hK.out _ _ ⟨(blk_cell BK431.out 0).trans rfl, (blk_cell BK431.out 1).trans rfl, (blk_cell BK431.out 2).trans rfl, (blk_cell BK431.out 3).trans rfl, (blk_cell BK431.out 4).trans rfl, (blk_cell BK432.out 0).trans rfl, (blk_cell BK432.out 1).trans rfl, (blk_cell BK432.out 2).trans rfl⟩ (fun hHeld => ?_)
        clear hK K
        refine norm_ (a' := ?_) ?_ ?_
        rotate_left
        · show Act.put _ (some 6) _ = _
          simp only [Act.put, List.setIfInBounds_toArray, List.set_cons_zero, List.set_cons_succ, i64_w, i32_w]
          rfl
        refine Rgn.pu HT_.out 2 7 ?_
        refine Rgn.tk HT_.out HW_.out 3 8 hHeld ?_
        refine one_ (i := 4) (N := some 9) #[true, true, true, true, true, false, false, false, false, false, false, false, false, false, false, false, false, false, false, false, false, false, false, false, false, false, false, false, false] rfl rfl (one_of HT_.out (by kernel_rfl)) (by decide) (fun K hK => ?_)
        refine Rgn.gs Try.func46 #[.agg #[.int .i64 a1_0, .slice A1_1 l1_1.length c1_1, .slice A1_2 l1_2.length c1_2]] ?_
        with_reducible refine (impl_ValidTxn.calls k a1_0 _ _ l1_1 _ _ l1_2 true _ ?side1 ?side2 ?side3 ?side4 A5.out).mono ?_
        (case side1 => exact Rgn.cq (Kd.C_below HR1_1.out HB.out))
        (case side2 => exact HC1_1.out)
        (case side3 => exact Rgn.cq (Kd.C_below HR1_2.out HB.out))
        (case side4 => exact HC1_2.out)
        rintro e w25 ⟨rfl, hb⟩
        refine ⟨_, rfl, ?_⟩
        have n0_ := Aside0.mk (Rgn.bb BK431.out hb)
        have n1_ := Aside0.mk (Rgn.bb BK432.out hb)
        have n2_ := Aside0.mk (below_step (Rgn.bq HB.out) hb)
        clear BK431
        clear BK432
        clear HB
        have BK431 := n0_
        have BK432 := n1_
        have HB := n2_
        clear n0_ n1_ n2_
        (try clear hb)
        (try clear hb2)
        (try clear hk)
        (try clear hi)
        refine hK.out _ _ ⟨(blk_cell BK431.out 0).trans rfl, (blk_cell BK431.out 1).trans rfl, (blk_cell BK431.out 2).trans rfl, (blk_cell BK431.out 3).trans rfl, (blk_cell BK431.out 4).trans rfl, (blk_cell BK432.out 0).trans rfl, (blk_cell BK432.out 1).trans rfl, (blk_cell BK432.out 2).trans rfl⟩ (fun hHeld => ?_)
        clear hK K
        refine norm_ (a' := ?_) ?_ ?_
        rotate_left
        · show Act.put _ (some 9) _ = _
          simp only [Act.put, List.setIfInBounds_toArray, List.set_cons_zero, List.set_cons_succ, i64_w, i32_w]
          rfl
        refine Rgn.pu HT_.out 5 10 ?_
        refine Rgn.pu HT_.out 6 11 ?_
        refine Rgn.pu HT_.out 7 12 ?_
        refine Rgn.pu HT_.out 9 14 ?_
        refine Rgn.tk HT_.out HW_.out 8 13 hHeld ?_
        refine Rgn.tk HT_.out HW_.out 10 15 hHeld ?_
        refine Rgn.pu HT_.out 11 16 ?_
        refine Rgn.pu HT_.out 12 17 ?_
        refine Rgn.pu HT_.out 13 18 ?_
        refine Rgn.pn HT_.out 14 19 ?_
        refine Rgn.pn HT_.out 15 20 ?_
        refine Rgn.pn HT_.out 16 21 ?_
        refine Rgn.pu HT_.out 17 22 ?_
        refine Rgn.pu HT_.out 18 23 ?_
        refine Rgn.pn HT_.out 19 24 ?_
        refine Rgn.pn HT_.out 20 25 ?_
        refine Rgn.pn HT_.out 21 26 ?_
        refine Rgn.pn HT_.out 22 27 ?_
        refine Rgn.pn HT_.out 23 28 ?_
        refine Rgn.pn HT_.out 24 29 ?_
        refine Rgn.pn HT_.out 25 30 ?_
        refine Rgn.pn HT_.out 26 31 ?_
        refine Rgn.pu HT_.out 27 32 ?_
        refine Rgn.pu HT_.out 28 4 ?_
        refine done_ (done_of HT_.out (by kernel_rfl)) ?_
        try go_wp2
        go_ret
        exact ⟨by first | rfl | (simp [errW_none, errW_some] <;> rfl) | (simp [*, errW_none, errW_some] <;> rfl), Rgn.bq HB.out⟩
    · replace c6 := Bool.eq_false_iff.mpr c6
      subst c6
      have H1 : (some false) = some r := by rw [if_neg (show ¬ (false = true) by decide)] at H; exact H
      clear H
      have H := H1
      clear H1
      obtain rfl := Option.some.inj H
      go_enter Try.func28, Try.ntmps28
      try go_wp2_with (first | ((with_reducible refine gate_dst (N := 2) rfl ?_); refine box_event ?hg (N := 2) ?hd (cs := #[.int .i64 a0_0, .int .i64 a0_1, .int .i64 a0_2, .int .i64 a0_3, .int .i64 a0_4]) (t := 29) ?hr ?_; (case hd => rfl); (case hg => rfl); (case hr => first | (go_simp; done) | (go_simp; rfl)); intro gb431 hg w26 hbox hb; have n0_ := Aside0.mk (below_step (Rgn.bq HB.out) hb); have n1_ := Aside0.mk (hbox); have n2_ := Aside0.mk ((by rw [hg]; exact (below_size (Rgn.bq HB.out)) : w.heap.size ≤ gb431)); have n3_ := Aside0.mk ((by rw [hg]; exact (below_size (Rgn.bq HB.out)) : w.heap.size ≤ gb431)); clear HB; have HB := n0_; have BK431 := n1_; have GW431 := n2_; have GE431 := n3_; clear n0_ n1_ n2_ n3_; clear hb hbox hg) | ((with_reducible refine gate_dst (N := 3) rfl ?_); refine box_event ?hg (N := 3) ?hd (cs := #[.int .i64 a1_0, .slice A1_1 l1_1.length c1_1, .slice A1_2 l1_2.length c1_2]) (t := 34) ?hr ?_; (case hd => rfl); (case hg => rfl); (case hr => first | (go_simp; done) | (go_simp; rfl)); intro gb432 hg w27 hbox hb; have n0_ := Aside0.mk (Rgn.bb BK431.out hb); have n1_ := Aside0.mk (below_step (Rgn.bq HB.out) hb); have n2_ := Aside0.mk (hbox); have n3_ := Aside0.mk ((by rw [hg]; exact (below_size (Rgn.bq HB.out)) : w.heap.size ≤ gb432)); have n4_ := Aside0.mk ((by rw [hg]; exact (below_size (Rgn.bq HB.out)) : w.heap.size ≤ gb432)); have n5_ := Aside0.mk ((by rw [hg]; exact Nat.ne_of_lt (blk_lt (g := gb431) (o := .cells #[.int .i64 a0_0, .int .i64 a0_1, .int .i64 a0_2, .int .i64 a0_3, .int .i64 a0_4] 29 (0, 0)) (Rgn.kb BK431.out)) : gb431 ≠ gb432)); have n6_ := Aside0.mk ((by rw [hg]; exact Nat.ne_of_gt (blk_lt (g := gb431) (o := .cells #[.int .i64 a0_0, .int .i64 a0_1, .int .i64 a0_2, .int .i64 a0_3, .int .i64 a0_4] 29 (0, 0)) (Rgn.kb BK431.out)) : gb432 ≠ gb431)); clear BK431; clear HB; have BK431 := n0_; have HB := n1_; have BK432 := n2_; have GW432 := n3_; have GE432 := n4_; have NB431_432 := n5_; have NB432_431 := n6_; clear n0_ n1_ n2_ n3_ n4_ n5_ n6_; clear hb hbox hg))
      have n0_ := Aside0.mk (blk_drew BK431.out)
      have n1_ := Aside0.mk (blk_drew BK432.out)
      have n2_ := Aside0.mk (below_drew1 HB.out)
      clear BK431
      clear BK432
      clear HB
      have BK431 := n0_
      have BK432 := n1_
      have HB := n2_
      clear n0_ n1_ n2_
      refine start_ (n := 29) (S := fun w' => w'.cell? ⟨gb431, 0, none⟩ = some (.int .i64 a0_0) ∧ w'.cell? ⟨gb431, 1, none⟩ = some (.int .i64 a0_1) ∧ w'.cell? ⟨gb431, 2, none⟩ = some (.int .i64 a0_2) ∧ w'.cell? ⟨gb431, 3, none⟩ = some (.int .i64 a0_3) ∧ w'.cell? ⟨gb431, 4, none⟩ = some (.int .i64 a0_4) ∧ w'.cell? ⟨gb432, 0, none⟩ = some (.int .i64 a1_0) ∧ w'.cell? ⟨gb432, 1, none⟩ = some (.slice A1_1 l1_1.length c1_1) ∧ w'.cell? ⟨gb432, 2, none⟩ = some (.slice A1_2 l1_2.length c1_2)) (ds := []) #[false, false, false, false, false, false, false, false, false, false, false, false, false, false, false, false, false, false, false, false, false, false, false, false, false, false, false, false, false] (by kernel_rfl) rfl rfl ⟨(blk_cell BK431.out 0).trans rfl, (blk_cell BK431.out 1).trans rfl, (blk_cell BK431.out 2).trans rfl, (blk_cell BK431.out 3).trans rfl, (blk_cell BK431.out 4).trans rfl, (blk_cell BK432.out 0).trans rfl, (blk_cell BK432.out 1).trans rfl, (blk_cell BK432.out 2).trans rfl⟩ (fun hHeld => ?_); refine with_tabW impl_takes.tab1 impl_takes.bits1 (fun HT_ HW_ => ?_)
      generalize w27.drew = w28 at BK431 BK432 HB hHeld ⊢
      refine Rgn.tk HT_.out HW_.out 0 5 hHeld ?_
      refine one_ (i := 1) (N := some 6) #[true, true, false, false, false, false, false, false, false, false, false, false, false, false, false, false, false, false, false, false, false, false, false, false, false, false, false, false, false] rfl rfl (one_of HT_.out (by kernel_rfl)) (by decide) (fun K hK => ?_)
      refine Rgn.gs Try.func45 #[.agg #[.int .i64 a0_0, .int .i64 a0_1, .int .i64 a0_2, .int .i64 a0_3, .int .i64 a0_4]] ?_
      with_reducible refine (impl_ValidLog.calls k a0_0 a0_1 a0_2 a0_3 a0_4 true _ A3.out).mono ?_
      rintro e w29 ⟨rfl, hb⟩
      refine ⟨_, rfl, ?_⟩
      have n0_ := Aside0.mk (Rgn.bb BK431.out hb)
      have n1_ := Aside0.mk (Rgn.bb BK432.out hb)
      have n2_ := Aside0.mk (below_step (Rgn.bq HB.out) hb)
      clear BK431
      clear BK432
      clear HB
      have BK431 := n0_
      have BK432 := n1_
      have HB := n2_
      clear n0_ n1_ n2_
      (try clear hb)
      (try clear hb2)
      (try clear hk)
      (try clear hi)
      refine hK.out _ _ ⟨(blk_cell BK431.out 0).trans rfl, (blk_cell BK431.out 1).trans rfl, (blk_cell BK431.out 2).trans rfl, (blk_cell BK431.out 3).trans rfl, (blk_cell BK431.out 4).trans rfl, (blk_cell BK432.out 0).trans rfl, (blk_cell BK432.out 1).trans rfl, (blk_cell BK432.out 2).trans rfl⟩ (fun hHeld => ?_)
      clear hK K
      refine norm_ (a' := ?_) ?_ ?_
      rotate_left
      · show Act.put _ (some 6) _ = _
        simp only [Act.put, List.setIfInBounds_toArray, List.set_cons_zero, List.set_cons_succ, i64_w, i32_w]
        rfl
      refine Rgn.pu HT_.out 2 7 ?_
      refine Rgn.tk HT_.out HW_.out 3 8 hHeld ?_
      refine one_ (i := 4) (N := some 9) #[true, true, true, true, true, false, false, false, false, false, false, false, false, false, false, false, false, false, false, false, false, false, false, false, false, false, false, false, false] rfl rfl (one_of HT_.out (by kernel_rfl)) (by decide) (fun K hK => ?_)
      refine Rgn.gs Try.func46 #[.agg #[.int .i64 a1_0, .slice A1_1 l1_1.length c1_1, .slice A1_2 l1_2.length c1_2]] ?_
      with_reducible refine (impl_ValidTxn.calls k a1_0 _ _ l1_1 _ _ l1_2 false _ ?side1 ?side2 ?side3 ?side4 A5.out).mono ?_
      (case side1 => exact Rgn.cq (Kd.C_below HR1_1.out HB.out))
      (case side2 => exact HC1_1.out)
      (case side3 => exact Rgn.cq (Kd.C_below HR1_2.out HB.out))
      (case side4 => exact HC1_2.out)
      rintro e w30 ⟨rfl, hb⟩
      refine ⟨_, rfl, ?_⟩
      have n0_ := Aside0.mk (Rgn.bb BK431.out hb)
      have n1_ := Aside0.mk (Rgn.bb BK432.out hb)
      have n2_ := Aside0.mk (below_step (Rgn.bq HB.out) hb)
      clear BK431
      clear BK432
      clear HB
      have BK431 := n0_
      have BK432 := n1_
      have HB := n2_
      clear n0_ n1_ n2_
      (try clear hb)
      (try clear hb2)
      (try clear hk)
      (try clear hi)
      refine hK.out _ _ ⟨(blk_cell BK431.out 0).trans rfl, (blk_cell BK431.out 1).trans rfl, (blk_cell BK431.out 2).trans rfl, (blk_cell BK431.out 3).trans rfl, (blk_cell BK431.out 4).trans rfl, (blk_cell BK432.out 0).trans rfl, (blk_cell BK432.out 1).trans rfl, (blk_cell BK432.out 2).trans rfl⟩ (fun hHeld => ?_)
      clear hK K
      refine norm_ (a' := ?_) ?_ ?_
      rotate_left
      · show Act.put _ (some 9) _ = _
        simp only [Act.put, List.setIfInBounds_toArray, List.set_cons_zero, List.set_cons_succ, i64_w, i32_w]
        rfl
      refine Rgn.pu HT_.out 5 10 ?_
      refine Rgn.pu HT_.out 6 11 ?_
      refine Rgn.pn HT_.out 7 12 ?_
      refine Rgn.pn HT_.out 8 13 ?_
      refine Rgn.pn HT_.out 9 14 ?_
      refine Rgn.pn HT_.out 10 15 ?_
      refine Rgn.pn HT_.out 11 16 ?_
      refine Rgn.pu HT_.out 12 17 ?_
      refine Rgn.pu HT_.out 13 18 ?_
      refine Rgn.pn HT_.out 14 19 ?_
      refine Rgn.pn HT_.out 15 20 ?_
      refine Rgn.pn HT_.out 16 21 ?_
      refine Rgn.pu HT_.out 17 22 ?_
      refine Rgn.pu HT_.out 18 23 ?_
      refine Rgn.pn HT_.out 19 24 ?_
      refine Rgn.pn HT_.out 20 25 ?_
      refine Rgn.pn HT_.out 21 26 ?_
      refine Rgn.pn HT_.out 22 27 ?_
      refine Rgn.pn HT_.out 23 28 ?_
      refine Rgn.pn HT_.out 24 29 ?_
      refine Rgn.pn HT_.out 25 30 ?_
      refine Rgn.pn HT_.out 26 31 ?_
      refine Rgn.pu HT_.out 27 32 ?_
      refine Rgn.pu HT_.out 28 4 ?_
      refine done_ (done_of HT_.out (by kernel_rfl)) ?_
      try go_wp2
      go_ret
      exact ⟨by first | rfl | (simp [errW_none, errW_some] <;> rfl) | (simp [*, errW_none, errW_some] <;> rfl), Rgn.bq HB.out⟩
  · replace c4 := Bool.eq_false_iff.mpr c4
    subst c4
    have H1 : (some false) = some r := by rw [if_neg (show ¬ (false = true) by decide)] at H; exact H
    clear H
    have H := H1
    clear H1
    obtain rfl := Option.some.inj H
    go_enter Try.func28, Try.ntmps28
    try go_wp2_with (first | ((with_reducible refine gate_dst (N := 2) rfl ?_); refine box_event ?hg (N := 2) ?hd (cs := #[.int .i64 a0_0, .int .i64 a0_1, .int .i64 a0_2, .int .i64 a0_3, .int .i64 a0_4]) (t := 29) ?hr ?_; (case hd => rfl); (case hg => rfl); (case hr => first | (go_simp; done) | (go_simp; rfl)); intro gb431 hg w31 hbox hb; have n0_ := Aside0.mk (below_step (Rgn.bq HB.out) hb); have n1_ := Aside0.mk (hbox); have n2_ := Aside0.mk ((by rw [hg]; exact (below_size (Rgn.bq HB.out)) : w.heap.size ≤ gb431)); have n3_ := Aside0.mk ((by rw [hg]; exact (below_size (Rgn.bq HB.out)) : w.heap.size ≤ gb431)); clear HB; have HB := n0_; have BK431 := n1_; have GW431 := n2_; have GE431 := n3_; clear n0_ n1_ n2_ n3_; clear hb hbox hg) | ((with_reducible refine gate_dst (N := 3) rfl ?_); refine box_event ?hg (N := 3) ?hd (cs := #[.int .i64 a1_0, .slice A1_1 l1_1.length c1_1, .slice A1_2 l1_2.length c1_2]) (t := 34) ?hr ?_; (case hd => rfl); (case hg => rfl); (case hr => first | (go_simp; done) | (go_simp; rfl)); intro gb432 hg w32 hbox hb; have n0_ := Aside0.mk (Rgn.bb BK431.out hb); have n1_ := Aside0.mk (below_step (Rgn.bq HB.out) hb); have n2_ := Aside0.mk (hbox); have n3_ := Aside0.mk ((by rw [hg]; exact (below_size (Rgn.bq HB.out)) : w.heap.size ≤ gb432)); have n4_ := Aside0.mk ((by rw [hg]; exact (below_size (Rgn.bq HB.out)) : w.heap.size ≤ gb432)); have n5_ := Aside0.mk ((by rw [hg]; exact Nat.ne_of_lt (blk_lt (g := gb431) (o := .cells #[.int .i64 a0_0, .int .i64 a0_1, .int .i64 a0_2, .int .i64 a0_3, .int .i64 a0_4] 29 (0, 0)) (Rgn.kb BK431.out)) : gb431 ≠ gb432)); have n6_ := Aside0.mk ((by rw [hg]; exact Nat.ne_of_gt (blk_lt (g := gb431) (o := .cells #[.int .i64 a0_0, .int .i64 a0_1, .int .i64 a0_2, .int .i64 a0_3, .int .i64 a0_4] 29 (0, 0)) (Rgn.kb BK431.out)) : gb432 ≠ gb431)); clear BK431; clear HB; have BK431 := n0_; have HB := n1_; have BK432 := n2_; have GW432 := n3_; have GE432 := n4_; have NB431_432 := n5_; have NB432_431 := n6_; clear n0_ n1_ n2_ n3_ n4_ n5_ n6_; clear hb hbox hg))
    have n0_ := Aside0.mk (blk_drew BK431.out)
    have n1_ := Aside0.mk (blk_drew BK432.out)
    have n2_ := Aside0.mk (below_drew1 HB.out)
    clear BK431
    clear BK432
    clear HB
    have BK431 := n0_
    have BK432 := n1_
    have HB := n2_
    clear n0_ n1_ n2_
    refine start_ (n := 29) (S := fun w' => w'.cell? ⟨gb431, 0, none⟩ = some (.int .i64 a0_0) ∧ w'.cell? ⟨gb431, 1, none⟩ = some (.int .i64 a0_1) ∧ w'.cell? ⟨gb431, 2, none⟩ = some (.int .i64 a0_2) ∧ w'.cell? ⟨gb431, 3, none⟩ = some (.int .i64 a0_3) ∧ w'.cell? ⟨gb431, 4, none⟩ = some (.int .i64 a0_4)) (ds := []) #[false, false, false, false, false, false, false, false, false, false, false, false, false, false, false, false, false, false, false, false, false, false, false, false, false, false, false, false, false] (by kernel_rfl) rfl rfl ⟨(blk_cell BK431.out 0).trans rfl, (blk_cell BK431.out 1).trans rfl, (blk_cell BK431.out 2).trans rfl, (blk_cell BK431.out 3).trans rfl, (blk_cell BK431.out 4).trans rfl⟩ (fun hHeld => ?_); refine with_tabW impl_takes.tab1 impl_takes.bits1 (fun HT_ HW_ => ?_)
    generalize w32.drew = w33 at BK431 BK432 HB hHeld ⊢
    refine Rgn.tk HT_.out HW_.out 0 5 hHeld ?_
    refine one_ (i := 1) (N := some 6) #[true, true, false, false, false, false, false, false, false, false, false, false, false, false, false, false, false, false, false, false, false, false, false, false, false, false, false, false, false] rfl rfl (one_of HT_.out (by kernel_rfl)) (by decide) (fun K hK => ?_)
    refine Rgn.gs Try.func45 #[.agg #[.int .i64 a0_0, .int .i64 a0_1, .int .i64 a0_2, .int .i64 a0_3, .int .i64 a0_4]] ?_
    with_reducible refine (impl_ValidLog.calls k a0_0 a0_1 a0_2 a0_3 a0_4 false _ A3.out).mono ?_
    rintro e w34 ⟨rfl, hb⟩
    refine ⟨_, rfl, ?_⟩
    have n0_ := Aside0.mk (Rgn.bb BK431.out hb)
    have n1_ := Aside0.mk (Rgn.bb BK432.out hb)
    have n2_ := Aside0.mk (below_step (Rgn.bq HB.out) hb)
    clear BK431
    clear BK432
    clear HB
    have BK431 := n0_
    have BK432 := n1_
    have HB := n2_
    clear n0_ n1_ n2_
    (try clear hb)
    (try clear hb2)
    (try clear hk)
    (try clear hi)
    refine hK.out _ _ ⟨(blk_cell BK431.out 0).trans rfl, (blk_cell BK431.out 1).trans rfl, (blk_cell BK431.out 2).trans rfl, (blk_cell BK431.out 3).trans rfl, (blk_cell BK431.out 4).trans rfl⟩ (fun hHeld => ?_)
    clear hK K
    refine norm_ (a' := ?_) ?_ ?_
    rotate_left
    · show Act.put _ (some 6) _ = _
      simp only [Act.put, List.setIfInBounds_toArray, List.set_cons_zero, List.set_cons_succ, i64_w, i32_w]
      rfl
    refine Rgn.pu HT_.out 2 7 ?_
    refine Rgn.pn HT_.out 3 8 ?_
    refine Rgn.pn HT_.out 4 9 ?_
    refine Rgn.pu HT_.out 5 10 ?_
    refine Rgn.pu HT_.out 6 11 ?_
    refine Rgn.pn HT_.out 7 12 ?_
    refine Rgn.pn HT_.out 8 13 ?_
    refine Rgn.pn HT_.out 9 14 ?_
    refine Rgn.pn HT_.out 10 15 ?_
    refine Rgn.pn HT_.out 11 16 ?_
    refine Rgn.pu HT_.out 12 17 ?_
    refine Rgn.pu HT_.out 13 18 ?_
    refine Rgn.pn HT_.out 14 19 ?_
    refine Rgn.pn HT_.out 15 20 ?_
    refine Rgn.pn HT_.out 16 21 ?_
    refine Rgn.pu HT_.out 17 22 ?_
    refine Rgn.pu HT_.out 18 23 ?_
    refine Rgn.pn HT_.out 19 24 ?_
    refine Rgn.pn HT_.out 20 25 ?_
    refine Rgn.pn HT_.out 21 26 ?_
    refine Rgn.pn HT_.out 22 27 ?_
    refine Rgn.pn HT_.out 23 28 ?_
    refine Rgn.pn HT_.out 24 29 ?_
    refine Rgn.pn HT_.out 25 30 ?_
    refine Rgn.pn HT_.out 26 31 ?_
    refine Rgn.pu HT_.out 27 32 ?_
    refine Rgn.pu HT_.out 28 4 ?_
    refine done_ (done_of HT_.out (by kernel_rfl)) ?_
    try go_wp2
    go_ret
    exact ⟨by first | rfl | (simp [errW_none, errW_some] <;> rfl) | (simp [*, errW_none, errW_some] <;> rfl), Rgn.bq HB.out⟩

/-! ### impl_LogNext: function 9 -/
def impl_LogNext.f (k : Nat) (a0_0 : Int) (a0_1 : Int) (a0_2 : Int) (a0_3 : Int) (a0_4 : Int) (a1_0 : Int) (l1_1 : List (S61)) (l1_2 : List Int) : Option (Int × Int × Int × Int × Int) := (impl_takes.f k a0_0 a0_1 a0_2 a0_3 a0_4 a1_0 l1_1 l1_2).bind fun t439 => (if t439 = true then (if a0_1 = 0 then ((impl_TxnLength.f k a1_0 l1_1 l1_2).bind fun t440 => ((impl_nth.f a0_3 t440 a0_0).bind fun t441 => (some (a0_0, a0_3, wrap64 (a0_2 + 1), t441, wrap64 (a0_4 + t440))))) else ((impl_TxnLength.f k a1_0 l1_1 l1_2).bind fun t442 => ((impl_nth.f a0_3 t442 a0_0).bind fun t443 => (some (a0_0, a0_1, wrap64 (a0_2 + 1), t443, wrap64 (a0_4 + t442)))))) else (some (0, 0, 0, 0, 0)))
theorem impl_LogNext.mono : ∀ a0 a1 a2 a3 a4 a5 a6 a7 k, LeO (impl_LogNext.f k a0 a1 a2 a3 a4 a5 a6 a7) (impl_LogNext.f (k + 1) a0 a1 a2 a3 a4 a5 a6 a7) := by
  intro a0 a1 a2 a3 a4 a5 a6 a7 k
  unfold impl_LogNext.f
  repeat' first
      | (with_reducible exact impl_TxnLength.mono _ _ _ _)
      | (with_reducible exact impl_takes.mono _ _ _ _ _ _ _ _ _)
      | (with_reducible exact LeO.refl _)
      | (with_reducible exact LeO.none _)
      | (with_reducible refine LeO.ite ?_ ?_)
      | (with_reducible refine LeO.bind ?_ (fun _ => ?_))
      | exact impl_TxnLength.mono _ _ _ _
      | exact impl_takes.mono _ _ _ _ _ _ _ _ _
      | exact LeO.none _
      | refine LeO.ite ?_ ?_
      | refine LeO.bind ?_ (fun _ => ?_)
set_option maxHeartbeats 8000000 in
set_option maxRecDepth 100000 in
theorem impl_LogNext.calls (k : Nat) (a0_0 : Int) (a0_1 : Int) (a0_2 : Int) (a0_3 : Int) (a0_4 : Int) (a1_0 : Int) (A1_1 : Option Addr) (c1_1 : Nat) (l1_1 : List (S61)) (A1_2 : Option Addr) (c1_2 : Nat) (l1_2 : List Int) (r1 : Int) (r2 : Int) (r3 : Int) (r4 : Int) (r5 : Int) (w : World) (hr1_1 : Kd.C k61 w A1_1 l1_1.length l1_1) (hc1_1 : l1_1.length ≤ c1_1) (hr1_2 : Kd.C (Kd.int .i64) w A1_2 l1_2.length l1_2) (hc1_2 : l1_2.length ≤ c1_2) (h : impl_LogNext.f k a0_0 a0_1 a0_2 a0_3 a0_4 a1_0 l1_1 l1_2 = some (r1, r2, r3, r4, r5)) :
    Calls Try.prog 9 #[.agg #[.int .i64 a0_0, .int .i64 a0_1, .int .i64 a0_2, .int .i64 a0_3, .int .i64 a0_4], .agg #[.int .i64 a1_0, .slice A1_1 l1_1.length c1_1, .slice A1_2 l1_2.length c1_2]] w fun e w' => e = .returned (.agg #[.int .i64 r1, .int .i64 r2, .int .i64 r3, .int .i64 r4, .int .i64 r5]) ∧ Below w.heap.size w w' := by
  have hu29 := Try.underlying29
  have hu34 := Try.underlying34
  have HR1_1 := Aside0.mk hr1_1
  have HC1_1 := Aside0.mk hc1_1
  clear hr1_1 hc1_1
  have HR1_2 := Aside0.mk hr1_2
  have HC1_2 := Aside0.mk hc1_2
  clear hr1_2 hc1_2
  have HB := Aside0.mk (Below.refl w.heap.size w)
  have H : ((impl_takes.f k a0_0 a0_1 a0_2 a0_3 a0_4 a1_0 l1_1 l1_2).bind fun t439 => (if t439 = true then (if a0_1 = 0 then ((impl_TxnLength.f k a1_0 l1_1 l1_2).bind fun t440 => ((impl_nth.f a0_3 t440 a0_0).bind fun t441 => (some (a0_0, a0_3, wrap64 (a0_2 + 1), t441, wrap64 (a0_4 + t440))))) else ((impl_TxnLength.f k a1_0 l1_1 l1_2).bind fun t442 => ((impl_nth.f a0_3 t442 a0_0).bind fun t443 => (some (a0_0, a0_1, wrap64 (a0_2 + 1), t443, wrap64 (a0_4 + t442)))))) else (some (0, 0, 0, 0, 0)))) = some (r1, r2, r3, r4, r5) := h
  clear h
  replace H := Option.bind_eq_some_iff.mp H
  obtain ⟨t439, A30, H⟩ := H
  replace H : (if t439 = true then (if a0_1 = 0 then ((impl_TxnLength.f k a1_0 l1_1 l1_2).bind fun t440 => ((impl_nth.f a0_3 t440 a0_0).bind fun t441 => (some (a0_0, a0_3, wrap64 (a0_2 + 1), t441, wrap64 (a0_4 + t440))))) else ((impl_TxnLength.f k a1_0 l1_1 l1_2).bind fun t442 => ((impl_nth.f a0_3 t442 a0_0).bind fun t443 => (some (a0_0, a0_1, wrap64 (a0_2 + 1), t443, wrap64 (a0_4 + t442)))))) else (some (0, 0, 0, 0, 0))) = some (r1, r2, r3, r4, r5) := H
  have A3 := Aside0.mk A30
  clear A30
  by_cases c4 : t439 = true
  · subst c4
    have H1 : (if a0_1 = 0 then ((impl_TxnLength.f k a1_0 l1_1 l1_2).bind fun t440 => ((impl_nth.f a0_3 t440 a0_0).bind fun t441 => (some (a0_0, a0_3, wrap64 (a0_2 + 1), t441, wrap64 (a0_4 + t440))))) else ((impl_TxnLength.f k a1_0 l1_1 l1_2).bind fun t442 => ((impl_nth.f a0_3 t442 a0_0).bind fun t443 => (some (a0_0, a0_1, wrap64 (a0_2 + 1), t443, wrap64 (a0_4 + t442)))))) = some (r1, r2, r3, r4, r5) := by rw [if_pos rfl] at H; exact H
    clear H
    have H := H1
    clear H1
    by_cases c5 : a0_1 = 0
    · rw [if_pos c5] at H
      have c5b0 : (a0_1 == 0) = true := beq_iff_eq.mpr c5
      have c5b1 : (a0_1 != 0) = false := bne_eq_false_iff_eq.mpr c5
      clear c5
      replace H := Option.bind_eq_some_iff.mp H
      obtain ⟨t440, A60, H⟩ := H
      replace H : ((impl_nth.f a0_3 t440 a0_0).bind fun t441 => (some (a0_0, a0_3, wrap64 (a0_2 + 1), t441, wrap64 (a0_4 + t440)))) = some (r1, r2, r3, r4, r5) := H
      have A6 := Aside0.mk A60
      clear A60
      replace H := Option.bind_eq_some_iff.mp H
      obtain ⟨t441, A70, H⟩ := H
      replace H : (some (a0_0, a0_3, wrap64 (a0_2 + 1), t441, wrap64 (a0_4 + t440))) = some (r1, r2, r3, r4, r5) := H
      have A7 := Aside0.mk A70
      clear A70
      simp only [Option.some.injEq, Prod.mk.injEq] at H
      obtain ⟨rfl, rfl, rfl, rfl, rfl⟩ := H
      go_enter Try.func9, Try.ntmps9
      go_wp2_with (first | ((with_reducible refine gate_dst (N := 2) rfl ?_); refine box_event ?hg (N := 2) ?hd (cs := #[.int .i64 a0_0, .int .i64 a0_1, .int .i64 a0_2, .int .i64 a0_3, .int .i64 a0_4]) (t := 29) ?hr ?_; (case hd => rfl); (case hg => rfl); (case hr => first | (go_simp; done) | (go_simp; rfl)); intro gb436 hg w8 hbox hb; have n0_ := Aside0.mk (below_step (Rgn.bq HB.out) hb); have n1_ := Aside0.mk (hbox); have n2_ := Aside0.mk ((by rw [hg]; exact (below_size (Rgn.bq HB.out)) : w.heap.size ≤ gb436)); have n3_ := Aside0.mk ((by rw [hg]; exact (below_size (Rgn.bq HB.out)) : w.heap.size ≤ gb436)); clear HB; have HB := n0_; have BK436 := n1_; have GW436 := n2_; have GE436 := n3_; clear n0_ n1_ n2_ n3_; clear hb hbox hg) | ((with_reducible refine gate_dst (N := 3) rfl ?_); refine box_event ?hg (N := 3) ?hd (cs := #[.int .i64 a1_0, .slice A1_1 l1_1.length c1_1, .slice A1_2 l1_2.length c1_2]) (t := 34) ?hr ?_; (case hd => rfl); (case hg => rfl); (case hr => first | (go_simp; done) | (go_simp; rfl)); intro gb437 hg w9 hbox hb; have n0_ := Aside0.mk (Rgn.bb BK436.out hb); have n1_ := Aside0.mk (below_step (Rgn.bq HB.out) hb); have n2_ := Aside0.mk (hbox); have n3_ := Aside0.mk ((by rw [hg]; exact (below_size (Rgn.bq HB.out)) : w.heap.size ≤ gb437)); have n4_ := Aside0.mk ((by rw [hg]; exact (below_size (Rgn.bq HB.out)) : w.heap.size ≤ gb437)); have n5_ := Aside0.mk ((by rw [hg]; exact Nat.ne_of_lt (blk_lt (g := gb436) (o := .cells #[.int .i64 a0_0, .int .i64 a0_1, .int .i64 a0_2, .int .i64 a0_3, .int .i64 a0_4] 29 (0, 0)) (Rgn.kb BK436.out)) : gb436 ≠ gb437)); have n6_ := Aside0.mk ((by rw [hg]; exact Nat.ne_of_gt (blk_lt (g := gb436) (o := .cells #[.int .i64 a0_0, .int .i64 a0_1, .int .i64 a0_2, .int .i64 a0_3, .int .i64 a0_4] 29 (0, 0)) (Rgn.kb BK436.out)) : gb437 ≠ gb436)); clear BK436; clear HB; have BK436 := n0_; have HB := n1_; have BK437 := n2_; have GW437 := n3_; have GE437 := n4_; have NB436_437 := n5_; have NB437_436 := n6_; clear n0_ n1_ n2_ n3_ n4_ n5_ n6_; clear hb hbox hg) | ((with_reducible refine gate_dst (N := 4) rfl ?_); refine box_event ?hg (N := 4) ?hd (cs := #[.int .i64 0, .int .i64 0, .int .i64 0, .int .i64 0, .int .i64 0]) (t := 29) ?hr ?_; (case hd => rfl); (case hg => rfl); (case hr => first | (go_simp; done) | (go_simp; rfl)); intro gb438 hg w10 hbox hb; have n0_ := Aside0.mk (Rgn.bb BK436.out hb); have n1_ := Aside0.mk (Rgn.bb BK437.out hb); have n2_ := Aside0.mk (below_step (Rgn.bq HB.out) hb); have n3_ := Aside0.mk (hbox); have n4_ := Aside0.mk ((by rw [hg]; exact (below_size (Rgn.bq HB.out)) : w.heap.size ≤ gb438)); have n5_ := Aside0.mk ((by rw [hg]; exact (below_size (Rgn.bq HB.out)) : w.heap.size ≤ gb438)); have n6_ := Aside0.mk ((by rw [hg]; exact Nat.ne_of_lt (blk_lt (g := gb436) (o := .cells #[.int .i64 a0_0, .int .i64 a0_1, .int .i64 a0_2, .int .i64 a0_3, .int .i64 a0_4] 29 (0, 0)) (Rgn.kb BK436.out)) : gb436 ≠ gb438)); have n7_ := Aside0.mk ((by rw [hg]; exact Nat.ne_of_gt (blk_lt (g := gb436) (o := .cells #[.int .i64 a0_0, .int .i64 a0_1, .int .i64 a0_2, .int .i64 a0_3, .int .i64 a0_4] 29 (0, 0)) (Rgn.kb BK436.out)) : gb438 ≠ gb436)); have n8_ := Aside0.mk ((by rw [hg]; exact Nat.ne_of_lt (blk_lt (g := gb437) (o := .cells #[.int .i64 a1_0, .slice A1_1 l1_1.length c1_1, .slice A1_2 l1_2.length c1_2] 34 (0, 0)) (Rgn.kb BK437.out)) : gb437 ≠ gb438)); have n9_ := Aside0.mk ((by rw [hg]; exact Nat.ne_of_gt (blk_lt (g := gb437) (o := .cells #[.int .i64 a1_0, .slice A1_1 l1_1.length c1_1, .slice A1_2 l1_2.length c1_2] 34 (0, 0)) (Rgn.kb BK437.out)) : gb438 ≠ gb437)); clear BK436; clear BK437; clear HB; have BK436 := n0_; have BK437 := n1_; have HB := n2_; have BK438 := n3_; have GW438 := n4_; have GE438 := n5_; have NB436_438 := n6_; have NB438_436 := n7_; have NB437_438 := n8_; have NB438_437 := n9_; clear n0_ n1_ n2_ n3_ n4_ n5_ n6_ n7_ n8_ n9_; clear hb hbox hg; have hnb11 := NB436_437.out; have hnc11 := NB437_436.out; have hnb12 := NB436_438.out; have hnc12 := NB438_436.out; have hcz13_0 : w10.cell? ⟨gb436, 0, none⟩ = some (.int .i64 a0_0) := (blk_cell BK436.out 0).trans rfl; have hcz13_1 : w10.cell? ⟨gb436, 1, none⟩ = some (.int .i64 a0_1) := (blk_cell BK436.out 1).trans rfl; have hcz13_2 : w10.cell? ⟨gb436, 2, none⟩ = some (.int .i64 a0_2) := (blk_cell BK436.out 2).trans rfl; have hcz13_3 : w10.cell? ⟨gb436, 3, none⟩ = some (.int .i64 a0_3) := (blk_cell BK436.out 3).trans rfl; have hcz13_4 : w10.cell? ⟨gb436, 4, none⟩ = some (.int .i64 a0_4) := (blk_cell BK436.out 4).trans rfl; have hfz13_0 := blk_frozen BK436.out 0; have hfz13_1 := blk_frozen BK436.out 1; have hfz13_2 := blk_frozen BK436.out 2; have hfz13_3 := blk_frozen BK436.out 3; have hfz13_4 := blk_frozen BK436.out 4; have hnb14 := NB437_438.out; have hnc14 := NB438_437.out; have hcz15_0 : w10.cell? ⟨gb437, 0, none⟩ = some (.int .i64 a1_0) := (blk_cell BK437.out 0).trans rfl; have hcz15_1 : w10.cell? ⟨gb437, 1, none⟩ = some (.slice A1_1 l1_1.length c1_1) := (blk_cell BK437.out 1).trans rfl; have hcz15_2 : w10.cell? ⟨gb437, 2, none⟩ = some (.slice A1_2 l1_2.length c1_2) := (blk_cell BK437.out 2).trans rfl; have hfz15_0 := blk_frozen BK437.out 0; have hfz15_1 := blk_frozen BK437.out 1; have hfz15_2 := blk_frozen BK437.out 2) | ((with_reducible refine gate_callee (f := 28) rfl ?_); refine Rgn.gl (some 8) Try.func28 #[.agg #[.int .i64 a0_0, .int .i64 a0_1, .int .i64 a0_2, .int .i64 a0_3, .int .i64 a0_4], .agg #[.int .i64 a1_0, .slice A1_1 l1_1.length c1_1, .slice A1_2 l1_2.length c1_2]] ?_; (with_reducible refine (impl_takes.calls k a0_0 a0_1 a0_2 a0_3 a0_4 a1_0 _ _ l1_1 _ _ l1_2 true _ ?side1 ?side2 ?side3 ?side4 A3.out).mono ?_); (case side1 => exact Rgn.cq (Kd.C_below HR1_1.out HB.out)); (case side2 => exact HC1_1.out); (case side3 => exact Rgn.cq (Kd.C_below HR1_2.out HB.out)); (case side4 => exact HC1_2.out); rintro e w16 ⟨rfl, hb⟩; refine ⟨_, rfl, ?_⟩; have n0_ := Aside0.mk (Rgn.bb BK436.out hb); have n1_ := Aside0.mk (Rgn.bb BK437.out hb); have n2_ := Aside0.mk (Rgn.bb BK438.out hb); have n3_ := Aside0.mk (below_step (Rgn.bq HB.out) hb); clear BK436; clear BK437; clear BK438; clear HB; have BK436 := n0_; have BK437 := n1_; have BK438 := n2_; have HB := n3_; clear n0_ n1_ n2_ n3_; (try clear hb); (try clear hb2); (try clear hk); (try clear hi); have hcz17_0 : w16.cell? ⟨gb436, 0, none⟩ = some (.int .i64 a0_0) := (blk_cell BK436.out 0).trans rfl; have hcz17_1 : w16.cell? ⟨gb436, 1, none⟩ = some (.int .i64 a0_1) := (blk_cell BK436.out 1).trans rfl; have hcz17_2 : w16.cell? ⟨gb436, 2, none⟩ = some (.int .i64 a0_2) := (blk_cell BK436.out 2).trans rfl; have hcz17_3 : w16.cell? ⟨gb436, 3, none⟩ = some (.int .i64 a0_3) := (blk_cell BK436.out 3).trans rfl; have hcz17_4 : w16.cell? ⟨gb436, 4, none⟩ = some (.int .i64 a0_4) := (blk_cell BK436.out 4).trans rfl; have hfz17_0 := blk_frozen BK436.out 0; have hfz17_1 := blk_frozen BK436.out 1; have hfz17_2 := blk_frozen BK436.out 2; have hfz17_3 := blk_frozen BK436.out 3; have hfz17_4 := blk_frozen BK436.out 4; have hcz18_0 : w16.cell? ⟨gb437, 0, none⟩ = some (.int .i64 a1_0) := (blk_cell BK437.out 0).trans rfl; have hcz18_1 : w16.cell? ⟨gb437, 1, none⟩ = some (.slice A1_1 l1_1.length c1_1) := (blk_cell BK437.out 1).trans rfl; have hcz18_2 : w16.cell? ⟨gb437, 2, none⟩ = some (.slice A1_2 l1_2.length c1_2) := (blk_cell BK437.out 2).trans rfl; have hfz18_0 := blk_frozen BK437.out 0; have hfz18_1 := blk_frozen BK437.out 1; have hfz18_2 := blk_frozen BK437.out 2) | ((with_reducible refine gate_callee (f := 29) rfl ?_); refine Rgn.gl (some 18) Try.func29 #[.agg #[.int .i64 a1_0, .slice A1_1 l1_1.length c1_1, .slice A1_2 l1_2.length c1_2]] ?_; (with_reducible refine (impl_TxnLength.calls k a1_0 _ _ l1_1 _ _ l1_2 t440 _ ?side1 ?side2 ?side3 ?side4 A6.out).mono ?_); (case side1 => exact Kd.C_below HR1_1.out (Rgn.bq HB.out)); (case side2 => exact HC1_1.out); (case side3 => exact Kd.C_below HR1_2.out (Rgn.bq HB.out)); (case side4 => exact HC1_2.out); rintro e w19 ⟨rfl, hb⟩; refine ⟨_, rfl, ?_⟩; have n0_ := Aside0.mk (blk_below (g := gb436) (o := .cells #[.int .i64 a0_0, .int .i64 a0_3, .int .i64 a0_2, .int .i64 a0_3, .int .i64 a0_4] 29 (0, 0)) (by (with_reducible repeat (first | refine blk_drewN ?_ _ | refine blk_drew ?_ | refine blk_alloc ?_ _)); refine blk_put (cs := #[.int .i64 a0_0, .int .i64 a0_1, .int .i64 a0_2, .int .i64 a0_3, .int .i64 a0_4]) ?_ 1 _ rfl; (with_reducible repeat (first | refine blk_drewN ?_ _ | refine blk_drew ?_ | refine blk_alloc ?_ _)); exact BK436.out) hb); have n1_ := Aside0.mk (blk_below (g := gb437) (o := .cells #[.int .i64 a1_0, .slice A1_1 l1_1.length c1_1, .slice A1_2 l1_2.length c1_2] 34 (0, 0)) (by (with_reducible repeat (first | refine blk_drewN ?_ _ | refine blk_drew ?_ | refine blk_alloc ?_ _)); refine blk_far ?_ NB437_436.out _; (with_reducible repeat (first | refine blk_drewN ?_ _ | refine blk_drew ?_ | refine blk_alloc ?_ _)); exact BK437.out) hb); have n2_ := Aside0.mk (blk_below (g := gb438) (o := .cells #[.int .i64 0, .int .i64 0, .int .i64 0, .int .i64 0, .int .i64 0] 29 (0, 0)) (by (with_reducible repeat (first | refine blk_drewN ?_ _ | refine blk_drew ?_ | refine blk_alloc ?_ _)); refine blk_far ?_ NB438_436.out _; (with_reducible repeat (first | refine blk_drewN ?_ _ | refine blk_drew ?_ | refine blk_alloc ?_ _)); exact BK438.out) hb); have n3_ := Aside0.mk (below_step (Rgn.bq HB.out) hb); clear BK436; clear BK437; clear BK438; clear HB; have BK436 := n0_; have BK437 := n1_; have BK438 := n2_; have HB := n3_; clear n0_ n1_ n2_ n3_; (try clear hb); (try clear hb2); (try clear hk); (try clear hi); have hcz20_0 : w19.cell? ⟨gb436, 0, none⟩ = some (.int .i64 a0_0) := (blk_cell BK436.out 0).trans rfl; have hcz20_1 : w19.cell? ⟨gb436, 1, none⟩ = some (.int .i64 a0_3) := (blk_cell BK436.out 1).trans rfl; have hcz20_2 : w19.cell? ⟨gb436, 2, none⟩ = some (.int .i64 a0_2) := (blk_cell BK436.out 2).trans rfl; have hcz20_3 : w19.cell? ⟨gb436, 3, none⟩ = some (.int .i64 a0_3) := (blk_cell BK436.out 3).trans rfl; have hcz20_4 : w19.cell? ⟨gb436, 4, none⟩ = some (.int .i64 a0_4) := (blk_cell BK436.out 4).trans rfl; have hfz20_0 := blk_frozen BK436.out 0; have hfz20_1 := blk_frozen BK436.out 1; have hfz20_2 := blk_frozen BK436.out 2; have hfz20_3 := blk_frozen BK436.out 3; have hfz20_4 := blk_frozen BK436.out 4) | ((with_reducible refine gate_callee (f := 30) rfl ?_); refine Rgn.gl (some 28) Try.func30 #[.int .i64 a0_3, .int .i64 t440, .int .i64 a0_0] ?_; (with_reducible refine (impl_nth.calls a0_3 t440 a0_0 t441 _ A7.out).mono ?_); rintro e w' ⟨rfl, ⟨nd, rfl⟩⟩; refine ⟨_, rfl, ?_⟩; have hcz21_0 : w19.cell? ⟨gb438, 0, none⟩ = some (.int .i64 0) := (blk_cell BK438.out 0).trans rfl; have hcz21_1 : w19.cell? ⟨gb438, 1, none⟩ = some (.int .i64 0) := (blk_cell BK438.out 1).trans rfl; have hcz21_2 : w19.cell? ⟨gb438, 2, none⟩ = some (.int .i64 0) := (blk_cell BK438.out 2).trans rfl; have hcz21_3 : w19.cell? ⟨gb438, 3, none⟩ = some (.int .i64 0) := (blk_cell BK438.out 3).trans rfl; have hcz21_4 : w19.cell? ⟨gb438, 4, none⟩ = some (.int .i64 0) := (blk_cell BK438.out 4).trans rfl; have hfz21_0 := blk_frozen BK438.out 0; have hfz21_1 := blk_frozen BK438.out 1; have hfz21_2 := blk_frozen BK438.out 2; have hfz21_3 := blk_frozen BK438.out 3; have hfz21_4 := blk_frozen BK438.out 4))
      refine bodyPost_ret (results_cell_row rfl _ _ gb438 29 #[.int .i64 a0_0, .int .i64 a0_3, .int .i64 (wrap64 (a0_2 + 1)), .int .i64 t441, .int .i64 (wrap64 (a0_4 + t440))] (0, 0) _ rfl (by (with_reducible repeat (first | refine blk_drewN ?_ _ | refine blk_drew ?_ | refine blk_alloc ?_ _)); refine blk_put (cs := #[.int .i64 a0_0, .int .i64 a0_3, .int .i64 (wrap64 (a0_2 + 1)), .int .i64 t441, .int .i64 0]) ?_ 4 _ rfl; (with_reducible repeat (first | refine blk_drewN ?_ _ | refine blk_drew ?_ | refine blk_alloc ?_ _)); refine blk_put (cs := #[.int .i64 a0_0, .int .i64 a0_3, .int .i64 (wrap64 (a0_2 + 1)), .int .i64 0, .int .i64 0]) ?_ 3 _ rfl; (with_reducible repeat (first | refine blk_drewN ?_ _ | refine blk_drew ?_ | refine blk_alloc ?_ _)); refine blk_put (cs := #[.int .i64 a0_0, .int .i64 a0_3, .int .i64 0, .int .i64 0, .int .i64 0]) ?_ 2 _ rfl; (with_reducible repeat (first | refine blk_drewN ?_ _ | refine blk_drew ?_ | refine blk_alloc ?_ _)); refine blk_put (cs := #[.int .i64 a0_0, .int .i64 0, .int .i64 0, .int .i64 0, .int .i64 0]) ?_ 1 _ rfl; (with_reducible repeat (first | refine blk_drewN ?_ _ | refine blk_drew ?_ | refine blk_alloc ?_ _)); refine blk_put (cs := #[.int .i64 0, .int .i64 0, .int .i64 0, .int .i64 0, .int .i64 0]) ?_ 0 _ rfl; (with_reducible repeat (first | refine blk_drewN ?_ _ | refine blk_drew ?_ | refine blk_alloc ?_ _)); refine blk_far ?_ NB438_436.out _; (with_reducible repeat (first | refine blk_drewN ?_ _ | refine blk_drew ?_ | refine blk_alloc ?_ _)); refine blk_far ?_ NB438_436.out _; (with_reducible repeat (first | refine blk_drewN ?_ _ | refine blk_drew ?_ | refine blk_alloc ?_ _)); refine blk_far ?_ NB438_436.out _; (with_reducible repeat (first | refine blk_drewN ?_ _ | refine blk_drew ?_ | refine blk_alloc ?_ _)); exact BK438.out) Try.underlying29 rfl (by kernel_rfl)) rfl ?_
      exact ⟨by first | rfl | (simp [errW_none, errW_some] <;> rfl) | (simp [*, errW_none, errW_some] <;> rfl), Rgn.bq HB.out⟩
    · rw [if_neg c5] at H
      have c5b0 : (a0_1 == 0) = false := beq_eq_false_iff_ne.mpr c5
      have c5b1 : (a0_1 != 0) = true := bne_iff_ne.mpr c5
      replace H := Option.bind_eq_some_iff.mp H
      obtain ⟨t442, A220, H⟩ := H
      replace H : ((impl_nth.f a0_3 t442 a0_0).bind fun t443 => (some (a0_0, a0_1, wrap64 (a0_2 + 1), t443, wrap64 (a0_4 + t442)))) = some (r1, r2, r3, r4, r5) := H
      have A22 := Aside0.mk A220
      clear A220
      replace H := Option.bind_eq_some_iff.mp H
      obtain ⟨t443, A230, H⟩ := H
      replace H : (some (a0_0, a0_1, wrap64 (a0_2 + 1), t443, wrap64 (a0_4 + t442))) = some (r1, r2, r3, r4, r5) := H
      have A23 := Aside0.mk A230
      clear A230
      simp only [Option.some.injEq, Prod.mk.injEq] at H
      obtain ⟨rfl, rfl, rfl, rfl, rfl⟩ := H
      go_enter Try.func9, Try.ntmps9
      go_wp2_with (first | ((with_reducible refine gate_dst (N := 2) rfl ?_); refine box_event ?hg (N := 2) ?hd (cs := #[.int .i64 a0_0, .int .i64 a0_1, .int .i64 a0_2, .int .i64 a0_3, .int .i64 a0_4]) (t := 29) ?hr ?_; (case hd => rfl); (case hg => rfl); (case hr => first | (go_simp; done) | (go_simp; rfl)); intro gb436 hg w24 hbox hb; have n0_ := Aside0.mk (below_step (Rgn.bq HB.out) hb); have n1_ := Aside0.mk (hbox); have n2_ := Aside0.mk ((by rw [hg]; exact (below_size (Rgn.bq HB.out)) : w.heap.size ≤ gb436)); have n3_ := Aside0.mk ((by rw [hg]; exact (below_size (Rgn.bq HB.out)) : w.heap.size ≤ gb436)); clear HB; have HB := n0_; have BK436 := n1_; have GW436 := n2_; have GE436 := n3_; clear n0_ n1_ n2_ n3_; clear hb hbox hg) | ((with_reducible refine gate_dst (N := 3) rfl ?_); refine box_event ?hg (N := 3) ?hd (cs := #[.int .i64 a1_0, .slice A1_1 l1_1.length c1_1, .slice A1_2 l1_2.length c1_2]) (t := 34) ?hr ?_; (case hd => rfl); (case hg => rfl); (case hr => first | (go_simp; done) | (go_simp; rfl)); intro gb437 hg w25 hbox hb; have n0_ := Aside0.mk (Rgn.bb BK436.out hb); have n1_ := Aside0.mk (below_step (Rgn.bq HB.out) hb); have n2_ := Aside0.mk (hbox); have n3_ := Aside0.mk ((by rw [hg]; exact (below_size (Rgn.bq HB.out)) : w.heap.size ≤ gb437)); have n4_ := Aside0.mk ((by rw [hg]; exact (below_size (Rgn.bq HB.out)) : w.heap.size ≤ gb437)); have n5_ := Aside0.mk ((by rw [hg]; exact Nat.ne_of_lt (blk_lt (g := gb436) (o := .cells #[.int .i64 a0_0, .int .i64 a0_1, .int .i64 a0_2, .int .i64 a0_3, .int .i64 a0_4] 29 (0, 0)) (Rgn.kb BK436.out)) : gb436 ≠ gb437)); have n6_ := Aside0.mk ((by rw [hg]; exact Nat.ne_of_gt (blk_lt (g := gb436) (o := .cells #[.int .i64 a0_0, .int .i64 a0_1, .int .i64 a0_2, .int .i64 a0_3, .int .i64 a0_4] 29 (0, 0)) (Rgn.kb BK436.out)) : gb437 ≠ gb436)); clear BK436; clear HB; have BK436 := n0_; have HB := n1_; have BK437 := n2_; have GW437 := n3_; have GE437 := n4_; have NB436_437 := n5_; have NB437_436 := n6_; clear n0_ n1_ n2_ n3_ n4_ n5_ n6_; clear hb hbox hg) | ((with_reducible refine gate_dst (N := 4) rfl ?_); refine box_event ?hg (N := 4) ?hd (cs := #[.int .i64 0, .int .i64 0, .int .i64 0, .int .i64 0, .int .i64 0]) (t := 29) ?hr ?_; (case hd => rfl); (case hg => rfl); (case hr => first | (go_simp; done) | (go_simp; rfl)); intro gb438 hg w26 hbox hb; have n0_ := Aside0.mk (Rgn.bb BK436.out hb); have n1_ := Aside0.mk (Rgn.bb BK437.out hb); have n2_ := Aside0.mk (below_step (Rgn.bq HB.out) hb); have n3_ := Aside0.mk (hbox); have n4_ := Aside0.mk ((by rw [hg]; exact (below_size (Rgn.bq HB.out)) : w.heap.size ≤ gb438)); have n5_ := Aside0.mk ((by rw [hg]; exact (below_size (Rgn.bq HB.out)) : w.heap.size ≤ gb438)); have n6_ := Aside0.mk ((by rw [hg]; exact Nat.ne_of_lt (blk_lt (g := gb436) (o := .cells #[.int .i64 a0_0, .int .i64 a0_1, .int .i64 a0_2, .int .i64 a0_3, .int .i64 a0_4] 29 (0, 0)) (Rgn.kb BK436.out)) : gb436 ≠ gb438)); have n7_ := Aside0.mk ((by rw [hg]; exact Nat.ne_of_gt (blk_lt (g := gb436) (o := .cells #[.int .i64 a0_0, .int .i64 a0_1, .int .i64 a0_2, .int .i64 a0_3, .int .i64 a0_4] 29 (0, 0)) (Rgn.kb BK436.out)) : gb438 ≠ gb436)); have n8_ := Aside0.mk ((by rw [hg]; exact Nat.ne_of_lt (blk_lt (g := gb437) (o := .cells #[.int .i64 a1_0, .slice A1_1 l1_1.length c1_1, .slice A1_2 l1_2.length c1_2] 34 (0, 0)) (Rgn.kb BK437.out)) : gb437 ≠ gb438)); have n9_ := Aside0.mk ((by rw [hg]; exact Nat.ne_of_gt (blk_lt (g := gb437) (o := .cells #[.int .i64 a1_0, .slice A1_1 l1_1.length c1_1, .slice A1_2 l1_2.length c1_2] 34 (0, 0)) (Rgn.kb BK437.out)) : gb438 ≠ gb437)); clear BK436; clear BK437; clear HB; have BK436 := n0_; have BK437 := n1_; have HB := n2_; have BK438 := n3_; have GW438 := n4_; have GE438 := n5_; have NB436_438 := n6_; have NB438_436 := n7_; have NB437_438 := n8_; have NB438_437 := n9_; clear n0_ n1_ n2_ n3_ n4_ n5_ n6_ n7_ n8_ n9_; clear hb hbox hg; have hnb27 := NB436_437.out; have hnc27 := NB437_436.out; have hnb28 := NB436_438.out; have hnc28 := NB438_436.out; have hcz29_0 : w26.cell? ⟨gb436, 0, none⟩ = some (.int .i64 a0_0) := (blk_cell BK436.out 0).trans rfl; have hcz29_1 : w26.cell? ⟨gb436, 1, none⟩ = some (.int .i64 a0_1) := (blk_cell BK436.out 1).trans rfl; have hcz29_2 : w26.cell? ⟨gb436, 2, none⟩ = some (.int .i64 a0_2) := (blk_cell BK436.out 2).trans rfl; have hcz29_3 : w26.cell? ⟨gb436, 3, none⟩ = some (.int .i64 a0_3) := (blk_cell BK436.out 3).trans rfl; have hcz29_4 : w26.cell? ⟨gb436, 4, none⟩ = some (.int .i64 a0_4) := (blk_cell BK436.out 4).trans rfl; have hfz29_0 := blk_frozen BK436.out 0; have hfz29_1 := blk_frozen BK436.out 1; have hfz29_2 := blk_frozen BK436.out 2; have hfz29_3 := blk_frozen BK436.out 3; have hfz29_4 := blk_frozen BK436.out 4; have hnb30 := NB437_438.out; have hnc30 := NB438_437.out; have hcz31_0 : w26.cell? ⟨gb437, 0, none⟩ = some (.int .i64 a1_0) := (blk_cell BK437.out 0).trans rfl; have hcz31_1 : w26.cell? ⟨gb437, 1, none⟩ = some (.slice A1_1 l1_1.length c1_1) := (blk_cell BK437.out 1).trans rfl; have hcz31_2 : w26.cell? ⟨gb437, 2, none⟩ = some (.slice A1_2 l1_2.length c1_2) := (blk_cell BK437.out 2).trans rfl; have hfz31_0 := blk_frozen BK437.out 0; have hfz31_1 := blk_frozen BK437.out 1; have hfz31_2 := blk_frozen BK437.out 2) | ((with_reducible refine gate_callee (f := 28) rfl ?_); refine Rgn.gl (some 8) Try.func28 #[.agg #[.int .i64 a0_0, .int .i64 a0_1, .int .i64 a0_2, .int .i64 a0_3, .int .i64 a0_4], .agg #[.int .i64 a1_0, .slice A1_1 l1_1.length c1_1, .slice A1_2 l1_2.length c1_2]] ?_; (with_reducible refine (impl_takes.calls k a0_0 a0_1 a0_2 a0_3 a0_4 a1_0 _ _ l1_1 _ _ l1_2 true _ ?side1 ?side2 ?side3 ?side4 A3.out).mono ?_); (case side1 => exact Rgn.cq (Kd.C_below HR1_1.out HB.out)); (case side2 => exact HC1_1.out); (case side3 => exact Rgn.cq (Kd.C_below HR1_2.out HB.out)); (case side4 => exact HC1_2.out); rintro e w32 ⟨rfl, hb⟩; refine ⟨_, rfl, ?_⟩; have n0_ := Aside0.mk (Rgn.bb BK436.out hb); have n1_ := Aside0.mk (Rgn.bb BK437.out hb); have n2_ := Aside0.mk (Rgn.bb BK438.out hb); have n3_ := Aside0.mk (below_step (Rgn.bq HB.out) hb); clear BK436; clear BK437; clear BK438; clear HB; have BK436 := n0_; have BK437 := n1_; have BK438 := n2_; have HB := n3_; clear n0_ n1_ n2_ n3_; (try clear hb); (try clear hb2); (try clear hk); (try clear hi); have hcz33_0 : w32.cell? ⟨gb436, 0, none⟩ = some (.int .i64 a0_0) := (blk_cell BK436.out 0).trans rfl; have hcz33_1 : w32.cell? ⟨gb436, 1, none⟩ = some (.int .i64 a0_1) := (blk_cell BK436.out 1).trans rfl; have hcz33_2 : w32.cell? ⟨gb436, 2, none⟩ = some (.int .i64 a0_2) := (blk_cell BK436.out 2).trans rfl; have hcz33_3 : w32.cell? ⟨gb436, 3, none⟩ = some (.int .i64 a0_3) := (blk_cell BK436.out 3).trans rfl; have hcz33_4 : w32.cell? ⟨gb436, 4, none⟩ = some (.int .i64 a0_4) := (blk_cell BK436.out 4).trans rfl; have hfz33_0 := blk_frozen BK436.out 0; have hfz33_1 := blk_frozen BK436.out 1; have hfz33_2 := blk_frozen BK436.out 2; have hfz33_3 := blk_frozen BK436.out 3; have hfz33_4 := blk_frozen BK436.out 4; have hcz34_0 : w32.cell? ⟨gb437, 0, none⟩ = some (.int .i64 a1_0) := (blk_cell BK437.out 0).trans rfl; have hcz34_1 : w32.cell? ⟨gb437, 1, none⟩ = some (.slice A1_1 l1_1.length c1_1) := (blk_cell BK437.out 1).trans rfl; have hcz34_2 : w32.cell? ⟨gb437, 2, none⟩ = some (.slice A1_2 l1_2.length c1_2) := (blk_cell BK437.out 2).trans rfl; have hfz34_0 := blk_frozen BK437.out 0; have hfz34_1 := blk_frozen BK437.out 1; have hfz34_2 := blk_frozen BK437.out 2) | ((with_reducible refine gate_callee (f := 29) rfl ?_); refine Rgn.gl (some 18) Try.func29 #[.agg #[.int .i64 a1_0, .slice A1_1 l1_1.length c1_1, .slice A1_2 l1_2.length c1_2]] ?_; (with_reducible refine (impl_TxnLength.calls k a1_0 _ _ l1_1 _ _ l1_2 t442 _ ?side1 ?side2 ?side3 ?side4 A22.out).mono ?_); (case side1 => exact Rgn.cq (Kd.C_below HR1_1.out HB.out)); (case side2 => exact HC1_1.out); (case side3 => exact Rgn.cq (Kd.C_below HR1_2.out HB.out)); (case side4 => exact HC1_2.out); rintro e w35 ⟨rfl, hb⟩; refine ⟨_, rfl, ?_⟩; have n0_ := Aside0.mk (Rgn.bb BK436.out hb); have n1_ := Aside0.mk (Rgn.bb BK437.out hb); have n2_ := Aside0.mk (Rgn.bb BK438.out hb); have n3_ := Aside0.mk (below_step (Rgn.bq HB.out) hb); clear BK436; clear BK437; clear BK438; clear HB; have BK436 := n0_; have BK437 := n1_; have BK438 := n2_; have HB := n3_; clear n0_ n1_ n2_ n3_; (try clear hb); (try clear hb2); (try clear hk); (try clear hi); have hcz36_0 : w35.cell? ⟨gb436, 0, none⟩ = some (.int .i64 a0_0) := (blk_cell BK436.out 0).trans rfl; have hcz36_1 : w35.cell? ⟨gb436, 1, none⟩ = some (.int .i64 a0_1) := (blk_cell BK436.out 1).trans rfl; have hcz36_2 : w35.cell? ⟨gb436, 2, none⟩ = some (.int .i64 a0_2) := (blk_cell BK436.out 2).trans rfl; have hcz36_3 : w35.cell? ⟨gb436, 3, none⟩ = some (.int .i64 a0_3) := (blk_cell BK436.out 3).trans rfl; have hcz36_4 : w35.cell? ⟨gb436, 4, none⟩ = some (.int .i64 a0_4) := (blk_cell BK436.out 4).trans rfl; have hfz36_0 := blk_frozen BK436.out 0; have hfz36_1 := blk_frozen BK436.out 1; have hfz36_2 := blk_frozen BK436.out 2; have hfz36_3 := blk_frozen BK436.out 3; have hfz36_4 := blk_frozen BK436.out 4) | ((with_reducible refine gate_callee (f := 30) rfl ?_); refine Rgn.gl (some 28) Try.func30 #[.int .i64 a0_3, .int .i64 t442, .int .i64 a0_0] ?_; (with_reducible refine (impl_nth.calls a0_3 t442 a0_0 t443 _ A23.out).mono ?_); rintro e w' ⟨rfl, ⟨nd, rfl⟩⟩; refine ⟨_, rfl, ?_⟩; have hcz37_0 : w35.cell? ⟨gb438, 0, none⟩ = some (.int .i64 0) := (blk_cell BK438.out 0).trans rfl; have hcz37_1 : w35.cell? ⟨gb438, 1, none⟩ = some (.int .i64 0) := (blk_cell BK438.out 1).trans rfl; have hcz37_2 : w35.cell? ⟨gb438, 2, none⟩ = some (.int .i64 0) := (blk_cell BK438.out 2).trans rfl; have hcz37_3 : w35.cell? ⟨gb438, 3, none⟩ = some (.int .i64 0) := (blk_cell BK438.out 3).trans rfl; have hcz37_4 : w35.cell? ⟨gb438, 4, none⟩ = some (.int .i64 0) := (blk_cell BK438.out 4).trans rfl; have hfz37_0 := blk_frozen BK438.out 0; have hfz37_1 := blk_frozen BK438.out 1; have hfz37_2 := blk_frozen BK438.out 2; have hfz37_3 := blk_frozen BK438.out 3; have hfz37_4 := blk_frozen BK438.out 4))
      refine bodyPost_ret (results_cell_row rfl _ _ gb438 29 #[.int .i64 a0_0, .int .i64 a0_1, .int .i64 (wrap64 (a0_2 + 1)), .int .i64 t443, .int .i64 (wrap64 (a0_4 + t442))] (0, 0) _ rfl (by (with_reducible repeat (first | refine blk_drewN ?_ _ | refine blk_drew ?_ | refine blk_alloc ?_ _)); refine blk_put (cs := #[.int .i64 a0_0, .int .i64 a0_1, .int .i64 (wrap64 (a0_2 + 1)), .int .i64 t443, .int .i64 0]) ?_ 4 _ rfl; (with_reducible repeat (first | refine blk_drewN ?_ _ | refine blk_drew ?_ | refine blk_alloc ?_ _)); refine blk_put (cs := #[.int .i64 a0_0, .int .i64 a0_1, .int .i64 (wrap64 (a0_2 + 1)), .int .i64 0, .int .i64 0]) ?_ 3 _ rfl; (with_reducible repeat (first | refine blk_drewN ?_ _ | refine blk_drew ?_ | refine blk_alloc ?_ _)); refine blk_put (cs := #[.int .i64 a0_0, .int .i64 a0_1, .int .i64 0, .int .i64 0, .int .i64 0]) ?_ 2 _ rfl; (with_reducible repeat (first | refine blk_drewN ?_ _ | refine blk_drew ?_ | refine blk_alloc ?_ _)); refine blk_put (cs := #[.int .i64 a0_0, .int .i64 0, .int .i64 0, .int .i64 0, .int .i64 0]) ?_ 1 _ rfl; (with_reducible repeat (first | refine blk_drewN ?_ _ | refine blk_drew ?_ | refine blk_alloc ?_ _)); refine blk_put (cs := #[.int .i64 0, .int .i64 0, .int .i64 0, .int .i64 0, .int .i64 0]) ?_ 0 _ rfl; (with_reducible repeat (first | refine blk_drewN ?_ _ | refine blk_drew ?_ | refine blk_alloc ?_ _)); refine blk_far ?_ NB438_436.out _; (with_reducible repeat (first | refine blk_drewN ?_ _ | refine blk_drew ?_ | refine blk_alloc ?_ _)); refine blk_far ?_ NB438_436.out _; (with_reducible repeat (first | refine blk_drewN ?_ _ | refine blk_drew ?_ | refine blk_alloc ?_ _)); refine blk_far ?_ NB438_436.out _; (with_reducible repeat (first | refine blk_drewN ?_ _ | refine blk_drew ?_ | refine blk_alloc ?_ _)); exact BK438.out) Try.underlying29 rfl (by kernel_rfl)) rfl ?_
      exact ⟨by first | rfl | (simp [errW_none, errW_some] <;> rfl) | (simp [*, errW_none, errW_some] <;> rfl), Rgn.bq HB.out⟩
  · replace c4 := Bool.eq_false_iff.mpr c4
    subst c4
    have H1 : (some (0, 0, 0, 0, 0)) = some (r1, r2, r3, r4, r5) := by rw [if_neg (show ¬ (false = true) by decide)] at H; exact H
    clear H
    have H := H1
    clear H1
    simp only [Option.some.injEq, Prod.mk.injEq] at H
    obtain ⟨rfl, rfl, rfl, rfl, rfl⟩ := H
    go_enter Try.func9, Try.ntmps9
    go_wp2_with (first | ((with_reducible refine gate_dst (N := 2) rfl ?_); refine box_event ?hg (N := 2) ?hd (cs := #[.int .i64 a0_0, .int .i64 a0_1, .int .i64 a0_2, .int .i64 a0_3, .int .i64 a0_4]) (t := 29) ?hr ?_; (case hd => rfl); (case hg => rfl); (case hr => first | (go_simp; done) | (go_simp; rfl)); intro gb436 hg w38 hbox hb; have n0_ := Aside0.mk (below_step (Rgn.bq HB.out) hb); have n1_ := Aside0.mk (hbox); have n2_ := Aside0.mk ((by rw [hg]; exact (below_size (Rgn.bq HB.out)) : w.heap.size ≤ gb436)); have n3_ := Aside0.mk ((by rw [hg]; exact (below_size (Rgn.bq HB.out)) : w.heap.size ≤ gb436)); clear HB; have HB := n0_; have BK436 := n1_; have GW436 := n2_; have GE436 := n3_; clear n0_ n1_ n2_ n3_; clear hb hbox hg) | ((with_reducible refine gate_dst (N := 3) rfl ?_); refine box_event ?hg (N := 3) ?hd (cs := #[.int .i64 a1_0, .slice A1_1 l1_1.length c1_1, .slice A1_2 l1_2.length c1_2]) (t := 34) ?hr ?_; (case hd => rfl); (case hg => rfl); (case hr => first | (go_simp; done) | (go_simp; rfl)); intro gb437 hg w39 hbox hb; have n0_ := Aside0.mk (Rgn.bb BK436.out hb); have n1_ := Aside0.mk (below_step (Rgn.bq HB.out) hb); have n2_ := Aside0.mk (hbox); have n3_ := Aside0.mk ((by rw [hg]; exact (below_size (Rgn.bq HB.out)) : w.heap.size ≤ gb437)); have n4_ := Aside0.mk ((by rw [hg]; exact (below_size (Rgn.bq HB.out)) : w.heap.size ≤ gb437)); have n5_ := Aside0.mk ((by rw [hg]; exact Nat.ne_of_lt (blk_lt (g := gb436) (o := .cells #[.int .i64 a0_0, .int .i64 a0_1, .int .i64 a0_2, .int .i64 a0_3, .int .i64 a0_4] 29 (0, 0)) (Rgn.kb BK436.out)) : gb436 ≠ gb437)); have n6_ := Aside0.mk ((by rw [hg]; exact Nat.ne_of_gt (blk_lt (g := gb436) (o := .cells #[.int .i64 a0_0, .int .i64 a0_1, .int .i64 a0_2, .int .i64 a0_3, .int .i64 a0_4] 29 (0, 0)) (Rgn.kb BK436.out)) : gb437 ≠ gb436)); clear BK436; clear HB; have BK436 := n0_; have HB := n1_; have BK437 := n2_; have GW437 := n3_; have GE437 := n4_; have NB436_437 := n5_; have NB437_436 := n6_; clear n0_ n1_ n2_ n3_ n4_ n5_ n6_; clear hb hbox hg) | ((with_reducible refine gate_dst (N := 4) rfl ?_); refine box_event ?hg (N := 4) ?hd (cs := #[.int .i64 0, .int .i64 0, .int .i64 0, .int .i64 0, .int .i64 0]) (t := 29) ?hr ?_; (case hd => rfl); (case hg => rfl); (case hr => first | (go_simp; done) | (go_simp; rfl)); intro gb438 hg w40 hbox hb; have n0_ := Aside0.mk (Rgn.bb BK436.out hb); have n1_ := Aside0.mk (Rgn.bb BK437.out hb); have n2_ := Aside0.mk (below_step (Rgn.bq HB.out) hb); have n3_ := Aside0.mk (hbox); have n4_ := Aside0.mk ((by rw [hg]; exact (below_size (Rgn.bq HB.out)) : w.heap.size ≤ gb438)); have n5_ := Aside0.mk ((by rw [hg]; exact (below_size (Rgn.bq HB.out)) : w.heap.size ≤ gb438)); have n6_ := Aside0.mk ((by rw [hg]; exact Nat.ne_of_lt (blk_lt (g := gb436) (o := .cells #[.int .i64 a0_0, .int .i64 a0_1, .int .i64 a0_2, .int .i64 a0_3, .int .i64 a0_4] 29 (0, 0)) (Rgn.kb BK436.out)) : gb436 ≠ gb438)); have n7_ := Aside0.mk ((by rw [hg]; exact Nat.ne_of_gt (blk_lt (g := gb436) (o := .cells #[.int .i64 a0_0, .int .i64 a0_1, .int .i64 a0_2, .int .i64 a0_3, .int .i64 a0_4] 29 (0, 0)) (Rgn.kb BK436.out)) : gb438 ≠ gb436)); have n8_ := Aside0.mk ((by rw [hg]; exact Nat.ne_of_lt (blk_lt (g := gb437) (o := .cells #[.int .i64 a1_0, .slice A1_1 l1_1.length c1_1, .slice A1_2 l1_2.length c1_2] 34 (0, 0)) (Rgn.kb BK437.out)) : gb437 ≠ gb438)); have n9_ := Aside0.mk ((by rw [hg]; exact Nat.ne_of_gt (blk_lt (g := gb437) (o := .cells #[.int .i64 a1_0, .slice A1_1 l1_1.length c1_1, .slice A1_2 l1_2.length c1_2] 34 (0, 0)) (Rgn.kb BK437.out)) : gb438 ≠ gb437)); clear BK436; clear BK437; clear HB; have BK436 := n0_; have BK437 := n1_; have HB := n2_; have BK438 := n3_; have GW438 := n4_; have GE438 := n5_; have NB436_438 := n6_; have NB438_436 := n7_; have NB437_438 := n8_; have NB438_437 := n9_; clear n0_ n1_ n2_ n3_ n4_ n5_ n6_ n7_ n8_ n9_; clear hb hbox hg; have hnb41 := NB436_437.out; have hnc41 := NB437_436.out; have hnb42 := NB436_438.out; have hnc42 := NB438_436.out; have hcz43_0 : w40.cell? ⟨gb436, 0, none⟩ = some (.int .i64 a0_0) := (blk_cell BK436.out 0).trans rfl; have hcz43_1 : w40.cell? ⟨gb436, 1, none⟩ = some (.int .i64 a0_1) := (blk_cell BK436.out 1).trans rfl; have hcz43_2 : w40.cell? ⟨gb436, 2, none⟩ = some (.int .i64 a0_2) := (blk_cell BK436.out 2).trans rfl; have hcz43_3 : w40.cell? ⟨gb436, 3, none⟩ = some (.int .i64 a0_3) := (blk_cell BK436.out 3).trans rfl; have hcz43_4 : w40.cell? ⟨gb436, 4, none⟩ = some (.int .i64 a0_4) := (blk_cell BK436.out 4).trans rfl; have hfz43_0 := blk_frozen BK436.out 0; have hfz43_1 := blk_frozen BK436.out 1; have hfz43_2 := blk_frozen BK436.out 2; have hfz43_3 := blk_frozen BK436.out 3; have hfz43_4 := blk_frozen BK436.out 4; have hnb44 := NB437_438.out; have hnc44 := NB438_437.out; have hcz45_0 : w40.cell? ⟨gb437, 0, none⟩ = some (.int .i64 a1_0) := (blk_cell BK437.out 0).trans rfl; have hcz45_1 : w40.cell? ⟨gb437, 1, none⟩ = some (.slice A1_1 l1_1.length c1_1) := (blk_cell BK437.out 1).trans rfl; have hcz45_2 : w40.cell? ⟨gb437, 2, none⟩ = some (.slice A1_2 l1_2.length c1_2) := (blk_cell BK437.out 2).trans rfl; have hfz45_0 := blk_frozen BK437.out 0; have hfz45_1 := blk_frozen BK437.out 1; have hfz45_2 := blk_frozen BK437.out 2) | ((with_reducible refine gate_callee (f := 28) rfl ?_); refine Rgn.gl (some 8) Try.func28 #[.agg #[.int .i64 a0_0, .int .i64 a0_1, .int .i64 a0_2, .int .i64 a0_3, .int .i64 a0_4], .agg #[.int .i64 a1_0, .slice A1_1 l1_1.length c1_1, .slice A1_2 l1_2.length c1_2]] ?_; (with_reducible refine (impl_takes.calls k a0_0 a0_1 a0_2 a0_3 a0_4 a1_0 _ _ l1_1 _ _ l1_2 false _ ?side1 ?side2 ?side3 ?side4 A3.out).mono ?_); (case side1 => exact Rgn.cq (Kd.C_below HR1_1.out HB.out)); (case side2 => exact HC1_1.out); (case side3 => exact Rgn.cq (Kd.C_below HR1_2.out HB.out)); (case side4 => exact HC1_2.out); rintro e w46 ⟨rfl, hb⟩; refine ⟨_, rfl, ?_⟩; have n0_ := Aside0.mk (Rgn.bb BK436.out hb); have n1_ := Aside0.mk (Rgn.bb BK437.out hb); have n2_ := Aside0.mk (Rgn.bb BK438.out hb); have n3_ := Aside0.mk (below_step (Rgn.bq HB.out) hb); clear BK436; clear BK437; clear BK438; clear HB; have BK436 := n0_; have BK437 := n1_; have BK438 := n2_; have HB := n3_; clear n0_ n1_ n2_ n3_; (try clear hb); (try clear hb2); (try clear hk); (try clear hi); have hcz47_0 : w46.cell? ⟨gb438, 0, none⟩ = some (.int .i64 0) := (blk_cell BK438.out 0).trans rfl; have hcz47_1 : w46.cell? ⟨gb438, 1, none⟩ = some (.int .i64 0) := (blk_cell BK438.out 1).trans rfl; have hcz47_2 : w46.cell? ⟨gb438, 2, none⟩ = some (.int .i64 0) := (blk_cell BK438.out 2).trans rfl; have hcz47_3 : w46.cell? ⟨gb438, 3, none⟩ = some (.int .i64 0) := (blk_cell BK438.out 3).trans rfl; have hcz47_4 : w46.cell? ⟨gb438, 4, none⟩ = some (.int .i64 0) := (blk_cell BK438.out 4).trans rfl; have hfz47_0 := blk_frozen BK438.out 0; have hfz47_1 := blk_frozen BK438.out 1; have hfz47_2 := blk_frozen BK438.out 2; have hfz47_3 := blk_frozen BK438.out 3; have hfz47_4 := blk_frozen BK438.out 4))
    refine bodyPost_ret (results_cell_row rfl _ _ gb438 29 #[.int .i64 0, .int .i64 0, .int .i64 0, .int .i64 0, .int .i64 0] (0, 0) _ rfl (by (with_reducible repeat (first | refine blk_drewN ?_ _ | refine blk_drew ?_ | refine blk_alloc ?_ _)); refine blk_put (cs := #[.int .i64 0, .int .i64 0, .int .i64 0, .int .i64 0, .int .i64 0]) ?_ 4 _ rfl; (with_reducible repeat (first | refine blk_drewN ?_ _ | refine blk_drew ?_ | refine blk_alloc ?_ _)); refine blk_put (cs := #[.int .i64 0, .int .i64 0, .int .i64 0, .int .i64 0, .int .i64 0]) ?_ 3 _ rfl; (with_reducible repeat (first | refine blk_drewN ?_ _ | refine blk_drew ?_ | refine blk_alloc ?_ _)); refine blk_put (cs := #[.int .i64 0, .int .i64 0, .int .i64 0, .int .i64 0, .int .i64 0]) ?_ 2 _ rfl; (with_reducible repeat (first | refine blk_drewN ?_ _ | refine blk_drew ?_ | refine blk_alloc ?_ _)); refine blk_put (cs := #[.int .i64 0, .int .i64 0, .int .i64 0, .int .i64 0, .int .i64 0]) ?_ 1 _ rfl; (with_reducible repeat (first | refine blk_drewN ?_ _ | refine blk_drew ?_ | refine blk_alloc ?_ _)); refine blk_put (cs := #[.int .i64 0, .int .i64 0, .int .i64 0, .int .i64 0, .int .i64 0]) ?_ 0 _ rfl; (with_reducible repeat (first | refine blk_drewN ?_ _ | refine blk_drew ?_ | refine blk_alloc ?_ _)); exact BK438.out) Try.underlying29 rfl (by kernel_rfl)) rfl ?_
    exact ⟨by first | rfl | (simp [errW_none, errW_some] <;> rfl) | (simp [*, errW_none, errW_some] <;> rfl), Rgn.bq HB.out⟩

/-! ### laws_eqLog: function 10 -/
def laws_eqLog.f (a0_0 : Int) (a0_1 : Int) (a0_2 : Int) (a0_3 : Int) (a0_4 : Int) (a1_0 : Int) (a1_1 : Int) (a1_2 : Int) (a1_3 : Int) (a1_4 : Int) : Option (Bool) := if a0_0 = a1_0 then (if a0_1 = a1_1 then (if a0_2 = a1_2 then (if a0_3 = a1_3 then (if a0_4 = a1_4 then (some true) else (some false)) else (some false)) else (some false)) else (some false)) else (some false)
set_option maxHeartbeats 8000000 in
set_option maxRecDepth 100000 in
theorem laws_eqLog.calls (a0_0 : Int) (a0_1 : Int) (a0_2 : Int) (a0_3 : Int) (a0_4 : Int) (a1_0 : Int) (a1_1 : Int) (a1_2 : Int) (a1_3 : Int) (a1_4 : Int) (r : Bool) (w : World) (h : laws_eqLog.f a0_0 a0_1 a0_2 a0_3 a0_4 a1_0 a1_1 a1_2 a1_3 a1_4 = some r) :
    Calls Try.prog 10 #[.agg #[.int .i64 a0_0, .int .i64 a0_1, .int .i64 a0_2, .int .i64 a0_3, .int .i64 a0_4], .agg #[.int .i64 a1_0, .int .i64 a1_1, .int .i64 a1_2, .int .i64 a1_3, .int .i64 a1_4]] w fun e w' => e = .returned (.bool r) ∧ Below w.heap.size w w' := by
  have hu29 := Try.underlying29
  have HB := Aside0.mk (Below.refl w.heap.size w)
  have H : (if a0_0 = a1_0 then (if a0_1 = a1_1 then (if a0_2 = a1_2 then (if a0_3 = a1_3 then (if a0_4 = a1_4 then (some true) else (some false)) else (some false)) else (some false)) else (some false)) else (some false)) = some r := h
  clear h
  by_cases c3 : a0_0 = a1_0
  · rw [if_pos c3] at H
    have c3b0 : (a0_0 == a1_0) = true := beq_iff_eq.mpr c3
    have c3b1 : (a0_0 != a1_0) = false := bne_eq_false_iff_eq.mpr c3
    clear c3
    by_cases c4 : a0_1 = a1_1
    · rw [if_pos c4] at H
      have c4b0 : (a0_1 == a1_1) = true := beq_iff_eq.mpr c4
      have c4b1 : (a0_1 != a1_1) = false := bne_eq_false_iff_eq.mpr c4
      clear c4
      by_cases c5 : a0_2 = a1_2
      · rw [if_pos c5] at H
        have c5b0 : (a0_2 == a1_2) = true := beq_iff_eq.mpr c5
        have c5b1 : (a0_2 != a1_2) = false := bne_eq_false_iff_eq.mpr c5
        clear c5
        by_cases c6 : a0_3 = a1_3
        · rw [if_pos c6] at H
          have c6b0 : (a0_3 == a1_3) = true := beq_iff_eq.mpr c6
          have c6b1 : (a0_3 != a1_3) = false := bne_eq_false_iff_eq.mpr c6
          clear c6
          by_cases c7 : a0_4 = a1_4
          · rw [if_pos c7] at H
            have c7b0 : (a0_4 == a1_4) = true := beq_iff_eq.mpr c7
            have c7b1 : (a0_4 != a1_4) = false := bne_eq_false_iff_eq.mpr c7
            clear c7
            obtain rfl := Option.some.inj H
            go_enter Try.func10, Try.ntmps10
            go_wp2_with (first | ((with_reducible refine gate_dst (N := 2) rfl ?_); refine box_event ?hg (N := 2) ?hd (cs := #[.int .i64 a0_0, .int .i64 a0_1, .int .i64 a0_2, .int .i64 a0_3, .int .i64 a0_4]) (t := 29) ?hr ?_; (case hd => rfl); (case hg => rfl); (case hr => first | (go_simp; done) | (go_simp; rfl)); intro gb444 hg w8 hbox hb; have n0_ := Aside0.mk (below_step (Rgn.bq HB.out) hb); have n1_ := Aside0.mk (hbox); have n2_ := Aside0.mk ((by rw [hg]; exact (below_size (Rgn.bq HB.out)) : w.heap.size ≤ gb444)); have n3_ := Aside0.mk ((by rw [hg]; exact (below_size (Rgn.bq HB.out)) : w.heap.size ≤ gb444)); clear HB; have HB := n0_; have BK444 := n1_; have GW444 := n2_; have GE444 := n3_; clear n0_ n1_ n2_ n3_; clear hb hbox hg) | ((with_reducible refine gate_dst (N := 3) rfl ?_); refine box_event ?hg (N := 3) ?hd (cs := #[.int .i64 a1_0, .int .i64 a1_1, .int .i64 a1_2, .int .i64 a1_3, .int .i64 a1_4]) (t := 29) ?hr ?_; (case hd => rfl); (case hg => rfl); (case hr => first | (go_simp; done) | (go_simp; rfl)); intro gb445 hg w9 hbox hb; have n0_ := Aside0.mk (Rgn.bb BK444.out hb); have n1_ := Aside0.mk (below_step (Rgn.bq HB.out) hb); have n2_ := Aside0.mk (hbox); have n3_ := Aside0.mk ((by rw [hg]; exact (below_size (Rgn.bq HB.out)) : w.heap.size ≤ gb445)); have n4_ := Aside0.mk ((by rw [hg]; exact (below_size (Rgn.bq HB.out)) : w.heap.size ≤ gb445)); have n5_ := Aside0.mk ((by rw [hg]; exact Nat.ne_of_lt (blk_lt (g := gb444) (o := .cells #[.int .i64 a0_0, .int .i64 a0_1, .int .i64 a0_2, .int .i64 a0_3, .int .i64 a0_4] 29 (0, 0)) (Rgn.kb BK444.out)) : gb444 ≠ gb445)); have n6_ := Aside0.mk ((by rw [hg]; exact Nat.ne_of_gt (blk_lt (g := gb444) (o := .cells #[.int .i64 a0_0, .int .i64 a0_1, .int .i64 a0_2, .int .i64 a0_3, .int .i64 a0_4] 29 (0, 0)) (Rgn.kb BK444.out)) : gb445 ≠ gb444)); clear BK444; clear HB; have BK444 := n0_; have HB := n1_; have BK445 := n2_; have GW445 := n3_; have GE445 := n4_; have NB444_445 := n5_; have NB445_444 := n6_; clear n0_ n1_ n2_ n3_ n4_ n5_ n6_; clear hb hbox hg; have hnb10 := NB444_445.out; have hnc10 := NB445_444.out; have hcz11_0 : w9.cell? ⟨gb444, 0, none⟩ = some (.int .i64 a0_0) := (blk_cell BK444.out 0).trans rfl; have hcz11_1 : w9.cell? ⟨gb444, 1, none⟩ = some (.int .i64 a0_1) := (blk_cell BK444.out 1).trans rfl; have hcz11_2 : w9.cell? ⟨gb444, 2, none⟩ = some (.int .i64 a0_2) := (blk_cell BK444.out 2).trans rfl; have hcz11_3 : w9.cell? ⟨gb444, 3, none⟩ = some (.int .i64 a0_3) := (blk_cell BK444.out 3).trans rfl; have hcz11_4 : w9.cell? ⟨gb444, 4, none⟩ = some (.int .i64 a0_4) := (blk_cell BK444.out 4).trans rfl; have hfz11_0 := blk_frozen BK444.out 0; have hfz11_1 := blk_frozen BK444.out 1; have hfz11_2 := blk_frozen BK444.out 2; have hfz11_3 := blk_frozen BK444.out 3; have hfz11_4 := blk_frozen BK444.out 4; have hcz12_0 : w9.cell? ⟨gb445, 0, none⟩ = some (.int .i64 a1_0) := (blk_cell BK445.out 0).trans rfl; have hcz12_1 : w9.cell? ⟨gb445, 1, none⟩ = some (.int .i64 a1_1) := (blk_cell BK445.out 1).trans rfl; have hcz12_2 : w9.cell? ⟨gb445, 2, none⟩ = some (.int .i64 a1_2) := (blk_cell BK445.out 2).trans rfl; have hcz12_3 : w9.cell? ⟨gb445, 3, none⟩ = some (.int .i64 a1_3) := (blk_cell BK445.out 3).trans rfl; have hcz12_4 : w9.cell? ⟨gb445, 4, none⟩ = some (.int .i64 a1_4) := (blk_cell BK445.out 4).trans rfl; have hfz12_0 := blk_frozen BK445.out 0; have hfz12_1 := blk_frozen BK445.out 1; have hfz12_2 := blk_frozen BK445.out 2; have hfz12_3 := blk_frozen BK445.out 3; have hfz12_4 := blk_frozen BK445.out 4))
            go_ret
            exact ⟨by first | rfl | (simp [errW_none, errW_some] <;> rfl) | (simp [*, errW_none, errW_some] <;> rfl), Rgn.bq HB.out⟩
          · rw [if_neg c7] at H
            have c7b0 : (a0_4 == a1_4) = false := beq_eq_false_iff_ne.mpr c7
            have c7b1 : (a0_4 != a1_4) = true := bne_iff_ne.mpr c7
            obtain rfl := Option.some.inj H
            go_enter Try.func10, Try.ntmps10
            go_wp2_with (first | ((with_reducible refine gate_dst (N := 2) rfl ?_); refine box_event ?hg (N := 2) ?hd (cs := #[.int .i64 a0_0, .int .i64 a0_1, .int .i64 a0_2, .int .i64 a0_3, .int .i64 a0_4]) (t := 29) ?hr ?_; (case hd => rfl); (case hg => rfl); (case hr => first | (go_simp; done) | (go_simp; rfl)); intro gb444 hg w13 hbox hb; have n0_ := Aside0.mk (below_step (Rgn.bq HB.out) hb); have n1_ := Aside0.mk (hbox); have n2_ := Aside0.mk ((by rw [hg]; exact (below_size (Rgn.bq HB.out)) : w.heap.size ≤ gb444)); have n3_ := Aside0.mk ((by rw [hg]; exact (below_size (Rgn.bq HB.out)) : w.heap.size ≤ gb444)); clear HB; have HB := n0_; have BK444 := n1_; have GW444 := n2_; have GE444 := n3_; clear n0_ n1_ n2_ n3_; clear hb hbox hg) | ((with_reducible refine gate_dst (N := 3) rfl ?_); refine box_event ?hg (N := 3) ?hd (cs := #[.int .i64 a1_0, .int .i64 a1_1, .int .i64 a1_2, .int .i64 a1_3, .int .i64 a1_4]) (t := 29) ?hr ?_; (case hd => rfl); (case hg => rfl); (case hr => first | (go_simp; done) | (go_simp; rfl)); intro gb445 hg w14 hbox hb; have n0_ := Aside0.mk (Rgn.bb BK444.out hb); have n1_ := Aside0.mk (below_step (Rgn.bq HB.out) hb); have n2_ := Aside0.mk (hbox); have n3_ := Aside0.mk ((by rw [hg]; exact (below_size (Rgn.bq HB.out)) : w.heap.size ≤ gb445)); have n4_ := Aside0.mk ((by rw [hg]; exact (below_size (Rgn.bq HB.out)) : w.heap.size ≤ gb445)); have n5_ := Aside0.mk ((by rw [hg]; exact Nat.ne_of_lt (blk_lt (g := gb444) (o := .cells #[.int .i64 a0_0, .int .i64 a0_1, .int .i64 a0_2, .int .i64 a0_3, .int .i64 a0_4] 29 (0, 0)) (Rgn.kb BK444.out)) : gb444 ≠ gb445)); have n6_ := Aside0.mk ((by rw [hg]; exact Nat.ne_of_gt (blk_lt (g := gb444) (o := .cells #[.int .i64 a0_0, .int .i64 a0_1, .int .i64 a0_2, .int .i64 a0_3, .int .i64 a0_4] 29 (0, 0)) (Rgn.kb BK444.out)) : gb445 ≠ gb444)); clear BK444; clear HB; have BK444 := n0_; have HB := n1_; have BK445 := n2_; have GW445 := n3_; have GE445 := n4_; have NB444_445 := n5_; have NB445_444 := n6_; clear n0_ n1_ n2_ n3_ n4_ n5_ n6_; clear hb hbox hg; have hnb15 := NB444_445.out; have hnc15 := NB445_444.out; have hcz16_0 : w14.cell? ⟨gb444, 0, none⟩ = some (.int .i64 a0_0) := (blk_cell BK444.out 0).trans rfl; have hcz16_1 : w14.cell? ⟨gb444, 1, none⟩ = some (.int .i64 a0_1) := (blk_cell BK444.out 1).trans rfl; have hcz16_2 : w14.cell? ⟨gb444, 2, none⟩ = some (.int .i64 a0_2) := (blk_cell BK444.out 2).trans rfl; have hcz16_3 : w14.cell? ⟨gb444, 3, none⟩ = some (.int .i64 a0_3) := (blk_cell BK444.out 3).trans rfl; have hcz16_4 : w14.cell? ⟨gb444, 4, none⟩ = some (.int .i64 a0_4) := (blk_cell BK444.out 4).trans rfl; have hfz16_0 := blk_frozen BK444.out 0; have hfz16_1 := blk_frozen BK444.out 1; have hfz16_2 := blk_frozen BK444.out 2; have hfz16_3 := blk_frozen BK444.out 3; have hfz16_4 := blk_frozen BK444.out 4; have hcz17_0 : w14.cell? ⟨gb445, 0, none⟩ = some (.int .i64 a1_0) := (blk_cell BK445.out 0).trans rfl; have hcz17_1 : w14.cell? ⟨gb445, 1, none⟩ = some (.int .i64 a1_1) := (blk_cell BK445.out 1).trans rfl; have hcz17_2 : w14.cell? ⟨gb445, 2, none⟩ = some (.int .i64 a1_2) := (blk_cell BK445.out 2).trans rfl; have hcz17_3 : w14.cell? ⟨gb445, 3, none⟩ = some (.int .i64 a1_3) := (blk_cell BK445.out 3).trans rfl; have hcz17_4 : w14.cell? ⟨gb445, 4, none⟩ = some (.int .i64 a1_4) := (blk_cell BK445.out 4).trans rfl; have hfz17_0 := blk_frozen BK445.out 0; have hfz17_1 := blk_frozen BK445.out 1; have hfz17_2 := blk_frozen BK445.out 2; have hfz17_3 := blk_frozen BK445.out 3; have hfz17_4 := blk_frozen BK445.out 4))
            go_ret
            exact ⟨by first | rfl | (simp [errW_none, errW_some] <;> rfl) | (simp [*, errW_none, errW_some] <;> rfl), Rgn.bq HB.out⟩
        · rw [if_neg c6] at H
          have c6b0 : (a0_3 == a1_3) = false := beq_eq_false_iff_ne.mpr c6
          have c6b1 : (a0_3 != a1_3) = true := bne_iff_ne.mpr c6
          obtain rfl := Option.some.inj H
          go_enter Try.func10, Try.ntmps10
          go_wp2_with (first | ((with_reducible refine gate_dst (N := 2) rfl ?_); refine box_event ?hg (N := 2) ?hd (cs := #[.int .i64 a0_0, .int .i64 a0_1, .int .i64 a0_2, .int .i64 a0_3, .int .i64 a0_4]) (t := 29) ?hr ?_; (case hd => rfl); (case hg => rfl); (case hr => first | (go_simp; done) | (go_simp; rfl)); intro gb444 hg w18 hbox hb; have n0_ := Aside0.mk (below_step (Rgn.bq HB.out) hb); have n1_ := Aside0.mk (hbox); have n2_ := Aside0.mk ((by rw [hg]; exact (below_size (Rgn.bq HB.out)) : w.heap.size ≤ gb444)); have n3_ := Aside0.mk ((by rw [hg]; exact (below_size (Rgn.bq HB.out)) : w.heap.size ≤ gb444)); clear HB; have HB := n0_; have BK444 := n1_; have GW444 := n2_; have GE444 := n3_; clear n0_ n1_ n2_ n3_; clear hb hbox hg) | ((with_reducible refine gate_dst (N := 3) rfl ?_); refine box_event ?hg (N := 3) ?hd (cs := #[.int .i64 a1_0, .int .i64 a1_1, .int .i64 a1_2, .int .i64 a1_3, .int .i64 a1_4]) (t := 29) ?hr ?_; (case hd => rfl); (case hg => rfl); (case hr => first | (go_simp; done) | (go_simp; rfl)); intro gb445 hg w19 hbox hb; have n0_ := Aside0.mk (Rgn.bb BK444.out hb); have n1_ := Aside0.mk (below_step (Rgn.bq HB.out) hb); have n2_ := Aside0.mk (hbox); have n3_ := Aside0.mk ((by rw [hg]; exact (below_size (Rgn.bq HB.out)) : w.heap.size ≤ gb445)); have n4_ := Aside0.mk ((by rw [hg]; exact (below_size (Rgn.bq HB.out)) : w.heap.size ≤ gb445)); have n5_ := Aside0.mk ((by rw [hg]; exact Nat.ne_of_lt (blk_lt (g := gb444) (o := .cells #[.int .i64 a0_0, .int .i64 a0_1, .int .i64 a0_2, .int .i64 a0_3, .int .i64 a0_4] 29 (0, 0)) (Rgn.kb BK444.out)) : gb444 ≠ gb445)); have n6_ := Aside0.mk ((by rw [hg]; exact Nat.ne_of_gt (blk_lt (g := gb444) (o := .cells #[.int .i64 a0_0, .int .i64 a0_1, .int .i64 a0_2, .int .i64 a0_3, .int .i64 a0_4] 29 (0, 0)) (Rgn.kb BK444.out)) : gb445 ≠ gb444)); clear BK444; clear HB; have BK444 := n0_; have HB := n1_; have BK445 := n2_; have GW445 := n3_; have GE445 := n4_; have NB444_445 := n5_; have NB445_444 := n6_; clear n0_ n1_ n2_ n3_ n4_ n5_ n6_; clear hb hbox hg; have hnb20 := NB444_445.out; have hnc20 := NB445_444.out; have hcz21_0 : w19.cell? ⟨gb444, 0, none⟩ = some (.int .i64 a0_0) := (blk_cell BK444.out 0).trans rfl; have hcz21_1 : w19.cell? ⟨gb444, 1, none⟩ = some (.int .i64 a0_1) := (blk_cell BK444.out 1).trans rfl; have hcz21_2 : w19.cell? ⟨gb444, 2, none⟩ = some (.int .i64 a0_2) := (blk_cell BK444.out 2).trans rfl; have hcz21_3 : w19.cell? ⟨gb444, 3, none⟩ = some (.int .i64 a0_3) := (blk_cell BK444.out 3).trans rfl; have hcz21_4 : w19.cell? ⟨gb444, 4, none⟩ = some (.int .i64 a0_4) := (blk_cell BK444.out 4).trans rfl; have hfz21_0 := blk_frozen BK444.out 0; have hfz21_1 := blk_frozen BK444.out 1; have hfz21_2 := blk_frozen BK444.out 2; have hfz21_3 := blk_frozen BK444.out 3; have hfz21_4 := blk_frozen BK444.out 4; have hcz22_0 : w19.cell? ⟨gb445, 0, none⟩ = some (.int .i64 a1_0) := (blk_cell BK445.out 0).trans rfl; have hcz22_1 : w19.cell? ⟨gb445, 1, none⟩ = some (.int .i64 a1_1) := (blk_cell BK445.out 1).trans rfl; have hcz22_2 : w19.cell? ⟨gb445, 2, none⟩ = some (.int .i64 a1_2) := (blk_cell BK445.out 2).trans rfl; have hcz22_3 : w19.cell? ⟨gb445, 3, none⟩ = some (.int .i64 a1_3) := (blk_cell BK445.out 3).trans rfl; have hcz22_4 : w19.cell? ⟨gb445, 4, none⟩ = some (.int .i64 a1_4) := (blk_cell BK445.out 4).trans rfl; have hfz22_0 := blk_frozen BK445.out 0; have hfz22_1 := blk_frozen BK445.out 1; have hfz22_2 := blk_frozen BK445.out 2; have hfz22_3 := blk_frozen BK445.out 3; have hfz22_4 := blk_frozen BK445.out 4))
          go_ret
          exact ⟨by first | rfl | (simp [errW_none, errW_some] <;> rfl) | (simp [*, errW_none, errW_some] <;> rfl), Rgn.bq HB.out⟩
      · rw [if_neg c5] at H
        have c5b0 : (a0_2 == a1_2) = false := beq_eq_false_iff_ne.mpr c5
        have c5b1 : (a0_2 != a1_2) = true := bne_iff_ne.mpr c5
        obtain rfl := Option.some.inj H
        go_enter Try.func10, Try.ntmps10
        go_wp2_with (first | ((with_reducible refine gate_dst (N := 2) rfl ?_); refine box_event ?hg (N := 2) ?hd (cs := #[.int .i64 a0_0, .int .i64 a0_1, .int .i64 a0_2, .int .i64 a0_3, .int .i64 a0_4]) (t := 29) ?hr ?_; (case hd => rfl); (case hg => rfl); (case hr => first | (go_simp; done) | (go_simp; rfl)); intro gb444 hg w23 hbox hb; have n0_ := Aside0.mk (below_step (Rgn.bq HB.out) hb); have n1_ := Aside0.mk (hbox); have n2_ := Aside0.mk ((by rw [hg]; exact (below_size (Rgn.bq HB.out)) : w.heap.size ≤ gb444)); have n3_ := Aside0.mk ((by rw [hg]; exact (below_size (Rgn.bq HB.out)) : w.heap.size ≤ gb444)); clear HB; have HB := n0_; have BK444 := n1_; have GW444 := n2_; have GE444 := n3_; clear n0_ n1_ n2_ n3_; clear hb hbox hg) | ((with_reducible refine gate_dst (N := 3) rfl ?_); refine box_event ?hg (N := 3) ?hd (cs := #[.int .i64 a1_0, .int .i64 a1_1, .int .i64 a1_2, .int .i64 a1_3, .int .i64 a1_4]) (t := 29) ?hr ?_; (case hd => rfl); (case hg => rfl); (case hr => first | (go_simp; done) | (go_simp; rfl)); intro gb445 hg w24 hbox hb; have n0_ := Aside0.mk (Rgn.bb BK444.out hb); have n1_ := Aside0.mk (below_step (Rgn.bq HB.out) hb); have n2_ := Aside0.mk (hbox); have n3_ := Aside0.mk ((by rw [hg]; exact (below_size (Rgn.bq HB.out)) : w.heap.size ≤ gb445)); have n4_ := Aside0.mk ((by rw [hg]; exact (below_size (Rgn.bq HB.out)) : w.heap.size ≤ gb445)); have n5_ := Aside0.mk ((by rw [hg]; exact Nat.ne_of_lt (blk_lt (g := gb444) (o := .cells #[.int .i64 a0_0, .int .i64 a0_1, .int .i64 a0_2, .int .i64 a0_3, .int .i64 a0_4] 29 (0, 0)) (Rgn.kb BK444.out)) : gb444 ≠ gb445)); have n6_ := Aside0.mk ((by rw [hg]; exact Nat.ne_of_gt (blk_lt (g := gb444) (o := .cells #[.int .i64 a0_0, .int .i64 a0_1, .int .i64 a0_2, .int .i64 a0_3, .int .i64 a0_4] 29 (0, 0)) (Rgn.kb BK444.out)) : gb445 ≠ gb444)); clear BK444; clear HB; have BK444 := n0_; have HB := n1_; have BK445 := n2_; have GW445 := n3_; have GE445 := n4_; have NB444_445 := n5_; have NB445_444 := n6_; clear n0_ n1_ n2_ n3_ n4_ n5_ n6_; clear hb hbox hg; have hnb25 := NB444_445.out; have hnc25 := NB445_444.out; have hcz26_0 : w24.cell? ⟨gb444, 0, none⟩ = some (.int .i64 a0_0) := (blk_cell BK444.out 0).trans rfl; have hcz26_1 : w24.cell? ⟨gb444, 1, none⟩ = some (.int .i64 a0_1) := (blk_cell BK444.out 1).trans rfl; have hcz26_2 : w24.cell? ⟨gb444, 2, none⟩ = some (.int .i64 a0_2) := (blk_cell BK444.out 2).trans rfl; have hcz26_3 : w24.cell? ⟨gb444, 3, none⟩ = some (.int .i64 a0_3) := (blk_cell BK444.out 3).trans rfl; have hcz26_4 : w24.cell? ⟨gb444, 4, none⟩ = some (.int .i64 a0_4) := (blk_cell BK444.out 4).trans rfl; have hfz26_0 := blk_frozen BK444.out 0; have hfz26_1 := blk_frozen BK444.out 1; have hfz26_2 := blk_frozen BK444.out 2; have hfz26_3 := blk_frozen BK444.out 3; have hfz26_4 := blk_frozen BK444.out 4; have hcz27_0 : w24.cell? ⟨gb445, 0, none⟩ = some (.int .i64 a1_0) := (blk_cell BK445.out 0).trans rfl; have hcz27_1 : w24.cell? ⟨gb445, 1, none⟩ = some (.int .i64 a1_1) := (blk_cell BK445.out 1).trans rfl; have hcz27_2 : w24.cell? ⟨gb445, 2, none⟩ = some (.int .i64 a1_2) := (blk_cell BK445.out 2).trans rfl; have hcz27_3 : w24.cell? ⟨gb445, 3, none⟩ = some (.int .i64 a1_3) := (blk_cell BK445.out 3).trans rfl; have hcz27_4 : w24.cell? ⟨gb445, 4, none⟩ = some (.int .i64 a1_4) := (blk_cell BK445.out 4).trans rfl; have hfz27_0 := blk_frozen BK445.out 0; have hfz27_1 := blk_frozen BK445.out 1; have hfz27_2 := blk_frozen BK445.out 2; have hfz27_3 := blk_frozen BK445.out 3; have hfz27_4 := blk_frozen BK445.out 4))
        go_ret
        exact ⟨by first | rfl | (simp [errW_none, errW_some] <;> rfl) | (simp [*, errW_none, errW_some] <;> rfl), Rgn.bq HB.out⟩
    · rw [if_neg c4] at H
      have c4b0 : (a0_1 == a1_1) = false := beq_eq_false_iff_ne.mpr c4
      have c4b1 : (a0_1 != a1_1) = true := bne_iff_ne.mpr c4
      obtain rfl := Option.some.inj H
      go_enter Try.func10, Try.ntmps10
      go_wp2_with (first | ((with_reducible refine gate_dst (N := 2) rfl ?_); refine box_event ?hg (N := 2) ?hd (cs := #[.int .i64 a0_0, .int .i64 a0_1, .int .i64 a0_2, .int .i64 a0_3, .int .i64 a0_4]) (t := 29) ?hr ?_; (case hd => rfl); (case hg => rfl); (case hr => first | (go_simp; done) | (go_simp; rfl)); intro gb444 hg w28 hbox hb; have n0_ := Aside0.mk (below_step (Rgn.bq HB.out) hb); have n1_ := Aside0.mk (hbox); have n2_ := Aside0.mk ((by rw [hg]; exact (below_size (Rgn.bq HB.out)) : w.heap.size ≤ gb444)); have n3_ := Aside0.mk ((by rw [hg]; exact (below_size (Rgn.bq HB.out)) : w.heap.size ≤ gb444)); clear HB; have HB := n0_; have BK444 := n1_; have GW444 := n2_; have GE444 := n3_; clear n0_ n1_ n2_ n3_; clear hb hbox hg) | ((with_reducible refine gate_dst (N := 3) rfl ?_); refine box_event ?hg (N := 3) ?hd (cs := #[.int .i64 a1_0, .int .i64 a1_1, .int .i64 a1_2, .int .i64 a1_3, .int .i64 a1_4]) (t := 29) ?hr ?_; (case hd => rfl); (case hg => rfl); (case hr => first | (go_simp; done) | (go_simp; rfl)); intro gb445 hg w29 hbox hb; have n0_ := Aside0.mk (Rgn.bb BK444.out hb); have n1_ := Aside0.mk (below_step (Rgn.bq HB.out) hb); have n2_ := Aside0.mk (hbox); have n3_ := Aside0.mk ((by rw [hg]; exact (below_size (Rgn.bq HB.out)) : w.heap.size ≤ gb445)); have n4_ := Aside0.mk ((by rw [hg]; exact (below_size (Rgn.bq HB.out)) : w.heap.size ≤ gb445)); have n5_ := Aside0.mk ((by rw [hg]; exact Nat.ne_of_lt (blk_lt (g := gb444) (o := .cells #[.int .i64 a0_0, .int .i64 a0_1, .int .i64 a0_2, .int .i64 a0_3, .int .i64 a0_4] 29 (0, 0)) (Rgn.kb BK444.out)) : gb444 ≠ gb445)); have n6_ := Aside0.mk ((by rw [hg]; exact Nat.ne_of_gt (blk_lt (g := gb444) (o := .cells #[.int .i64 a0_0, .int .i64 a0_1, .int .i64 a0_2, .int .i64 a0_3, .int .i64 a0_4] 29 (0, 0)) (Rgn.kb BK444.out)) : gb445 ≠ gb444)); clear BK444; clear HB; have BK444 := n0_; have HB := n1_; have BK445 := n2_; have GW445 := n3_; have GE445 := n4_; have NB444_445 := n5_; have NB445_444 := n6_; clear n0_ n1_ n2_ n3_ n4_ n5_ n6_; clear hb hbox hg; have hnb30 := NB444_445.out; have hnc30 := NB445_444.out; have hcz31_0 : w29.cell? ⟨gb444, 0, none⟩ = some (.int .i64 a0_0) := (blk_cell BK444.out 0).trans rfl; have hcz31_1 : w29.cell? ⟨gb444, 1, none⟩ = some (.int .i64 a0_1) := (blk_cell BK444.out 1).trans rfl; have hcz31_2 : w29.cell? ⟨gb444, 2, none⟩ = some (.int .i64 a0_2) := (blk_cell BK444.out 2).trans rfl; have hcz31_3 : w29.cell? ⟨gb444, 3, none⟩ = some (.int .i64 a0_3) := (blk_cell BK444.out 3).trans rfl; have hcz31_4 : w29.cell? ⟨gb444, 4, none⟩ = some (.int .i64 a0_4) := (blk_cell BK444.out 4).trans rfl; have hfz31_0 := blk_frozen BK444.out 0; have hfz31_1 := blk_frozen BK444.out 1; have hfz31_2 := blk_frozen BK444.out 2; have hfz31_3 := blk_frozen BK444.out 3; have hfz31_4 := blk_frozen BK444.out 4; have hcz32_0 : w29.cell? ⟨gb445, 0, none⟩ = some (.int .i64 a1_0) := (blk_cell BK445.out 0).trans rfl; have hcz32_1 : w29.cell? ⟨gb445, 1, none⟩ = some (.int .i64 a1_1) := (blk_cell BK445.out 1).trans rfl; have hcz32_2 : w29.cell? ⟨gb445, 2, none⟩ = some (.int .i64 a1_2) := (blk_cell BK445.out 2).trans rfl; have hcz32_3 : w29.cell? ⟨gb445, 3, none⟩ = some (.int .i64 a1_3) := (blk_cell BK445.out 3).trans rfl; have hcz32_4 : w29.cell? ⟨gb445, 4, none⟩ = some (.int .i64 a1_4) := (blk_cell BK445.out 4).trans rfl; have hfz32_0 := blk_frozen BK445.out 0; have hfz32_1 := blk_frozen BK445.out 1; have hfz32_2 := blk_frozen BK445.out 2; have hfz32_3 := blk_frozen BK445.out 3; have hfz32_4 := blk_frozen BK445.out 4))
      go_ret
      exact ⟨by first | rfl | (simp [errW_none, errW_some] <;> rfl) | (simp [*, errW_none, errW_some] <;> rfl), Rgn.bq HB.out⟩
  · rw [if_neg c3] at H
    have c3b0 : (a0_0 == a1_0) = false := beq_eq_false_iff_ne.mpr c3
    have c3b1 : (a0_0 != a1_0) = true := bne_iff_ne.mpr c3
    obtain rfl := Option.some.inj H
    go_enter Try.func10, Try.ntmps10
    go_wp2_with (first | ((with_reducible refine gate_dst (N := 2) rfl ?_); refine box_event ?hg (N := 2) ?hd (cs := #[.int .i64 a0_0, .int .i64 a0_1, .int .i64 a0_2, .int .i64 a0_3, .int .i64 a0_4]) (t := 29) ?hr ?_; (case hd => rfl); (case hg => rfl); (case hr => first | (go_simp; done) | (go_simp; rfl)); intro gb444 hg w33 hbox hb; have n0_ := Aside0.mk (below_step (Rgn.bq HB.out) hb); have n1_ := Aside0.mk (hbox); have n2_ := Aside0.mk ((by rw [hg]; exact (below_size (Rgn.bq HB.out)) : w.heap.size ≤ gb444)); have n3_ := Aside0.mk ((by rw [hg]; exact (below_size (Rgn.bq HB.out)) : w.heap.size ≤ gb444)); clear HB; have HB := n0_; have BK444 := n1_; have GW444 := n2_; have GE444 := n3_; clear n0_ n1_ n2_ n3_; clear hb hbox hg) | ((with_reducible refine gate_dst (N := 3) rfl ?_); refine box_event ?hg (N := 3) ?hd (cs := #[.int .i64 a1_0, .int .i64 a1_1, .int .i64 a1_2, .int .i64 a1_3, .int .i64 a1_4]) (t := 29) ?hr ?_; (case hd => rfl); (case hg => rfl); (case hr => first | (go_simp; done) | (go_simp; rfl)); intro gb445 hg w34 hbox hb; have n0_ := Aside0.mk (Rgn.bb BK444.out hb); have n1_ := Aside0.mk (below_step (Rgn.bq HB.out) hb); have n2_ := Aside0.mk (hbox); have n3_ := Aside0.mk ((by rw [hg]; exact (below_size (Rgn.bq HB.out)) : w.heap.size ≤ gb445)); have n4_ := Aside0.mk ((by rw [hg]; exact (below_size (Rgn.bq HB.out)) : w.heap.size ≤ gb445)); have n5_ := Aside0.mk ((by rw [hg]; exact Nat.ne_of_lt (blk_lt (g := gb444) (o := .cells #[.int .i64 a0_0, .int .i64 a0_1, .int .i64 a0_2, .int .i64 a0_3, .int .i64 a0_4] 29 (0, 0)) (Rgn.kb BK444.out)) : gb444 ≠ gb445)); have n6_ := Aside0.mk ((by rw [hg]; exact Nat.ne_of_gt (blk_lt (g := gb444) (o := .cells #[.int .i64 a0_0, .int .i64 a0_1, .int .i64 a0_2, .int .i64 a0_3, .int .i64 a0_4] 29 (0, 0)) (Rgn.kb BK444.out)) : gb445 ≠ gb444)); clear BK444; clear HB; have BK444 := n0_; have HB := n1_; have BK445 := n2_; have GW445 := n3_; have GE445 := n4_; have NB444_445 := n5_; have NB445_444 := n6_; clear n0_ n1_ n2_ n3_ n4_ n5_ n6_; clear hb hbox hg; have hnb35 := NB444_445.out; have hnc35 := NB445_444.out; have hcz36_0 : w34.cell? ⟨gb444, 0, none⟩ = some (.int .i64 a0_0) := (blk_cell BK444.out 0).trans rfl; have hcz36_1 : w34.cell? ⟨gb444, 1, none⟩ = some (.int .i64 a0_1) := (blk_cell BK444.out 1).trans rfl; have hcz36_2 : w34.cell? ⟨gb444, 2, none⟩ = some (.int .i64 a0_2) := (blk_cell BK444.out 2).trans rfl; have hcz36_3 : w34.cell? ⟨gb444, 3, none⟩ = some (.int .i64 a0_3) := (blk_cell BK444.out 3).trans rfl; have hcz36_4 : w34.cell? ⟨gb444, 4, none⟩ = some (.int .i64 a0_4) := (blk_cell BK444.out 4).trans rfl; have hfz36_0 := blk_frozen BK444.out 0; have hfz36_1 := blk_frozen BK444.out 1; have hfz36_2 := blk_frozen BK444.out 2; have hfz36_3 := blk_frozen BK444.out 3; have hfz36_4 := blk_frozen BK444.out 4; have hcz37_0 : w34.cell? ⟨gb445, 0, none⟩ = some (.int .i64 a1_0) := (blk_cell BK445.out 0).trans rfl; have hcz37_1 : w34.cell? ⟨gb445, 1, none⟩ = some (.int .i64 a1_1) := (blk_cell BK445.out 1).trans rfl; have hcz37_2 : w34.cell? ⟨gb445, 2, none⟩ = some (.int .i64 a1_2) := (blk_cell BK445.out 2).trans rfl; have hcz37_3 : w34.cell? ⟨gb445, 3, none⟩ = some (.int .i64 a1_3) := (blk_cell BK445.out 3).trans rfl; have hcz37_4 : w34.cell? ⟨gb445, 4, none⟩ = some (.int .i64 a1_4) := (blk_cell BK445.out 4).trans rfl; have hfz37_0 := blk_frozen BK445.out 0; have hfz37_1 := blk_frozen BK445.out 1; have hfz37_2 := blk_frozen BK445.out 2; have hfz37_3 := blk_frozen BK445.out 3; have hfz37_4 := blk_frozen BK445.out 4))
    go_ret
    exact ⟨by first | rfl | (simp [errW_none, errW_some] <;> rfl) | (simp [*, errW_none, errW_some] <;> rfl), Rgn.bq HB.out⟩

end Go.Proofs.Ytkehfdadplpaeaa.PFnExactLogNext
