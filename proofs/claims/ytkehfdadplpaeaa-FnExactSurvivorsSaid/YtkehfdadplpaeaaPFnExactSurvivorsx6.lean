-- written by a program of this session (wip/src/print2.py)
import Derived.Test.YtkehfdadplpaeaaPFnExactSurvivorsx0
import Derived.Test.YtkehfdadplpaeaaPFnExactSurvivorsx5
namespace Go.Proofs.Ytkehfdadplpaeaa.PFnExactSurvivors
open Go.RowKit Go.Proofs.YtkehfdadplpaeaaW.PrintWords Go.Proofs.YtkehfdadplpaeaaW.PrintLast Go.Proofs.YtkehfdadplpaeaaW.PrintMore
attribute [local go_sem] max2_int min2_int max_two min_two max_three min_three max_four min_four   -- for this text's walks alone
set_option linter.unusedVariables false
set_option linter.unusedSimpArgs false

/-! ### laws_eqHomeS: function 16 -/
def laws_eqHomeS.l0 : Nat → List (S61) → List (S61) → Int → Option (Bool)
 | 0, _, _, _ => none
 | k + 1, x0, x1, x5 => if x5 < (x0.length : Int) then (if 0 ≤ x5 then (if x5 < (x1.length : Int) then ((laws_eqHome.f k ((rd_T61 x0 x5).f0) ((rd_T61 x0 x5).f1) ((rd_T61 x1 x5).f0) ((rd_T61 x1 x5).f1)).bind fun t227 => (if t227 = true then (laws_eqHomeS.l0 k x0 x1 (wrap64 (x5 + 1))) else (some false))) else (none)) else (none)) else (some true)
def laws_eqHomeS.f (k : Nat) (l0 : List (S61)) (l1 : List (S61)) : Option (Bool) := if (l0.length : Int) = (l1.length : Int) then (laws_eqHomeS.l0 k l0 l1 0) else (some false)
def laws_eqHomeS.T6 : Bool × List (List Nat × List Nat) := (true, [([], []), ([], []), ([0, 1], [0, 1]), ([2], [2]), ([], []), ([], []), ([4, 5], [4, 5]), ([6], [6]), ([3, 7], [3, 7]), ([8], [8])])
def laws_eqHomeS.B6 : List Nat := [0, 0, 3, 7, 0, 0, 48, 112, 255, 511]
theorem laws_eqHomeS.tab6 : rtab .any (opsOf Try.f16 6) = laws_eqHomeS.T6 := by kernel_rfl
theorem laws_eqHomeS.bits6 : waitsOk laws_eqHomeS.T6.2 laws_eqHomeS.B6 = true := by kernel_rfl
set_option maxHeartbeats 8000000 in
set_option maxRecDepth 100000 in
theorem laws_eqHomeS.calls (k : Nat) (A0 : Option Addr) (c0 : Nat) (l0 : List (S61)) (A1 : Option Addr) (c1 : Nat) (l1 : List (S61)) (r : Bool) (w : World) (hr0 : Kd.C k61 w A0 l0.length l0) (hc0 : l0.length ≤ c0) (hr1 : Kd.C k61 w A1 l1.length l1) (hc1 : l1.length ≤ c1) (h : laws_eqHomeS.f k l0 l1 = some r) :
  Calls Try.prog 16 #[.slice A0 l0.length c0, .slice A1 l1.length c1] w fun e w' => e = .returned (.bool r) ∧ Below w.heap.size w w' := by
 have hu61 := Try.underlying61
 have HR0 := Aside0.mk hr0
 have HC0 := Aside0.mk hc0
 clear hr0 hc0
 have HR1 := Aside0.mk hr1
 have HC1 := Aside0.mk hc1
 clear hr1 hc1
 have HB := Aside0.mk (Below.refl w.heap.size w)
 have H : (if (l0.length : Int) = (l1.length : Int) then (laws_eqHomeS.l0 k l0 l1 0) else (some false)) = some r := h
 clear h
 by_cases c3 : (l0.length : Int) = (l1.length : Int)
 ·
  rw [if_pos c3] at H
  have c3b0 : ((l0.length : Int) == (l1.length : Int)) = true := beq_iff_eq.mpr c3
  have c3b1 : ((l0.length : Int) != (l1.length : Int)) = false := bne_eq_false_iff_eq.mpr c3
  have c3b2 : (l0.length == l1.length) = true := by first | simpa using c3 | (simp at c3 ⊢; omega)
  clear c3
  have H' := Aside0.mk H
  clear H
  go_enter Try.func16, Try.ntmps16
  go_wp2
  go_loopg [5] k (fun kq v5 w' => ∃ (x5_1 : Int), v5 = .int .i64 x5_1 ∧ Aside0 (laws_eqHomeS.l0 kq l0 l1 x5_1 = some r) ∧ Aside0 (kq ≤ k) ∧ Aside0 (Below w.heap.size w w'))
  case atStart => exact ⟨(0), (by first | rfl | (simp; done) | (simp [*]; done)), H', ⟨Nat.le_refl _⟩, ⟨Rgn.bq HB.out⟩⟩
  case round =>
   clear H'
   try clear c1
   try clear p2
   try clear c3
   try clear c3b0
   try clear c3b1
   try clear c3b2
   obtain ⟨x5_1, rfl, HA, HK1, HB⟩ := hrel
   cases gk with
   | zero => exact absurd HA.out (by simp [laws_eqHomeS.l0])
   | succ k1 =>
    have H := HA.out
    clear HA
    simp only [laws_eqHomeS.l0] at H
    by_cases c4 : x5_1 < (l0.length : Int)
    ·
     rw [if_pos c4] at H
     have c4b0 : decide (x5_1 < (l0.length : Int)) = true := decide_eq_true c4
     clear c4
     by_cases c5 : 0 ≤ x5_1
     ·
      rw [if_pos c5] at H
      have c5b0 : decide (0 ≤ x5_1) = true := decide_eq_true c5
      clear c5
      by_cases c6 : x5_1 < (l1.length : Int)
      ·
       rw [if_pos c6] at H
       have c6b0 : decide (x5_1 < (l1.length : Int)) = true := decide_eq_true c6
       clear c6
       replace H := Option.bind_eq_some_iff.mp H
       obtain ⟨t227, A70, H⟩ := H
       replace H : (if t227 = true then (laws_eqHomeS.l0 k1 l0 l1 (wrap64 (x5_1 + 1))) else (some false)) = some r := H
       have A7 := Aside0.mk A70
       clear A70
       by_cases c8 : t227 = true
       ·
        subst c8
        have H1 : (laws_eqHomeS.l0 k1 l0 l1 (wrap64 (x5_1 + 1))) = some r := by rw [if_pos rfl] at H; exact H
        clear H
        have H := H1
        clear H1
        have H' := Aside0.mk H
        clear H
        try go_wp2
        replace HB := Aside0.mk (below_drew1 HB.out)
        have p225 : 0 ≤ (x5_1 : Int) := of_decide_eq_true (by first | (with_reducible assumption) | assumption)
        have q225 : x5_1 < (l0.length : Int) := of_decide_eq_true (by first | (with_reducible assumption) | assumption)
        obtain ⟨ad225, A225_1, c225_1, e225, hx225_0, hx225_1, hl225_1, hi225_1⟩ := at_T61 HR0.out x5_1 p225 q225
        have hw225_1 := hx225_1
        have hw225_0 := hx225_0
        cases e225
        replace hx225_0 := Rgn.hx HB.out hx225_0
        replace hx225_1 := Rgn.hx HB.out hx225_1
        have HR225_1 := Aside0.mk hi225_1
        have HC225_1 := Aside0.mk hl225_1
        clear hi225_1 hl225_1
        replace p225 := eq_true p225
        replace q225 := eq_true q225
        have p226 : 0 ≤ (x5_1 : Int) := of_decide_eq_true (by first | (with_reducible assumption) | assumption)
        have q226 : x5_1 < (l1.length : Int) := of_decide_eq_true (by first | (with_reducible assumption) | assumption)
        obtain ⟨ad226, A226_1, c226_1, e226, hx226_0, hx226_1, hl226_1, hi226_1⟩ := at_T61 HR1.out x5_1 p226 q226
        have hw226_1 := hx226_1
        have hw226_0 := hx226_0
        cases e226
        replace hx226_0 := Rgn.hx HB.out hx226_0
        replace hx226_1 := Rgn.hx HB.out hx226_1
        have HR226_1 := Aside0.mk hi226_1
        have HC226_1 := Aside0.mk hl226_1
        clear hi226_1 hl226_1
        replace p226 := eq_true p226
        replace q226 := eq_true q226
        refine start_ (n := 10) (S := fun w' => w'.cell? (ad225.add ((x5_1).toNat * 2)) = some (.int .i64 ((rd_T61 l0 x5_1).f0)) ∧ w'.cell? ⟨(ad225.add ((x5_1).toNat * 2)).block, (ad225.add ((x5_1).toNat * 2)).off + 1, none⟩ = some (.slice A225_1 ((rd_T61 l0 x5_1).f1).length c225_1) ∧ w'.cell? (ad226.add ((x5_1).toNat * 2)) = some (.int .i64 ((rd_T61 l1 x5_1).f0)) ∧ w'.cell? ⟨(ad226.add ((x5_1).toNat * 2)).block, (ad226.add ((x5_1).toNat * 2)).off + 1, none⟩ = some (.slice A226_1 ((rd_T61 l1 x5_1).f1).length c226_1)) (ds := []) #[false, false, false, false, false, false, false, false, false, false] (by kernel_rfl) rfl rfl ⟨((HB.out.cell (World.block_lt_of_cell? w _ hw225_0)).trans hw225_0), ((HB.out.cell (World.block_lt_of_cell? w _ hw225_1)).trans hw225_1), ((HB.out.cell (World.block_lt_of_cell? w _ hw226_0)).trans hw226_0), ((HB.out.cell (World.block_lt_of_cell? w _ hw226_1)).trans hw226_1)⟩ (fun hHeld => ?_); refine with_tabW laws_eqHomeS.tab6 laws_eqHomeS.bits6 (fun HT_ HW_ => ?_)
        generalize wr.drew = w9 at HB HR225_1 HR226_1 hx225_0 hx225_1 hx226_0 hx226_1 hHeld ⊢
        refine Rgn.pu HT_.out 0 17 ?_
        refine Rgn.pu HT_.out 1 18 ?_
        refine Rgn.pu HT_.out 2 19 ?_
        refine Rgn.pu HT_.out 4 21 ?_
        refine Rgn.pu HT_.out 5 22 ?_
        refine Rgn.pu HT_.out 6 23 ?_
        refine Rgn.tk HT_.out HW_.out 3 20 hHeld ?_
        refine Rgn.tk HT_.out HW_.out 7 24 hHeld ?_
        refine one_ (i := 8) (N := some 25) #[true, true, true, true, true, true, true, true, true, false] rfl rfl (one_of HT_.out (by kernel_rfl)) (by decide) (fun K hK => ?_)
        refine Rgn.gs Try.func36 #[.agg #[.int .i64 ((rd_T61 l0 x5_1).f0), .slice A225_1 ((rd_T61 l0 x5_1).f1).length c225_1], .agg #[.int .i64 ((rd_T61 l1 x5_1).f0), .slice A226_1 ((rd_T61 l1 x5_1).f1).length c226_1]] ?_
        with_reducible refine (laws_eqHome.calls k1 ((rd_T61 l0 x5_1).f0) _ _ ((rd_T61 l0 x5_1).f1) ((rd_T61 l1 x5_1).f0) _ _ ((rd_T61 l1 x5_1).f1) true _ ?side1 ?side2 ?side3 ?side4 A7.out).mono ?_
        (case side1 => exact Rgn.cq (Kd.C_below HR225_1.out HB.out))
        (case side2 => exact HC225_1.out)
        (case side3 => exact Rgn.cq (Kd.C_below HR226_1.out HB.out))
        (case side4 => exact HC226_1.out)
        rintro e w10 ⟨rfl, hb⟩
        refine ⟨_, rfl, ?_⟩
        replace HB := Aside0.mk (below_step (Rgn.bq HB.out) hb)
        (try clear hb)
        skip
        skip
        skip
        refine hK.out _ _ ⟨((HB.out.cell (World.block_lt_of_cell? w _ hw225_0)).trans hw225_0), ((HB.out.cell (World.block_lt_of_cell? w _ hw225_1)).trans hw225_1), ((HB.out.cell (World.block_lt_of_cell? w _ hw226_0)).trans hw226_0), ((HB.out.cell (World.block_lt_of_cell? w _ hw226_1)).trans hw226_1)⟩ (fun hHeld => ?_)
        clear hK K
        refine norm_ (a' := ?_) ?_ ?_
        rotate_left
        ·
         show Act.put _ (some 25) _ = _
         simp only [Act.put, List.setIfInBounds_toArray, List.set_cons_zero, List.set_cons_succ, i64_w, i32_w]
         rfl
        refine Rgn.pu HT_.out 9 26 ?_
        refine done_ (done_of HT_.out (by kernel_rfl)) ?_
        try go_wp2
        go_roundg k1
        case measure => have := HK1.out; omega
        case rel => exact ⟨(wrap64 (x5_1 + 1)), (by first | rfl | (simp; done) | (simp [*]; done)), H', ⟨by have := HK1.out; omega⟩, ⟨Rgn.bq HB.out⟩⟩
       ·
        replace c8 := Bool.eq_false_iff.mpr c8
        subst c8
        have H1 : (some false) = some r := by rw [if_neg (show ¬ (false = true) by decide)] at H; exact H
        clear H
        have H := H1
        clear H1
        obtain rfl := Option.some.inj H
        try go_wp2
        replace HB := Aside0.mk (below_drew1 HB.out)
        have p225 : 0 ≤ (x5_1 : Int) := of_decide_eq_true (by first | (with_reducible assumption) | assumption)
        have q225 : x5_1 < (l0.length : Int) := of_decide_eq_true (by first | (with_reducible assumption) | assumption)
        obtain ⟨ad225, A225_1, c225_1, e225, hx225_0, hx225_1, hl225_1, hi225_1⟩ := at_T61 HR0.out x5_1 p225 q225
        have hw225_1 := hx225_1
        have hw225_0 := hx225_0
        cases e225
        replace hx225_0 := Rgn.hx HB.out hx225_0
        replace hx225_1 := Rgn.hx HB.out hx225_1
        have HR225_1 := Aside0.mk hi225_1
        have HC225_1 := Aside0.mk hl225_1
        clear hi225_1 hl225_1
        replace p225 := eq_true p225
        replace q225 := eq_true q225
        have p226 : 0 ≤ (x5_1 : Int) := of_decide_eq_true (by first | (with_reducible assumption) | assumption)
        have q226 : x5_1 < (l1.length : Int) := of_decide_eq_true (by first | (with_reducible assumption) | assumption)
        obtain ⟨ad226, A226_1, c226_1, e226, hx226_0, hx226_1, hl226_1, hi226_1⟩ := at_T61 HR1.out x5_1 p226 q226
        have hw226_1 := hx226_1
        have hw226_0 := hx226_0
        cases e226
        replace hx226_0 := Rgn.hx HB.out hx226_0
        replace hx226_1 := Rgn.hx HB.out hx226_1
        have HR226_1 := Aside0.mk hi226_1
        have HC226_1 := Aside0.mk hl226_1
        clear hi226_1 hl226_1
        replace p226 := eq_true p226
        replace q226 := eq_true q226
        refine start_ (n := 10) (S := fun w' => w'.cell? (ad225.add ((x5_1).toNat * 2)) = some (.int .i64 ((rd_T61 l0 x5_1).f0)) ∧ w'.cell? ⟨(ad225.add ((x5_1).toNat * 2)).block, (ad225.add ((x5_1).toNat * 2)).off + 1, none⟩ = some (.slice A225_1 ((rd_T61 l0 x5_1).f1).length c225_1) ∧ w'.cell? (ad226.add ((x5_1).toNat * 2)) = some (.int .i64 ((rd_T61 l1 x5_1).f0)) ∧ w'.cell? ⟨(ad226.add ((x5_1).toNat * 2)).block, (ad226.add ((x5_1).toNat * 2)).off + 1, none⟩ = some (.slice A226_1 ((rd_T61 l1 x5_1).f1).length c226_1)) (ds := []) #[false, false, false, false, false, false, false, false, false, false] (by kernel_rfl) rfl rfl ⟨((HB.out.cell (World.block_lt_of_cell? w _ hw225_0)).trans hw225_0), ((HB.out.cell (World.block_lt_of_cell? w _ hw225_1)).trans hw225_1), ((HB.out.cell (World.block_lt_of_cell? w _ hw226_0)).trans hw226_0), ((HB.out.cell (World.block_lt_of_cell? w _ hw226_1)).trans hw226_1)⟩ (fun hHeld => ?_); refine with_tabW laws_eqHomeS.tab6 laws_eqHomeS.bits6 (fun HT_ HW_ => ?_)
        generalize wr.drew = w11 at HB HR225_1 HR226_1 hx225_0 hx225_1 hx226_0 hx226_1 hHeld ⊢
        refine Rgn.pu HT_.out 0 17 ?_
        refine Rgn.pu HT_.out 1 18 ?_
        refine Rgn.pu HT_.out 2 19 ?_
        refine Rgn.pu HT_.out 4 21 ?_
        refine Rgn.pu HT_.out 5 22 ?_
        refine Rgn.pu HT_.out 6 23 ?_
        refine Rgn.tk HT_.out HW_.out 3 20 hHeld ?_
        refine Rgn.tk HT_.out HW_.out 7 24 hHeld ?_
        refine one_ (i := 8) (N := some 25) #[true, true, true, true, true, true, true, true, true, false] rfl rfl (one_of HT_.out (by kernel_rfl)) (by decide) (fun K hK => ?_)
        refine Rgn.gs Try.func36 #[.agg #[.int .i64 ((rd_T61 l0 x5_1).f0), .slice A225_1 ((rd_T61 l0 x5_1).f1).length c225_1], .agg #[.int .i64 ((rd_T61 l1 x5_1).f0), .slice A226_1 ((rd_T61 l1 x5_1).f1).length c226_1]] ?_
        with_reducible refine (laws_eqHome.calls k1 ((rd_T61 l0 x5_1).f0) _ _ ((rd_T61 l0 x5_1).f1) ((rd_T61 l1 x5_1).f0) _ _ ((rd_T61 l1 x5_1).f1) false _ ?side1 ?side2 ?side3 ?side4 A7.out).mono ?_
        (case side1 => exact Rgn.cq (Kd.C_below HR225_1.out HB.out))
        (case side2 => exact HC225_1.out)
        (case side3 => exact Rgn.cq (Kd.C_below HR226_1.out HB.out))
        (case side4 => exact HC226_1.out)
        rintro e w12 ⟨rfl, hb⟩
        refine ⟨_, rfl, ?_⟩
        replace HB := Aside0.mk (below_step (Rgn.bq HB.out) hb)
        (try clear hb)
        skip
        skip
        skip
        refine hK.out _ _ ⟨((HB.out.cell (World.block_lt_of_cell? w _ hw225_0)).trans hw225_0), ((HB.out.cell (World.block_lt_of_cell? w _ hw225_1)).trans hw225_1), ((HB.out.cell (World.block_lt_of_cell? w _ hw226_0)).trans hw226_0), ((HB.out.cell (World.block_lt_of_cell? w _ hw226_1)).trans hw226_1)⟩ (fun hHeld => ?_)
        clear hK K
        refine norm_ (a' := ?_) ?_ ?_
        rotate_left
        ·
         show Act.put _ (some 25) _ = _
         simp only [Act.put, List.setIfInBounds_toArray, List.set_cons_zero, List.set_cons_succ, i64_w, i32_w]
         rfl
        refine Rgn.pu HT_.out 9 26 ?_
        refine done_ (done_of HT_.out (by kernel_rfl)) ?_
        try go_wp2
        go_ret
        exact ⟨by first | rfl | (simp [errW_none, errW_some] <;> rfl) | (simp [*, errW_none, errW_some] <;> rfl), Rgn.bq HB.out⟩
      ·
       rw [if_neg c6] at H
       exact absurd H (by simp)
     ·
      rw [if_neg c5] at H
      exact absurd H (by simp)
    ·
     rw [if_neg c4] at H
     have c4b0 : decide (x5_1 < (l0.length : Int)) = false := decide_eq_false c4
     clear c4
     obtain rfl := Option.some.inj H
     go_wp2
     go_ret
     exact ⟨by first | rfl | (simp [errW_none, errW_some] <;> rfl) | (simp [*, errW_none, errW_some] <;> rfl), Rgn.bq HB.out⟩
 ·
  rw [if_neg c3] at H
  have c3b0 : ((l0.length : Int) == (l1.length : Int)) = false := beq_eq_false_iff_ne.mpr c3
  have c3b1 : ((l0.length : Int) != (l1.length : Int)) = true := bne_iff_ne.mpr c3
  have c3b2 : (l0.length == l1.length) = false := by first | simpa using c3 | (simp at c3 ⊢; omega)
  obtain rfl := Option.some.inj H
  go_enter Try.func16, Try.ntmps16
  go_wp2
  go_ret
  exact ⟨by first | rfl | (simp [errW_none, errW_some] <;> rfl) | (simp [*, errW_none, errW_some] <;> rfl), Rgn.bq HB.out⟩

/-! ### laws_eqInt64S: function 31 -/
def laws_eqInt64S.l0 : Nat → List Int → List Int → Int → Option (Bool)
 | 0, _, _, _ => none
 | k + 1, x0, x1, x5 => if x5 < (x0.length : Int) then (if 0 ≤ x5 then (if x5 < (x1.length : Int) then (if (rd x0 x5) = (rd x1 x5) then (laws_eqInt64S.l0 k x0 x1 (wrap64 (x5 + 1))) else (some false)) else (none)) else (none)) else (some true)
def laws_eqInt64S.f (k : Nat) (l0 : List Int) (l1 : List Int) : Option (Bool) := if (l0.length : Int) = (l1.length : Int) then (laws_eqInt64S.l0 k l0 l1 0) else (some false)
set_option maxHeartbeats 8000000 in
set_option maxRecDepth 100000 in
theorem laws_eqInt64S.calls (k : Nat) (A0 : Option Addr) (c0 : Nat) (l0 : List Int) (A1 : Option Addr) (c1 : Nat) (l1 : List Int) (r : Bool) (w : World) (hr0 : Kd.C (Kd.int .i64) w A0 l0.length l0) (hc0 : l0.length ≤ c0) (hr1 : Kd.C (Kd.int .i64) w A1 l1.length l1) (hc1 : l1.length ≤ c1) (h : laws_eqInt64S.f k l0 l1 = some r) :
  Calls Try.prog 31 #[.slice A0 l0.length c0, .slice A1 l1.length c1] w fun e w' => e = .returned (.bool r) ∧ Drawn0 w w' := by
 have HR0 := Aside0.mk hr0
 have HC0 := Aside0.mk hc0
 clear hr0 hc0
 have HR1 := Aside0.mk hr1
 have HC1 := Aside0.mk hc1
 clear hr1 hc1
 have H : (if (l0.length : Int) = (l1.length : Int) then (laws_eqInt64S.l0 k l0 l1 0) else (some false)) = some r := h
 clear h
 by_cases c3 : (l0.length : Int) = (l1.length : Int)
 ·
  rw [if_pos c3] at H
  have c3b0 : ((l0.length : Int) == (l1.length : Int)) = true := beq_iff_eq.mpr c3
  have c3b1 : ((l0.length : Int) != (l1.length : Int)) = false := bne_eq_false_iff_eq.mpr c3
  have c3b2 : (l0.length == l1.length) = true := by first | simpa using c3 | (simp at c3 ⊢; omega)
  clear c3
  have H' := Aside0.mk H
  clear H
  go_enter Try.func31, Try.ntmps31
  go_wp2
  repeat (go_quiet (fail); try go_wp2)
  go_loopg [5] k (fun kq v5 w' => ∃ (x5_1 : Int), v5 = .int .i64 x5_1 ∧ Aside0 (laws_eqInt64S.l0 kq l0 l1 x5_1 = some r) ∧ Aside0 (kq ≤ k) ∧ Drawn0 w w')
  case atStart => exact ⟨(0), (by first | rfl | (simp; done) | (simp [*]; done)), H', ⟨Nat.le_refl _⟩, by repeat (first | exact Drawn0.refl _ | apply Drawn0.step)⟩
  case round =>
   clear H'
   try clear c1
   try clear p2
   try clear c3
   try clear c3b0
   try clear c3b1
   try clear c3b2
   obtain ⟨x5_1, rfl, HA, HK1, ⟨m1, rfl⟩⟩ := hrel
   cases gk with
   | zero => exact absurd HA.out (by simp [laws_eqInt64S.l0])
   | succ k1 =>
    have H := HA.out
    clear HA
    simp only [laws_eqInt64S.l0] at H
    by_cases c4 : x5_1 < (l0.length : Int)
    ·
     rw [if_pos c4] at H
     have c4b0 : decide (x5_1 < (l0.length : Int)) = true := decide_eq_true c4
     clear c4
     by_cases c5 : 0 ≤ x5_1
     ·
      rw [if_pos c5] at H
      have c5b0 : decide (0 ≤ x5_1) = true := decide_eq_true c5
      clear c5
      by_cases c6 : x5_1 < (l1.length : Int)
      ·
       rw [if_pos c6] at H
       have c6b0 : decide (x5_1 < (l1.length : Int)) = true := decide_eq_true c6
       clear c6
       by_cases c7 : (rd l0 x5_1) = (rd l1 x5_1)
       ·
        rw [if_pos c7] at H
        have c7b0 : ((rd l0 x5_1) == (rd l1 x5_1)) = true := beq_iff_eq.mpr c7
        have c7b1 : ((rd l0 x5_1) != (rd l1 x5_1)) = false := bne_eq_false_iff_eq.mpr c7
        clear c7
        have H' := Aside0.mk H
        clear H
        have p228 : 0 ≤ (x5_1 : Int) := of_decide_eq_true (by first | (with_reducible assumption) | assumption)
        have q228 : x5_1 < (l0.length : Int) := of_decide_eq_true (by first | (with_reducible assumption) | assumption)
        obtain ⟨ad228, e228, hx228_0⟩ := Kd.at_int HR0.out x5_1 p228 q228
        cases e228
        replace p228 := eq_true p228
        replace q228 := eq_true q228
        have p229 : 0 ≤ (x5_1 : Int) := of_decide_eq_true (by first | (with_reducible assumption) | assumption)
        have q229 : x5_1 < (l1.length : Int) := of_decide_eq_true (by first | (with_reducible assumption) | assumption)
        obtain ⟨ad229, e229, hx229_0⟩ := Kd.at_int HR1.out x5_1 p229 q229
        cases e229
        replace p229 := eq_true p229
        replace q229 := eq_true q229
        go_wp2
        repeat (go_quiet (fail); try go_wp2)
        go_roundg k1
        case measure => have := HK1.out; omega
        case rel => exact ⟨(wrap64 (x5_1 + 1)), (by first | rfl | (simp; done) | (simp [*]; done)), H', ⟨by have := HK1.out; omega⟩, by repeat (first | exact Drawn0.refl _ | apply Drawn0.step)⟩
       ·
        rw [if_neg c7] at H
        have c7b0 : ((rd l0 x5_1) == (rd l1 x5_1)) = false := beq_eq_false_iff_ne.mpr c7
        have c7b1 : ((rd l0 x5_1) != (rd l1 x5_1)) = true := bne_iff_ne.mpr c7
        obtain rfl := Option.some.inj H
        have p228 : 0 ≤ (x5_1 : Int) := of_decide_eq_true (by first | (with_reducible assumption) | assumption)
        have q228 : x5_1 < (l0.length : Int) := of_decide_eq_true (by first | (with_reducible assumption) | assumption)
        obtain ⟨ad228, e228, hx228_0⟩ := Kd.at_int HR0.out x5_1 p228 q228
        cases e228
        replace p228 := eq_true p228
        replace q228 := eq_true q228
        have p229 : 0 ≤ (x5_1 : Int) := of_decide_eq_true (by first | (with_reducible assumption) | assumption)
        have q229 : x5_1 < (l1.length : Int) := of_decide_eq_true (by first | (with_reducible assumption) | assumption)
        obtain ⟨ad229, e229, hx229_0⟩ := Kd.at_int HR1.out x5_1 p229 q229
        cases e229
        replace p229 := eq_true p229
        replace q229 := eq_true q229
        go_wp2
        repeat (go_quiet (fail); try go_wp2)
        go_ret
        exact ⟨by first | rfl | (simp; done) | (simp [*]; done), by repeat (first | exact Drawn0.refl _ | apply Drawn0.step)⟩
      ·
       rw [if_neg c6] at H
       exact absurd H (by simp)
     ·
      rw [if_neg c5] at H
      exact absurd H (by simp)
    ·
     rw [if_neg c4] at H
     have c4b0 : decide (x5_1 < (l0.length : Int)) = false := decide_eq_false c4
     clear c4
     obtain rfl := Option.some.inj H
     go_wp2
     repeat (go_quiet (fail); try go_wp2)
     go_ret
     exact ⟨by first | rfl | (simp; done) | (simp [*]; done), by repeat (first | exact Drawn0.refl _ | apply Drawn0.step)⟩
 ·
  rw [if_neg c3] at H
  have c3b0 : ((l0.length : Int) == (l1.length : Int)) = false := beq_eq_false_iff_ne.mpr c3
  have c3b1 : ((l0.length : Int) != (l1.length : Int)) = true := bne_iff_ne.mpr c3
  have c3b2 : (l0.length == l1.length) = false := by first | simpa using c3 | (simp at c3 ⊢; omega)
  obtain rfl := Option.some.inj H
  go_enter Try.func31, Try.ntmps31
  go_wp2
  repeat (go_quiet (fail); try go_wp2)
  go_ret
  exact ⟨by first | rfl | (simp; done) | (simp [*]; done), by repeat (first | exact Drawn0.refl _ | apply Drawn0.step)⟩

/-! ### laws_eqTxn: function 11 -/
def laws_eqTxn.f (k : Nat) (a0_0 : Int) (l0_1 : List (S61)) (l0_2 : List Int) (a1_0 : Int) (l1_1 : List (S61)) (l1_2 : List Int) : Option (Bool) := if a0_0 = a1_0 then ((laws_eqHomeS.f k l0_1 l1_1).bind fun t232 => (if t232 = true then ((laws_eqInt64S.f k l0_2 l1_2).bind fun t233 => (if t233 = true then (some true) else (some false))) else (some false))) else (some false)
set_option maxHeartbeats 8000000 in
set_option maxRecDepth 100000 in
theorem laws_eqTxn.calls (k : Nat) (a0_0 : Int) (A0_1 : Option Addr) (c0_1 : Nat) (l0_1 : List (S61)) (A0_2 : Option Addr) (c0_2 : Nat) (l0_2 : List Int) (a1_0 : Int) (A1_1 : Option Addr) (c1_1 : Nat) (l1_1 : List (S61)) (A1_2 : Option Addr) (c1_2 : Nat) (l1_2 : List Int) (r : Bool) (w : World) (hr0_1 : Kd.C k61 w A0_1 l0_1.length l0_1) (hc0_1 : l0_1.length ≤ c0_1) (hr0_2 : Kd.C (Kd.int .i64) w A0_2 l0_2.length l0_2) (hc0_2 : l0_2.length ≤ c0_2) (hr1_1 : Kd.C k61 w A1_1 l1_1.length l1_1) (hc1_1 : l1_1.length ≤ c1_1) (hr1_2 : Kd.C (Kd.int .i64) w A1_2 l1_2.length l1_2) (hc1_2 : l1_2.length ≤ c1_2) (h : laws_eqTxn.f k a0_0 l0_1 l0_2 a1_0 l1_1 l1_2 = some r) :
  Calls Try.prog 11 #[.agg #[.int .i64 a0_0, .slice A0_1 l0_1.length c0_1, .slice A0_2 l0_2.length c0_2], .agg #[.int .i64 a1_0, .slice A1_1 l1_1.length c1_1, .slice A1_2 l1_2.length c1_2]] w fun e w' => e = .returned (.bool r) ∧ Below w.heap.size w w' := by
 have hu34 := Try.underlying34
 have HR0_1 := Aside0.mk hr0_1
 have HC0_1 := Aside0.mk hc0_1
 clear hr0_1 hc0_1
 have HR0_2 := Aside0.mk hr0_2
 have HC0_2 := Aside0.mk hc0_2
 clear hr0_2 hc0_2
 have HR1_1 := Aside0.mk hr1_1
 have HC1_1 := Aside0.mk hc1_1
 clear hr1_1 hc1_1
 have HR1_2 := Aside0.mk hr1_2
 have HC1_2 := Aside0.mk hc1_2
 clear hr1_2 hc1_2
 have HB := Aside0.mk (Below.refl w.heap.size w)
 have H : (if a0_0 = a1_0 then ((laws_eqHomeS.f k l0_1 l1_1).bind fun t232 => (if t232 = true then ((laws_eqInt64S.f k l0_2 l1_2).bind fun t233 => (if t233 = true then (some true) else (some false))) else (some false))) else (some false)) = some r := h
 clear h
 by_cases c3 : a0_0 = a1_0
 ·
  rw [if_pos c3] at H
  have c3b0 : (a0_0 == a1_0) = true := beq_iff_eq.mpr c3
  have c3b1 : (a0_0 != a1_0) = false := bne_eq_false_iff_eq.mpr c3
  clear c3
  replace H := Option.bind_eq_some_iff.mp H
  obtain ⟨t232, A40, H⟩ := H
  replace H : (if t232 = true then ((laws_eqInt64S.f k l0_2 l1_2).bind fun t233 => (if t233 = true then (some true) else (some false))) else (some false)) = some r := H
  have A4 := Aside0.mk A40
  clear A40
  by_cases c5 : t232 = true
  ·
   subst c5
   have H1 : ((laws_eqInt64S.f k l0_2 l1_2).bind fun t233 => (if t233 = true then (some true) else (some false))) = some r := by rw [if_pos rfl] at H; exact H
   clear H
   have H := H1
   clear H1
   replace H := Option.bind_eq_some_iff.mp H
   obtain ⟨t233, A60, H⟩ := H
   replace H : (if t233 = true then (some true) else (some false)) = some r := H
   have A6 := Aside0.mk A60
   clear A60
   by_cases c7 : t233 = true
   ·
    subst c7
    have H1 : (some true) = some r := by rw [if_pos rfl] at H; exact H
    clear H
    have H := H1
    clear H1
    obtain rfl := Option.some.inj H
    go_enter Try.func11, Try.ntmps11
    go_wp2_with (first | ((with_reducible refine gate_dst (N := 2) rfl ?_); refine Rgn.bx 2 #[.int .i64 a0_0, .slice A0_1 l0_1.length c0_1, .slice A0_2 l0_2.length c0_2] 34 ?_; intro gb230 hg w8 hbox hb; have BK230 := Aside0.mk (hbox); have GW230 := Aside0.mk (Rgn.ge hg HB.out); have GE230 := Aside0.mk (Rgn.ge hg HB.out); replace HB := Aside0.mk (below_step (Rgn.bq HB.out) hb); clear hb hbox hg) | ((with_reducible refine gate_dst (N := 3) rfl ?_); refine Rgn.bx 3 #[.int .i64 a1_0, .slice A1_1 l1_1.length c1_1, .slice A1_2 l1_2.length c1_2] 34 ?_; intro gb231 hg w9 hbox hb; have BK231 := Aside0.mk (hbox); have GW231 := Aside0.mk (Rgn.ge hg HB.out); have GE231 := Aside0.mk (Rgn.ge hg HB.out); replace HB := Aside0.mk (below_step (Rgn.bq HB.out) hb); have NB230_231 := Aside0.mk (Rgn.nl hg BK230.out); have NB231_230 := Aside0.mk (Rgn.ng hg BK230.out); replace BK230 := Aside0.mk (Rgn.bb BK230.out hb); clear hb hbox hg; have hnb10 := NB230_231.out; have hnc10 := NB231_230.out; obtain ⟨hcz11_0, hcz11_1, hcz11_2, hfz11_0, hfz11_1, hfz11_2⟩ := Rgn.c3 BK230.out; obtain ⟨hcz12_0, hcz12_1, hcz12_2, hfz12_0, hfz12_1, hfz12_2⟩ := Rgn.c3 BK231.out) | ((with_reducible refine gate_callee (f := 16) rfl ?_); refine Rgn.gl (some 14) Try.func16 #[.slice A0_1 l0_1.length c0_1, .slice A1_1 l1_1.length c1_1] ?_; (with_reducible refine (laws_eqHomeS.calls k _ _ l0_1 _ _ l1_1 true _ ?side1 ?side2 ?side3 ?side4 A4.out).mono ?_); (case side1 => exact Rgn.cq (Kd.C_below HR0_1.out HB.out)); (case side2 => exact HC0_1.out); (case side3 => exact Rgn.cq (Kd.C_below HR1_1.out HB.out)); (case side4 => exact HC1_1.out); rintro e w13 ⟨rfl, hb⟩; refine ⟨_, rfl, ?_⟩; replace BK230 := Aside0.mk (Rgn.bb BK230.out hb); replace BK231 := Aside0.mk (Rgn.bb BK231.out hb); replace HB := Aside0.mk (below_step (Rgn.bq HB.out) hb); (try clear hb); obtain ⟨hcz14_0, hcz14_1, hcz14_2, hfz14_0, hfz14_1, hfz14_2⟩ := Rgn.c3 BK230.out; obtain ⟨hcz15_0, hcz15_1, hcz15_2, hfz15_0, hfz15_1, hfz15_2⟩ := Rgn.c3 BK231.out) | ((with_reducible refine gate_callee (f := 31) rfl ?_); refine Rgn.gl (some 20) Try.func31 #[.slice A0_2 l0_2.length c0_2, .slice A1_2 l1_2.length c1_2] ?_; (with_reducible refine (laws_eqInt64S.calls k _ _ l0_2 _ _ l1_2 true _ ?side1 ?side2 ?side3 ?side4 A6.out).mono ?_); (case side1 => exact Rgn.cq (Kd.C_below HR0_2.out HB.out)); (case side2 => exact HC0_2.out); (case side3 => exact Rgn.cq (Kd.C_below HR1_2.out HB.out)); (case side4 => exact HC1_2.out); rintro e w' ⟨rfl, ⟨nd, rfl⟩⟩; refine ⟨_, rfl, ?_⟩))
    go_ret
    exact ⟨by first | rfl | (simp [errW_none, errW_some] <;> rfl) | (simp [*, errW_none, errW_some] <;> rfl), Rgn.bq HB.out⟩
   ·
    replace c7 := Bool.eq_false_iff.mpr c7
    subst c7
    have H1 : (some false) = some r := by rw [if_neg (show ¬ (false = true) by decide)] at H; exact H
    clear H
    have H := H1
    clear H1
    obtain rfl := Option.some.inj H
    go_enter Try.func11, Try.ntmps11
    go_wp2_with (first | ((with_reducible refine gate_dst (N := 2) rfl ?_); refine Rgn.bx 2 #[.int .i64 a0_0, .slice A0_1 l0_1.length c0_1, .slice A0_2 l0_2.length c0_2] 34 ?_; intro gb230 hg w16 hbox hb; have BK230 := Aside0.mk (hbox); have GW230 := Aside0.mk (Rgn.ge hg HB.out); have GE230 := Aside0.mk (Rgn.ge hg HB.out); replace HB := Aside0.mk (below_step (Rgn.bq HB.out) hb); clear hb hbox hg) | ((with_reducible refine gate_dst (N := 3) rfl ?_); refine Rgn.bx 3 #[.int .i64 a1_0, .slice A1_1 l1_1.length c1_1, .slice A1_2 l1_2.length c1_2] 34 ?_; intro gb231 hg w17 hbox hb; have BK231 := Aside0.mk (hbox); have GW231 := Aside0.mk (Rgn.ge hg HB.out); have GE231 := Aside0.mk (Rgn.ge hg HB.out); replace HB := Aside0.mk (below_step (Rgn.bq HB.out) hb); have NB230_231 := Aside0.mk (Rgn.nl hg BK230.out); have NB231_230 := Aside0.mk (Rgn.ng hg BK230.out); replace BK230 := Aside0.mk (Rgn.bb BK230.out hb); clear hb hbox hg; have hnb18 := NB230_231.out; have hnc18 := NB231_230.out; obtain ⟨hcz19_0, hcz19_1, hcz19_2, hfz19_0, hfz19_1, hfz19_2⟩ := Rgn.c3 BK230.out; obtain ⟨hcz20_0, hcz20_1, hcz20_2, hfz20_0, hfz20_1, hfz20_2⟩ := Rgn.c3 BK231.out) | ((with_reducible refine gate_callee (f := 16) rfl ?_); refine Rgn.gl (some 14) Try.func16 #[.slice A0_1 l0_1.length c0_1, .slice A1_1 l1_1.length c1_1] ?_; (with_reducible refine (laws_eqHomeS.calls k _ _ l0_1 _ _ l1_1 true _ ?side1 ?side2 ?side3 ?side4 A4.out).mono ?_); (case side1 => exact Rgn.cq (Kd.C_below HR0_1.out HB.out)); (case side2 => exact HC0_1.out); (case side3 => exact Rgn.cq (Kd.C_below HR1_1.out HB.out)); (case side4 => exact HC1_1.out); rintro e w21 ⟨rfl, hb⟩; refine ⟨_, rfl, ?_⟩; replace BK230 := Aside0.mk (Rgn.bb BK230.out hb); replace BK231 := Aside0.mk (Rgn.bb BK231.out hb); replace HB := Aside0.mk (below_step (Rgn.bq HB.out) hb); (try clear hb); obtain ⟨hcz22_0, hcz22_1, hcz22_2, hfz22_0, hfz22_1, hfz22_2⟩ := Rgn.c3 BK230.out; obtain ⟨hcz23_0, hcz23_1, hcz23_2, hfz23_0, hfz23_1, hfz23_2⟩ := Rgn.c3 BK231.out) | ((with_reducible refine gate_callee (f := 31) rfl ?_); refine Rgn.gl (some 20) Try.func31 #[.slice A0_2 l0_2.length c0_2, .slice A1_2 l1_2.length c1_2] ?_; (with_reducible refine (laws_eqInt64S.calls k _ _ l0_2 _ _ l1_2 false _ ?side1 ?side2 ?side3 ?side4 A6.out).mono ?_); (case side1 => exact Rgn.cq (Kd.C_below HR0_2.out HB.out)); (case side2 => exact HC0_2.out); (case side3 => exact Rgn.cq (Kd.C_below HR1_2.out HB.out)); (case side4 => exact HC1_2.out); rintro e w' ⟨rfl, ⟨nd, rfl⟩⟩; refine ⟨_, rfl, ?_⟩))
    go_ret
    exact ⟨by first | rfl | (simp [errW_none, errW_some] <;> rfl) | (simp [*, errW_none, errW_some] <;> rfl), Rgn.bq HB.out⟩
  ·
   replace c5 := Bool.eq_false_iff.mpr c5
   subst c5
   have H1 : (some false) = some r := by rw [if_neg (show ¬ (false = true) by decide)] at H; exact H
   clear H
   have H := H1
   clear H1
   obtain rfl := Option.some.inj H
   go_enter Try.func11, Try.ntmps11
   go_wp2_with (first | ((with_reducible refine gate_dst (N := 2) rfl ?_); refine Rgn.bx 2 #[.int .i64 a0_0, .slice A0_1 l0_1.length c0_1, .slice A0_2 l0_2.length c0_2] 34 ?_; intro gb230 hg w24 hbox hb; have BK230 := Aside0.mk (hbox); have GW230 := Aside0.mk (Rgn.ge hg HB.out); have GE230 := Aside0.mk (Rgn.ge hg HB.out); replace HB := Aside0.mk (below_step (Rgn.bq HB.out) hb); clear hb hbox hg) | ((with_reducible refine gate_dst (N := 3) rfl ?_); refine Rgn.bx 3 #[.int .i64 a1_0, .slice A1_1 l1_1.length c1_1, .slice A1_2 l1_2.length c1_2] 34 ?_; intro gb231 hg w25 hbox hb; have BK231 := Aside0.mk (hbox); have GW231 := Aside0.mk (Rgn.ge hg HB.out); have GE231 := Aside0.mk (Rgn.ge hg HB.out); replace HB := Aside0.mk (below_step (Rgn.bq HB.out) hb); have NB230_231 := Aside0.mk (Rgn.nl hg BK230.out); have NB231_230 := Aside0.mk (Rgn.ng hg BK230.out); replace BK230 := Aside0.mk (Rgn.bb BK230.out hb); clear hb hbox hg; have hnb26 := NB230_231.out; have hnc26 := NB231_230.out; obtain ⟨hcz27_0, hcz27_1, hcz27_2, hfz27_0, hfz27_1, hfz27_2⟩ := Rgn.c3 BK230.out; obtain ⟨hcz28_0, hcz28_1, hcz28_2, hfz28_0, hfz28_1, hfz28_2⟩ := Rgn.c3 BK231.out) | ((with_reducible refine gate_callee (f := 16) rfl ?_); refine Rgn.gl (some 14) Try.func16 #[.slice A0_1 l0_1.length c0_1, .slice A1_1 l1_1.length c1_1] ?_; (with_reducible refine (laws_eqHomeS.calls k _ _ l0_1 _ _ l1_1 false _ ?side1 ?side2 ?side3 ?side4 A4.out).mono ?_); (case side1 => exact Rgn.cq (Kd.C_below HR0_1.out HB.out)); (case side2 => exact HC0_1.out); (case side3 => exact Rgn.cq (Kd.C_below HR1_1.out HB.out)); (case side4 => exact HC1_1.out); rintro e w29 ⟨rfl, hb⟩; refine ⟨_, rfl, ?_⟩; replace BK230 := Aside0.mk (Rgn.bb BK230.out hb); replace BK231 := Aside0.mk (Rgn.bb BK231.out hb); replace HB := Aside0.mk (below_step (Rgn.bq HB.out) hb); (try clear hb)))
   go_ret
   exact ⟨by first | rfl | (simp [errW_none, errW_some] <;> rfl) | (simp [*, errW_none, errW_some] <;> rfl), Rgn.bq HB.out⟩
 ·
  rw [if_neg c3] at H
  have c3b0 : (a0_0 == a1_0) = false := beq_eq_false_iff_ne.mpr c3
  have c3b1 : (a0_0 != a1_0) = true := bne_iff_ne.mpr c3
  obtain rfl := Option.some.inj H
  go_enter Try.func11, Try.ntmps11
  go_wp2_with (first | ((with_reducible refine gate_dst (N := 2) rfl ?_); refine Rgn.bx 2 #[.int .i64 a0_0, .slice A0_1 l0_1.length c0_1, .slice A0_2 l0_2.length c0_2] 34 ?_; intro gb230 hg w30 hbox hb; have BK230 := Aside0.mk (hbox); have GW230 := Aside0.mk (Rgn.ge hg HB.out); have GE230 := Aside0.mk (Rgn.ge hg HB.out); replace HB := Aside0.mk (below_step (Rgn.bq HB.out) hb); clear hb hbox hg) | ((with_reducible refine gate_dst (N := 3) rfl ?_); refine Rgn.bx 3 #[.int .i64 a1_0, .slice A1_1 l1_1.length c1_1, .slice A1_2 l1_2.length c1_2] 34 ?_; intro gb231 hg w31 hbox hb; have BK231 := Aside0.mk (hbox); have GW231 := Aside0.mk (Rgn.ge hg HB.out); have GE231 := Aside0.mk (Rgn.ge hg HB.out); replace HB := Aside0.mk (below_step (Rgn.bq HB.out) hb); have NB230_231 := Aside0.mk (Rgn.nl hg BK230.out); have NB231_230 := Aside0.mk (Rgn.ng hg BK230.out); replace BK230 := Aside0.mk (Rgn.bb BK230.out hb); clear hb hbox hg; have hnb32 := NB230_231.out; have hnc32 := NB231_230.out; obtain ⟨hcz33_0, hcz33_1, hcz33_2, hfz33_0, hfz33_1, hfz33_2⟩ := Rgn.c3 BK230.out; obtain ⟨hcz34_0, hcz34_1, hcz34_2, hfz34_0, hfz34_1, hfz34_2⟩ := Rgn.c3 BK231.out))
  go_ret
  exact ⟨by first | rfl | (simp [errW_none, errW_some] <;> rfl) | (simp [*, errW_none, errW_some] <;> rfl), Rgn.bq HB.out⟩

/-! ### laws_eqTxnS: function 17 -/
def laws_eqTxnS.l0 : Nat → List (S34) → List (S34) → Int → Option (Bool)
 | 0, _, _, _ => none
 | k + 1, x0, x1, x5 => if x5 < (x0.length : Int) then (if 0 ≤ x5 then (if x5 < (x1.length : Int) then ((laws_eqTxn.f k ((rd_T34 x0 x5).f0) ((rd_T34 x0 x5).f1) ((rd_T34 x0 x5).f2) ((rd_T34 x1 x5).f0) ((rd_T34 x1 x5).f1) ((rd_T34 x1 x5).f2)).bind fun t236 => (if t236 = true then (laws_eqTxnS.l0 k x0 x1 (wrap64 (x5 + 1))) else (some false))) else (none)) else (none)) else (some true)
def laws_eqTxnS.f (k : Nat) (l0 : List (S34)) (l1 : List (S34)) : Option (Bool) := if (l0.length : Int) = (l1.length : Int) then (laws_eqTxnS.l0 k l0 l1 0) else (some false)
def laws_eqTxnS.T6 : Bool × List (List Nat × List Nat) := (true, [([], []), ([], []), ([0, 1], [0, 1]), ([2], [2]), ([], []), ([], []), ([4, 5], [4, 5]), ([6], [6]), ([3, 7], [3, 7]), ([8], [8])])
def laws_eqTxnS.B6 : List Nat := [0, 0, 3, 7, 0, 0, 48, 112, 255, 511]
theorem laws_eqTxnS.tab6 : rtab .any (opsOf Try.f17 6) = laws_eqTxnS.T6 := by kernel_rfl
theorem laws_eqTxnS.bits6 : waitsOk laws_eqTxnS.T6.2 laws_eqTxnS.B6 = true := by kernel_rfl
set_option maxHeartbeats 8000000 in
set_option maxRecDepth 100000 in
theorem laws_eqTxnS.calls (k : Nat) (A0 : Option Addr) (c0 : Nat) (l0 : List (S34)) (A1 : Option Addr) (c1 : Nat) (l1 : List (S34)) (r : Bool) (w : World) (hr0 : Kd.C k34 w A0 l0.length l0) (hc0 : l0.length ≤ c0) (hr1 : Kd.C k34 w A1 l1.length l1) (hc1 : l1.length ≤ c1) (h : laws_eqTxnS.f k l0 l1 = some r) :
  Calls Try.prog 17 #[.slice A0 l0.length c0, .slice A1 l1.length c1] w fun e w' => e = .returned (.bool r) ∧ Below w.heap.size w w' := by
 have hu34 := Try.underlying34
 have HR0 := Aside0.mk hr0
 have HC0 := Aside0.mk hc0
 clear hr0 hc0
 have HR1 := Aside0.mk hr1
 have HC1 := Aside0.mk hc1
 clear hr1 hc1
 have HB := Aside0.mk (Below.refl w.heap.size w)
 have H : (if (l0.length : Int) = (l1.length : Int) then (laws_eqTxnS.l0 k l0 l1 0) else (some false)) = some r := h
 clear h
 by_cases c3 : (l0.length : Int) = (l1.length : Int)
 ·
  rw [if_pos c3] at H
  have c3b0 : ((l0.length : Int) == (l1.length : Int)) = true := beq_iff_eq.mpr c3
  have c3b1 : ((l0.length : Int) != (l1.length : Int)) = false := bne_eq_false_iff_eq.mpr c3
  have c3b2 : (l0.length == l1.length) = true := by first | simpa using c3 | (simp at c3 ⊢; omega)
  clear c3
  have H' := Aside0.mk H
  clear H
  go_enter Try.func17, Try.ntmps17
  go_wp2
  go_loopg [5] k (fun kq v5 w' => ∃ (x5_1 : Int), v5 = .int .i64 x5_1 ∧ Aside0 (laws_eqTxnS.l0 kq l0 l1 x5_1 = some r) ∧ Aside0 (kq ≤ k) ∧ Aside0 (Below w.heap.size w w'))
  case atStart => exact ⟨(0), (by first | rfl | (simp; done) | (simp [*]; done)), H', ⟨Nat.le_refl _⟩, ⟨Rgn.bq HB.out⟩⟩
  case round =>
   clear H'
   try clear c1
   try clear p2
   try clear c3
   try clear c3b0
   try clear c3b1
   try clear c3b2
   obtain ⟨x5_1, rfl, HA, HK1, HB⟩ := hrel
   cases gk with
   | zero => exact absurd HA.out (by simp [laws_eqTxnS.l0])
   | succ k1 =>
    have H := HA.out
    clear HA
    simp only [laws_eqTxnS.l0] at H
    by_cases c4 : x5_1 < (l0.length : Int)
    ·
     rw [if_pos c4] at H
     have c4b0 : decide (x5_1 < (l0.length : Int)) = true := decide_eq_true c4
     clear c4
     by_cases c5 : 0 ≤ x5_1
     ·
      rw [if_pos c5] at H
      have c5b0 : decide (0 ≤ x5_1) = true := decide_eq_true c5
      clear c5
      by_cases c6 : x5_1 < (l1.length : Int)
      ·
       rw [if_pos c6] at H
       have c6b0 : decide (x5_1 < (l1.length : Int)) = true := decide_eq_true c6
       clear c6
       replace H := Option.bind_eq_some_iff.mp H
       obtain ⟨t236, A70, H⟩ := H
       replace H : (if t236 = true then (laws_eqTxnS.l0 k1 l0 l1 (wrap64 (x5_1 + 1))) else (some false)) = some r := H
       have A7 := Aside0.mk A70
       clear A70
       by_cases c8 : t236 = true
       ·
        subst c8
        have H1 : (laws_eqTxnS.l0 k1 l0 l1 (wrap64 (x5_1 + 1))) = some r := by rw [if_pos rfl] at H; exact H
        clear H
        have H := H1
        clear H1
        have H' := Aside0.mk H
        clear H
        try go_wp2
        replace HB := Aside0.mk (below_drew1 HB.out)
        have p234 : 0 ≤ (x5_1 : Int) := of_decide_eq_true (by first | (with_reducible assumption) | assumption)
        have q234 : x5_1 < (l0.length : Int) := of_decide_eq_true (by first | (with_reducible assumption) | assumption)
        obtain ⟨ad234, A234_1, c234_1, A234_2, c234_2, e234, hx234_0, hx234_1, hx234_2, hl234_1, hi234_1, hl234_2, hi234_2⟩ := at_T34 HR0.out x5_1 p234 q234
        have hw234_2 := hx234_2
        have hw234_1 := hx234_1
        have hw234_0 := hx234_0
        cases e234
        replace hx234_0 := Rgn.hx HB.out hx234_0
        replace hx234_1 := Rgn.hx HB.out hx234_1
        replace hx234_2 := Rgn.hx HB.out hx234_2
        have HR234_1 := Aside0.mk hi234_1
        have HC234_1 := Aside0.mk hl234_1
        clear hi234_1 hl234_1
        have HR234_2 := Aside0.mk hi234_2
        have HC234_2 := Aside0.mk hl234_2
        clear hi234_2 hl234_2
        replace p234 := eq_true p234
        replace q234 := eq_true q234
        have p235 : 0 ≤ (x5_1 : Int) := of_decide_eq_true (by first | (with_reducible assumption) | assumption)
        have q235 : x5_1 < (l1.length : Int) := of_decide_eq_true (by first | (with_reducible assumption) | assumption)
        obtain ⟨ad235, A235_1, c235_1, A235_2, c235_2, e235, hx235_0, hx235_1, hx235_2, hl235_1, hi235_1, hl235_2, hi235_2⟩ := at_T34 HR1.out x5_1 p235 q235
        have hw235_2 := hx235_2
        have hw235_1 := hx235_1
        have hw235_0 := hx235_0
        cases e235
        replace hx235_0 := Rgn.hx HB.out hx235_0
        replace hx235_1 := Rgn.hx HB.out hx235_1
        replace hx235_2 := Rgn.hx HB.out hx235_2
        have HR235_1 := Aside0.mk hi235_1
        have HC235_1 := Aside0.mk hl235_1
        clear hi235_1 hl235_1
        have HR235_2 := Aside0.mk hi235_2
        have HC235_2 := Aside0.mk hl235_2
        clear hi235_2 hl235_2
        replace p235 := eq_true p235
        replace q235 := eq_true q235
        refine start_ (n := 10) (S := fun w' => w'.cell? (ad234.add ((x5_1).toNat * 3)) = some (.int .i64 ((rd_T34 l0 x5_1).f0)) ∧ w'.cell? ⟨(ad234.add ((x5_1).toNat * 3)).block, (ad234.add ((x5_1).toNat * 3)).off + 1, none⟩ = some (.slice A234_1 ((rd_T34 l0 x5_1).f1).length c234_1) ∧ w'.cell? ⟨(ad234.add ((x5_1).toNat * 3)).block, (ad234.add ((x5_1).toNat * 3)).off + 2, none⟩ = some (.slice A234_2 ((rd_T34 l0 x5_1).f2).length c234_2) ∧ w'.cell? (ad235.add ((x5_1).toNat * 3)) = some (.int .i64 ((rd_T34 l1 x5_1).f0)) ∧ w'.cell? ⟨(ad235.add ((x5_1).toNat * 3)).block, (ad235.add ((x5_1).toNat * 3)).off + 1, none⟩ = some (.slice A235_1 ((rd_T34 l1 x5_1).f1).length c235_1) ∧ w'.cell? ⟨(ad235.add ((x5_1).toNat * 3)).block, (ad235.add ((x5_1).toNat * 3)).off + 2, none⟩ = some (.slice A235_2 ((rd_T34 l1 x5_1).f2).length c235_2)) (ds := []) #[false, false, false, false, false, false, false, false, false, false] (by kernel_rfl) rfl rfl ⟨((HB.out.cell (World.block_lt_of_cell? w _ hw234_0)).trans hw234_0), ((HB.out.cell (World.block_lt_of_cell? w _ hw234_1)).trans hw234_1), ((HB.out.cell (World.block_lt_of_cell? w _ hw234_2)).trans hw234_2), ((HB.out.cell (World.block_lt_of_cell? w _ hw235_0)).trans hw235_0), ((HB.out.cell (World.block_lt_of_cell? w _ hw235_1)).trans hw235_1), ((HB.out.cell (World.block_lt_of_cell? w _ hw235_2)).trans hw235_2)⟩ (fun hHeld => ?_); refine with_tabW laws_eqTxnS.tab6 laws_eqTxnS.bits6 (fun HT_ HW_ => ?_)
        generalize wr.drew = w9 at HB HR234_1 HR234_2 HR235_1 HR235_2 hx234_0 hx234_1 hx234_2 hx235_0 hx235_1 hx235_2 hHeld ⊢
        refine Rgn.pu HT_.out 0 17 ?_
        refine Rgn.pu HT_.out 1 18 ?_
        refine Rgn.pu HT_.out 2 19 ?_
        refine Rgn.pu HT_.out 4 21 ?_
        refine Rgn.pu HT_.out 5 22 ?_
        refine Rgn.pu HT_.out 6 23 ?_
        refine Rgn.tk HT_.out HW_.out 3 20 hHeld ?_
        refine Rgn.tk HT_.out HW_.out 7 24 hHeld ?_
        refine one_ (i := 8) (N := some 25) #[true, true, true, true, true, true, true, true, true, false] rfl rfl (one_of HT_.out (by kernel_rfl)) (by decide) (fun K hK => ?_)
        refine Rgn.gs Try.func11 #[.agg #[.int .i64 ((rd_T34 l0 x5_1).f0), .slice A234_1 ((rd_T34 l0 x5_1).f1).length c234_1, .slice A234_2 ((rd_T34 l0 x5_1).f2).length c234_2], .agg #[.int .i64 ((rd_T34 l1 x5_1).f0), .slice A235_1 ((rd_T34 l1 x5_1).f1).length c235_1, .slice A235_2 ((rd_T34 l1 x5_1).f2).length c235_2]] ?_
        with_reducible refine (laws_eqTxn.calls k1 ((rd_T34 l0 x5_1).f0) _ _ ((rd_T34 l0 x5_1).f1) _ _ ((rd_T34 l0 x5_1).f2) ((rd_T34 l1 x5_1).f0) _ _ ((rd_T34 l1 x5_1).f1) _ _ ((rd_T34 l1 x5_1).f2) true _ ?side1 ?side2 ?side3 ?side4 ?side5 ?side6 ?side7 ?side8 A7.out).mono ?_
        (case side1 => exact Rgn.cq (Kd.C_below HR234_1.out HB.out))
        (case side2 => exact HC234_1.out)
        (case side3 => exact Rgn.cq (Kd.C_below HR234_2.out HB.out))
        (case side4 => exact HC234_2.out)
        (case side5 => exact Rgn.cq (Kd.C_below HR235_1.out HB.out))
        (case side6 => exact HC235_1.out)
        (case side7 => exact Rgn.cq (Kd.C_below HR235_2.out HB.out))
        (case side8 => exact HC235_2.out)
        rintro e w10 ⟨rfl, hb⟩
        refine ⟨_, rfl, ?_⟩
        replace HB := Aside0.mk (below_step (Rgn.bq HB.out) hb)
        (try clear hb)
        skip
        skip
        skip
        refine hK.out _ _ ⟨((HB.out.cell (World.block_lt_of_cell? w _ hw234_0)).trans hw234_0), ((HB.out.cell (World.block_lt_of_cell? w _ hw234_1)).trans hw234_1), ((HB.out.cell (World.block_lt_of_cell? w _ hw234_2)).trans hw234_2), ((HB.out.cell (World.block_lt_of_cell? w _ hw235_0)).trans hw235_0), ((HB.out.cell (World.block_lt_of_cell? w _ hw235_1)).trans hw235_1), ((HB.out.cell (World.block_lt_of_cell? w _ hw235_2)).trans hw235_2)⟩ (fun hHeld => ?_)
        clear hK K
        refine norm_ (a' := ?_) ?_ ?_
        rotate_left
        ·
         show Act.put _ (some 25) _ = _
         simp only [Act.put, List.setIfInBounds_toArray, List.set_cons_zero, List.set_cons_succ, i64_w, i32_w]
         rfl
        refine Rgn.pu HT_.out 9 26 ?_
        refine done_ (done_of HT_.out (by kernel_rfl)) ?_
        try go_wp2
        go_roundg k1
        case measure => have := HK1.out; omega
        case rel => exact ⟨(wrap64 (x5_1 + 1)), (by first | rfl | (simp; done) | (simp [*]; done)), H', ⟨by have := HK1.out; omega⟩, ⟨Rgn.bq HB.out⟩⟩
       ·
        replace c8 := Bool.eq_false_iff.mpr c8
        subst c8
        have H1 : (some false) = some r := by rw [if_neg (show ¬ (false = true) by decide)] at H; exact H
        clear H
        have H := H1
        clear H1
        obtain rfl := Option.some.inj H
        try go_wp2
        replace HB := Aside0.mk (below_drew1 HB.out)
        have p234 : 0 ≤ (x5_1 : Int) := of_decide_eq_true (by first | (with_reducible assumption) | assumption)
        have q234 : x5_1 < (l0.length : Int) := of_decide_eq_true (by first | (with_reducible assumption) | assumption)
        obtain ⟨ad234, A234_1, c234_1, A234_2, c234_2, e234, hx234_0, hx234_1, hx234_2, hl234_1, hi234_1, hl234_2, hi234_2⟩ := at_T34 HR0.out x5_1 p234 q234
        have hw234_2 := hx234_2
        have hw234_1 := hx234_1
        have hw234_0 := hx234_0
        cases e234
        replace hx234_0 := Rgn.hx HB.out hx234_0
        replace hx234_1 := Rgn.hx HB.out hx234_1
        replace hx234_2 := Rgn.hx HB.out hx234_2
        have HR234_1 := Aside0.mk hi234_1
        have HC234_1 := Aside0.mk hl234_1
        clear hi234_1 hl234_1
        have HR234_2 := Aside0.mk hi234_2
        have HC234_2 := Aside0.mk hl234_2
        clear hi234_2 hl234_2
        replace p234 := eq_true p234
        replace q234 := eq_true q234
        have p235 : 0 ≤ (x5_1 : Int) := of_decide_eq_true (by first | (with_reducible assumption) | assumption)
        have q235 : x5_1 < (l1.length : Int) := of_decide_eq_true (by first | (with_reducible assumption) | assumption)
        obtain ⟨ad235, A235_1, c235_1, A235_2, c235_2, e235, hx235_0, hx235_1, hx235_2, hl235_1, hi235_1, hl235_2, hi235_2⟩ := at_T34 HR1.out x5_1 p235 q235
        have hw235_2 := hx235_2
        have hw235_1 := hx235_1
        have hw235_0 := hx235_0
        cases e235
        replace hx235_0 := Rgn.hx HB.out hx235_0
        replace hx235_1 := Rgn.hx HB.out hx235_1
        replace hx235_2 := Rgn.hx HB.out hx235_2
        have HR235_1 := Aside0.mk hi235_1
        have HC235_1 := Aside0.mk hl235_1
        clear hi235_1 hl235_1
        have HR235_2 := Aside0.mk hi235_2
        have HC235_2 := Aside0.mk hl235_2
        clear hi235_2 hl235_2
        replace p235 := eq_true p235
        replace q235 := eq_true q235
        refine start_ (n := 10) (S := fun w' => w'.cell? (ad234.add ((x5_1).toNat * 3)) = some (.int .i64 ((rd_T34 l0 x5_1).f0)) ∧ w'.cell? ⟨(ad234.add ((x5_1).toNat * 3)).block, (ad234.add ((x5_1).toNat * 3)).off + 1, none⟩ = some (.slice A234_1 ((rd_T34 l0 x5_1).f1).length c234_1) ∧ w'.cell? ⟨(ad234.add ((x5_1).toNat * 3)).block, (ad234.add ((x5_1).toNat * 3)).off + 2, none⟩ = some (.slice A234_2 ((rd_T34 l0 x5_1).f2).length c234_2) ∧ w'.cell? (ad235.add ((x5_1).toNat * 3)) = some (.int .i64 ((rd_T34 l1 x5_1).f0)) ∧ w'.cell? ⟨(ad235.add ((x5_1).toNat * 3)).block, (ad235.add ((x5_1).toNat * 3)).off + 1, none⟩ = some (.slice A235_1 ((rd_T34 l1 x5_1).f1).length c235_1) ∧ w'.cell? ⟨(ad235.add ((x5_1).toNat * 3)).block, (ad235.add ((x5_1).toNat * 3)).off + 2, none⟩ = some (.slice A235_2 ((rd_T34 l1 x5_1).f2).length c235_2)) (ds := []) #[false, false, false, false, false, false, false, false, false, false] (by kernel_rfl) rfl rfl ⟨((HB.out.cell (World.block_lt_of_cell? w _ hw234_0)).trans hw234_0), ((HB.out.cell (World.block_lt_of_cell? w _ hw234_1)).trans hw234_1), ((HB.out.cell (World.block_lt_of_cell? w _ hw234_2)).trans hw234_2), ((HB.out.cell (World.block_lt_of_cell? w _ hw235_0)).trans hw235_0), ((HB.out.cell (World.block_lt_of_cell? w _ hw235_1)).trans hw235_1), ((HB.out.cell (World.block_lt_of_cell? w _ hw235_2)).trans hw235_2)⟩ (fun hHeld => ?_); refine with_tabW laws_eqTxnS.tab6 laws_eqTxnS.bits6 (fun HT_ HW_ => ?_)
        generalize wr.drew = w11 at HB HR234_1 HR234_2 HR235_1 HR235_2 hx234_0 hx234_1 hx234_2 hx235_0 hx235_1 hx235_2 hHeld ⊢
        refine Rgn.pu HT_.out 0 17 ?_
        refine Rgn.pu HT_.out 1 18 ?_
        refine Rgn.pu HT_.out 2 19 ?_
        refine Rgn.pu HT_.out 4 21 ?_
        refine Rgn.pu HT_.out 5 22 ?_
        refine Rgn.pu HT_.out 6 23 ?_
        refine Rgn.tk HT_.out HW_.out 3 20 hHeld ?_
        refine Rgn.tk HT_.out HW_.out 7 24 hHeld ?_
        refine one_ (i := 8) (N := some 25) #[true, true, true, true, true, true, true, true, true, false] rfl rfl (one_of HT_.out (by kernel_rfl)) (by decide) (fun K hK => ?_)
        refine Rgn.gs Try.func11 #[.agg #[.int .i64 ((rd_T34 l0 x5_1).f0), .slice A234_1 ((rd_T34 l0 x5_1).f1).length c234_1, .slice A234_2 ((rd_T34 l0 x5_1).f2).length c234_2], .agg #[.int .i64 ((rd_T34 l1 x5_1).f0), .slice A235_1 ((rd_T34 l1 x5_1).f1).length c235_1, .slice A235_2 ((rd_T34 l1 x5_1).f2).length c235_2]] ?_
        with_reducible refine (laws_eqTxn.calls k1 ((rd_T34 l0 x5_1).f0) _ _ ((rd_T34 l0 x5_1).f1) _ _ ((rd_T34 l0 x5_1).f2) ((rd_T34 l1 x5_1).f0) _ _ ((rd_T34 l1 x5_1).f1) _ _ ((rd_T34 l1 x5_1).f2) false _ ?side1 ?side2 ?side3 ?side4 ?side5 ?side6 ?side7 ?side8 A7.out).mono ?_
        (case side1 => exact Rgn.cq (Kd.C_below HR234_1.out HB.out))
        (case side2 => exact HC234_1.out)
        (case side3 => exact Rgn.cq (Kd.C_below HR234_2.out HB.out))
        (case side4 => exact HC234_2.out)
        (case side5 => exact Rgn.cq (Kd.C_below HR235_1.out HB.out))
        (case side6 => exact HC235_1.out)
        (case side7 => exact Rgn.cq (Kd.C_below HR235_2.out HB.out))
        (case side8 => exact HC235_2.out)
        rintro e w12 ⟨rfl, hb⟩
        refine ⟨_, rfl, ?_⟩
        replace HB := Aside0.mk (below_step (Rgn.bq HB.out) hb)
        (try clear hb)
        skip
        skip
        skip
        refine hK.out _ _ ⟨((HB.out.cell (World.block_lt_of_cell? w _ hw234_0)).trans hw234_0), ((HB.out.cell (World.block_lt_of_cell? w _ hw234_1)).trans hw234_1), ((HB.out.cell (World.block_lt_of_cell? w _ hw234_2)).trans hw234_2), ((HB.out.cell (World.block_lt_of_cell? w _ hw235_0)).trans hw235_0), ((HB.out.cell (World.block_lt_of_cell? w _ hw235_1)).trans hw235_1), ((HB.out.cell (World.block_lt_of_cell? w _ hw235_2)).trans hw235_2)⟩ (fun hHeld => ?_)
        clear hK K
        refine norm_ (a' := ?_) ?_ ?_
        rotate_left
        ·
         show Act.put _ (some 25) _ = _
         simp only [Act.put, List.setIfInBounds_toArray, List.set_cons_zero, List.set_cons_succ, i64_w, i32_w]
         rfl
        refine Rgn.pu HT_.out 9 26 ?_
        refine done_ (done_of HT_.out (by kernel_rfl)) ?_
        try go_wp2
        go_ret
        exact ⟨by first | rfl | (simp [errW_none, errW_some] <;> rfl) | (simp [*, errW_none, errW_some] <;> rfl), Rgn.bq HB.out⟩
      ·
       rw [if_neg c6] at H
       exact absurd H (by simp)
     ·
      rw [if_neg c5] at H
      exact absurd H (by simp)
    ·
     rw [if_neg c4] at H
     have c4b0 : decide (x5_1 < (l0.length : Int)) = false := decide_eq_false c4
     clear c4
     obtain rfl := Option.some.inj H
     go_wp2
     go_ret
     exact ⟨by first | rfl | (simp [errW_none, errW_some] <;> rfl) | (simp [*, errW_none, errW_some] <;> rfl), Rgn.bq HB.out⟩
 ·
  rw [if_neg c3] at H
  have c3b0 : ((l0.length : Int) == (l1.length : Int)) = false := beq_eq_false_iff_ne.mpr c3
  have c3b1 : ((l0.length : Int) != (l1.length : Int)) = true := bne_iff_ne.mpr c3
  have c3b2 : (l0.length == l1.length) = false := by first | simpa using c3 | (simp at c3 ⊢; omega)
  obtain rfl := Option.some.inj H
  go_enter Try.func17, Try.ntmps17
  go_wp2
  go_ret
  exact ⟨by first | rfl | (simp [errW_none, errW_some] <;> rfl) | (simp [*, errW_none, errW_some] <;> rfl), Rgn.bq HB.out⟩

end Go.Proofs.Ytkehfdadplpaeaa.PFnExactSurvivors
