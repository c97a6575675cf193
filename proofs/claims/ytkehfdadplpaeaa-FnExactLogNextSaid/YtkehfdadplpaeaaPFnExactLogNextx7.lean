-- written by a program of this session (wip/src/print2.py)
import Derived.Test.YtkehfdadplpaeaaPFnExactLogNextx0
import Derived.Test.YtkehfdadplpaeaaPFnExactLogNextx1
import Derived.Test.YtkehfdadplpaeaaPFnExactLogNextx2
import Derived.Test.YtkehfdadplpaeaaPFnExactLogNextx6
namespace Go.Proofs.Ytkehfdadplpaeaa.PFnExactLogNext
open Go.RowKit Go.Proofs.YtkehfdadplpaeaaW.PrintWords Go.Proofs.YtkehfdadplpaeaaW.PrintLast Go.Proofs.YtkehfdadplpaeaaW.PrintMore
attribute [local go_sem] max2_int min2_int max_two min_two max_three min_three max_four min_four   -- for this text's walks alone
set_option linter.unusedVariables false
set_option linter.unusedSimpArgs false

/-! ### spec_l4Place: function 25 -/
def spec_l4Place.f (a0 : Int) (a1 : Int) (a2 : Int) : Option (Int) := if a0 = 0 then (none) else (some (wrap64 ((Int.tmod (wrap64 ((wrap64 (a1 - 1)) + a2)) a0) + 1)))
set_option maxHeartbeats 8000000 in
set_option maxRecDepth 100000 in
theorem spec_l4Place.calls (a0 : Int) (a1 : Int) (a2 : Int) (r : Int) (w : World) (h : spec_l4Place.f a0 a1 a2 = some r) :
    Calls Try.prog 25 #[.int .i64 a0, .int .i64 a1, .int .i64 a2] w fun e w' => e = .returned (.int .i64 r) ∧ Drawn0 w w' := by
  have H : (if a0 = 0 then (none) else (some (wrap64 ((Int.tmod (wrap64 ((wrap64 (a1 - 1)) + a2)) a0) + 1)))) = some r := h
  clear h
  by_cases c4 : a0 = 0
  · rw [if_pos c4] at H
    exact absurd H (by simp)
  · rw [if_neg c4] at H
    have c4b0 : (a0 == 0) = false := beq_eq_false_iff_ne.mpr c4
    have c4b1 : (a0 != 0) = true := bne_iff_ne.mpr c4
    obtain rfl := Option.some.inj H
    go_enter Try.func25, Try.ntmps25
    go_wp2
    go_ret
    exact ⟨by first | rfl | (simp; done) | (simp [*]; done), by repeat (first | exact Drawn0.refl _ | apply Drawn0.step)⟩

/-! ### spec_ValidLog: function 41 -/
def spec_ValidLog.j0 : Nat → Bool → Int → Int → Int → Int → Int → Option (Bool)
  | 0, _, _, _, _, _, _ => none
  | k + 1, x54, x364000, x364001, x364002, x364003, x364004 => if x54 = true then (some false) else (if x364001 = 0 then (some (x364004 == 0)) else ((spec_l4Place.f x364000 x364001 x364004).bind fun t365 => (some (x364003 == t365))))
def spec_ValidLog.f (k : Nat) (a0_0 : Int) (a0_1 : Int) (a0_2 : Int) (a0_3 : Int) (a0_4 : Int) : Option (Bool) := (spec_l3GoodSeq.f a0_2).bind fun t364 => (if t364 = true then (if a0_0 < 16 then (spec_ValidLog.j0 k true a0_0 a0_1 a0_2 a0_3 a0_4) else (if a0_0 > 512 then (spec_ValidLog.j0 k true a0_0 a0_1 a0_2 a0_3 a0_4) else (if a0_1 < 0 then (spec_ValidLog.j0 k true a0_0 a0_1 a0_2 a0_3 a0_4) else (if a0_1 > a0_0 then (spec_ValidLog.j0 k true a0_0 a0_1 a0_2 a0_3 a0_4) else (if a0_3 < 1 then (spec_ValidLog.j0 k true a0_0 a0_1 a0_2 a0_3 a0_4) else (if a0_3 > a0_0 then (spec_ValidLog.j0 k true a0_0 a0_1 a0_2 a0_3 a0_4) else (if a0_4 < 0 then (spec_ValidLog.j0 k true a0_0 a0_1 a0_2 a0_3 a0_4) else (spec_ValidLog.j0 k (decide (a0_4 > a0_0)) a0_0 a0_1 a0_2 a0_3 a0_4)))))))) else (spec_ValidLog.j0 k true a0_0 a0_1 a0_2 a0_3 a0_4))
theorem spec_ValidLog.mono_l : ∀ k, (∀ y0 y1 y2 y3 y4 y5, LeO (spec_ValidLog.j0 k y0 y1 y2 y3 y4 y5) (spec_ValidLog.j0 (k + 1) y0 y1 y2 y3 y4 y5))
  | 0 => fun _ _ _ _ _ _ r h => by simp [spec_ValidLog.j0] at h
  | k + 1 => by
    have ih0 := spec_ValidLog.mono_l k
    · intro y0 y1 y2 y3 y4 y5
      unfold spec_ValidLog.j0
      repeat' first
      | (with_reducible exact ih0 _ _ _ _ _ _)
      | (with_reducible exact LeO.refl _)
      | (with_reducible exact LeO.none _)
      | (with_reducible refine LeO.ite ?_ ?_)
      | (with_reducible refine LeO.bind ?_ (fun _ => ?_))
      | exact ih0 _ _ _ _ _ _
      | exact LeO.none _
      | refine LeO.ite ?_ ?_
      | refine LeO.bind ?_ (fun _ => ?_)
theorem spec_ValidLog.mono : ∀ a0 a1 a2 a3 a4 k, LeO (spec_ValidLog.f k a0 a1 a2 a3 a4) (spec_ValidLog.f (k + 1) a0 a1 a2 a3 a4) := by
  intro a0 a1 a2 a3 a4 k
  have ih0 := spec_ValidLog.mono_l k
  unfold spec_ValidLog.f
  repeat' first
      | (with_reducible exact ih0 _ _ _ _ _ _)
      | (with_reducible exact LeO.refl _)
      | (with_reducible exact LeO.none _)
      | (with_reducible refine LeO.ite ?_ ?_)
      | (with_reducible refine LeO.bind ?_ (fun _ => ?_))
      | exact ih0 _ _ _ _ _ _
      | exact LeO.none _
      | refine LeO.ite ?_ ?_
      | refine LeO.bind ?_ (fun _ => ?_)
set_option maxHeartbeats 8000000 in
set_option maxRecDepth 100000 in
theorem spec_ValidLog.calls (k : Nat) (a0_0 : Int) (a0_1 : Int) (a0_2 : Int) (a0_3 : Int) (a0_4 : Int) (r : Bool) (w : World) (h : spec_ValidLog.f k a0_0 a0_1 a0_2 a0_3 a0_4 = some r) :
    Calls Try.prog 41 #[.agg #[.int .i64 a0_0, .int .i64 a0_1, .int .i64 a0_2, .int .i64 a0_3, .int .i64 a0_4]] w fun e w' => e = .returned (.bool r) ∧ Below w.heap.size w w' := by
  have hu29 := Try.underlying29
  have HB := Aside0.mk (Below.refl w.heap.size w)
  have H : ((spec_l3GoodSeq.f a0_2).bind fun t364 => (if t364 = true then (if a0_0 < 16 then (spec_ValidLog.j0 k true a0_0 a0_1 a0_2 a0_3 a0_4) else (if a0_0 > 512 then (spec_ValidLog.j0 k true a0_0 a0_1 a0_2 a0_3 a0_4) else (if a0_1 < 0 then (spec_ValidLog.j0 k true a0_0 a0_1 a0_2 a0_3 a0_4) else (if a0_1 > a0_0 then (spec_ValidLog.j0 k true a0_0 a0_1 a0_2 a0_3 a0_4) else (if a0_3 < 1 then (spec_ValidLog.j0 k true a0_0 a0_1 a0_2 a0_3 a0_4) else (if a0_3 > a0_0 then (spec_ValidLog.j0 k true a0_0 a0_1 a0_2 a0_3 a0_4) else (if a0_4 < 0 then (spec_ValidLog.j0 k true a0_0 a0_1 a0_2 a0_3 a0_4) else (spec_ValidLog.j0 k (decide (a0_4 > a0_0)) a0_0 a0_1 a0_2 a0_3 a0_4)))))))) else (spec_ValidLog.j0 k true a0_0 a0_1 a0_2 a0_3 a0_4))) = some r := h
  clear h
  replace H := Option.bind_eq_some_iff.mp H
  obtain ⟨t364, A20, H⟩ := H
  replace H : (if t364 = true then (if a0_0 < 16 then (spec_ValidLog.j0 k true a0_0 a0_1 a0_2 a0_3 a0_4) else (if a0_0 > 512 then (spec_ValidLog.j0 k true a0_0 a0_1 a0_2 a0_3 a0_4) else (if a0_1 < 0 then (spec_ValidLog.j0 k true a0_0 a0_1 a0_2 a0_3 a0_4) else (if a0_1 > a0_0 then (spec_ValidLog.j0 k true a0_0 a0_1 a0_2 a0_3 a0_4) else (if a0_3 < 1 then (spec_ValidLog.j0 k true a0_0 a0_1 a0_2 a0_3 a0_4) else (if a0_3 > a0_0 then (spec_ValidLog.j0 k true a0_0 a0_1 a0_2 a0_3 a0_4) else (if a0_4 < 0 then (spec_ValidLog.j0 k true a0_0 a0_1 a0_2 a0_3 a0_4) else (spec_ValidLog.j0 k (decide (a0_4 > a0_0)) a0_0 a0_1 a0_2 a0_3 a0_4)))))))) else (spec_ValidLog.j0 k true a0_0 a0_1 a0_2 a0_3 a0_4)) = some r := H
  have A2 := Aside0.mk A20
  clear A20
  have HC3 := Aside0.mk H
  clear H
  go_enter Try.func41, Try.ntmps41
  go_upto_region 2 with (first | ((with_reducible refine gate_dst (N := 1) rfl ?_); refine box_event ?hg (N := 1) ?hd (cs := #[.int .i64 a0_0, .int .i64 a0_1, .int .i64 a0_2, .int .i64 a0_3, .int .i64 a0_4]) (t := 29) ?hr ?_; (case hd => rfl); (case hg => rfl); (case hr => first | (go_simp; done) | (go_simp; rfl)); intro gb363 hg w4 hbox hb; have n0_ := Aside0.mk (below_step (Rgn.bq HB.out) hb); have n1_ := Aside0.mk (hbox); have n2_ := Aside0.mk ((by rw [hg]; exact (below_size (Rgn.bq HB.out)) : w.heap.size ≤ gb363)); have n3_ := Aside0.mk ((by rw [hg]; exact (below_size (Rgn.bq HB.out)) : w.heap.size ≤ gb363)); clear HB; have HB := n0_; have BK363 := n1_; have GW363 := n2_; have GE363 := n3_; clear n0_ n1_ n2_ n3_; clear hb hbox hg; have hcz5_0 : w4.cell? ⟨gb363, 0, none⟩ = some (.int .i64 a0_0) := (blk_cell BK363.out 0).trans rfl; have hcz5_1 : w4.cell? ⟨gb363, 1, none⟩ = some (.int .i64 a0_1) := (blk_cell BK363.out 1).trans rfl; have hcz5_2 : w4.cell? ⟨gb363, 2, none⟩ = some (.int .i64 a0_2) := (blk_cell BK363.out 2).trans rfl; have hcz5_3 : w4.cell? ⟨gb363, 3, none⟩ = some (.int .i64 a0_3) := (blk_cell BK363.out 3).trans rfl; have hcz5_4 : w4.cell? ⟨gb363, 4, none⟩ = some (.int .i64 a0_4) := (blk_cell BK363.out 4).trans rfl; have hfz5_0 := blk_frozen BK363.out 0; have hfz5_1 := blk_frozen BK363.out 1; have hfz5_2 := blk_frozen BK363.out 2; have hfz5_3 := blk_frozen BK363.out 3; have hfz5_4 := blk_frozen BK363.out 4) | (go_at_call 51; (with_reducible refine (spec_l3GoodSeq.calls a0_2 t364 _ A2.out).mono ?_); rintro e w' ⟨rfl, ⟨nd, rfl⟩⟩; (try first | exact ⟨rfl, _, World.drewN_drewN _ _ _⟩ | exact ⟨rfl, _, Eq.trans (World.drewN_drewN _ _ _) (congrArg (World.drewN _) (Nat.add_assoc _ _ _))⟩)))
  repeat (go_quiet (first | ((with_reducible refine gate_dst (N := 1) rfl ?_); refine box_event ?hg (N := 1) ?hd (cs := #[.int .i64 a0_0, .int .i64 a0_1, .int .i64 a0_2, .int .i64 a0_3, .int .i64 a0_4]) (t := 29) ?hr ?_; (case hd => rfl); (case hg => rfl); (case hr => first | (go_simp; done) | (go_simp; rfl)); intro gb363 hg w4 hbox hb; have n0_ := Aside0.mk (below_step (Rgn.bq HB.out) hb); have n1_ := Aside0.mk (hbox); have n2_ := Aside0.mk ((by rw [hg]; exact (below_size (Rgn.bq HB.out)) : w.heap.size ≤ gb363)); have n3_ := Aside0.mk ((by rw [hg]; exact (below_size (Rgn.bq HB.out)) : w.heap.size ≤ gb363)); clear HB; have HB := n0_; have BK363 := n1_; have GW363 := n2_; have GE363 := n3_; clear n0_ n1_ n2_ n3_; clear hb hbox hg; have hcz5_0 : w4.cell? ⟨gb363, 0, none⟩ = some (.int .i64 a0_0) := (blk_cell BK363.out 0).trans rfl; have hcz5_1 : w4.cell? ⟨gb363, 1, none⟩ = some (.int .i64 a0_1) := (blk_cell BK363.out 1).trans rfl; have hcz5_2 : w4.cell? ⟨gb363, 2, none⟩ = some (.int .i64 a0_2) := (blk_cell BK363.out 2).trans rfl; have hcz5_3 : w4.cell? ⟨gb363, 3, none⟩ = some (.int .i64 a0_3) := (blk_cell BK363.out 3).trans rfl; have hcz5_4 : w4.cell? ⟨gb363, 4, none⟩ = some (.int .i64 a0_4) := (blk_cell BK363.out 4).trans rfl; have hfz5_0 := blk_frozen BK363.out 0; have hfz5_1 := blk_frozen BK363.out 1; have hfz5_2 := blk_frozen BK363.out 2; have hfz5_3 := blk_frozen BK363.out 3; have hfz5_4 := blk_frozen BK363.out 4) | (go_at_call 51; (with_reducible refine (spec_l3GoodSeq.calls a0_2 t364 _ A2.out).mono ?_); rintro e w' ⟨rfl, ⟨nd, rfl⟩⟩; (try first | exact ⟨rfl, _, World.drewN_drewN _ _ _⟩ | exact ⟨rfl, _, Eq.trans (World.drewN_drewN _ _ _) (congrArg (World.drewN _) (Nat.add_assoc _ _ _))⟩))); go_upto_region 2 with (first | ((with_reducible refine gate_dst (N := 1) rfl ?_); refine box_event ?hg (N := 1) ?hd (cs := #[.int .i64 a0_0, .int .i64 a0_1, .int .i64 a0_2, .int .i64 a0_3, .int .i64 a0_4]) (t := 29) ?hr ?_; (case hd => rfl); (case hg => rfl); (case hr => first | (go_simp; done) | (go_simp; rfl)); intro gb363 hg w4 hbox hb; have n0_ := Aside0.mk (below_step (Rgn.bq HB.out) hb); have n1_ := Aside0.mk (hbox); have n2_ := Aside0.mk ((by rw [hg]; exact (below_size (Rgn.bq HB.out)) : w.heap.size ≤ gb363)); have n3_ := Aside0.mk ((by rw [hg]; exact (below_size (Rgn.bq HB.out)) : w.heap.size ≤ gb363)); clear HB; have HB := n0_; have BK363 := n1_; have GW363 := n2_; have GE363 := n3_; clear n0_ n1_ n2_ n3_; clear hb hbox hg; have hcz5_0 : w4.cell? ⟨gb363, 0, none⟩ = some (.int .i64 a0_0) := (blk_cell BK363.out 0).trans rfl; have hcz5_1 : w4.cell? ⟨gb363, 1, none⟩ = some (.int .i64 a0_1) := (blk_cell BK363.out 1).trans rfl; have hcz5_2 : w4.cell? ⟨gb363, 2, none⟩ = some (.int .i64 a0_2) := (blk_cell BK363.out 2).trans rfl; have hcz5_3 : w4.cell? ⟨gb363, 3, none⟩ = some (.int .i64 a0_3) := (blk_cell BK363.out 3).trans rfl; have hcz5_4 : w4.cell? ⟨gb363, 4, none⟩ = some (.int .i64 a0_4) := (blk_cell BK363.out 4).trans rfl; have hfz5_0 := blk_frozen BK363.out 0; have hfz5_1 := blk_frozen BK363.out 1; have hfz5_2 := blk_frozen BK363.out 2; have hfz5_3 := blk_frozen BK363.out 3; have hfz5_4 := blk_frozen BK363.out 4) | (go_at_call 51; (with_reducible refine (spec_l3GoodSeq.calls a0_2 t364 _ A2.out).mono ?_); rintro e w' ⟨rfl, ⟨nd, rfl⟩⟩; (try first | exact ⟨rfl, _, World.drewN_drewN _ _ _⟩ | exact ⟨rfl, _, Eq.trans (World.drewN_drewN _ _ _) (congrArg (World.drewN _) (Nat.add_assoc _ _ _))⟩))))
  (try simp only [Act.put, List.setIfInBounds_toArray, List.set_cons_zero, List.set_cons_succ])
  go_cut [54] (fun v54 wc => ∃ (kq : Nat) (x54_2 : Bool), v54 = .bool x54_2 ∧ Aside0 (spec_ValidLog.j0 kq x54_2 a0_0 a0_1 a0_2 a0_3 a0_4 = some r) ∧ Aside0 (kq ≤ k) ∧ Aside0 (wc.heap[gb363]? = some (.cells #[.int .i64 a0_0, .int .i64 a0_1, .int .i64 a0_2, .int .i64 a0_3, .int .i64 a0_4] 29 (0, 0))) ∧ Aside0 (Below w.heap.size w wc))
  case first =>
    have H := HC3.out
    clear HC3
    by_cases c6 : t364 = true
    · subst c6
      have H1 : (if a0_0 < 16 then (spec_ValidLog.j0 k true a0_0 a0_1 a0_2 a0_3 a0_4) else (if a0_0 > 512 then (spec_ValidLog.j0 k true a0_0 a0_1 a0_2 a0_3 a0_4) else (if a0_1 < 0 then (spec_ValidLog.j0 k true a0_0 a0_1 a0_2 a0_3 a0_4) else (if a0_1 > a0_0 then (spec_ValidLog.j0 k true a0_0 a0_1 a0_2 a0_3 a0_4) else (if a0_3 < 1 then (spec_ValidLog.j0 k true a0_0 a0_1 a0_2 a0_3 a0_4) else (if a0_3 > a0_0 then (spec_ValidLog.j0 k true a0_0 a0_1 a0_2 a0_3 a0_4) else (if a0_4 < 0 then (spec_ValidLog.j0 k true a0_0 a0_1 a0_2 a0_3 a0_4) else (spec_ValidLog.j0 k (decide (a0_4 > a0_0)) a0_0 a0_1 a0_2 a0_3 a0_4)))))))) = some r := by rw [if_pos rfl] at H; exact H
      clear H
      have H := H1
      clear H1
      by_cases c7 : a0_0 < 16
      · rw [if_pos c7] at H
        have c7b0 : decide (a0_0 < 16) = true := decide_eq_true c7
        clear c7
        (first | rw [c7b0] | (simp only [i64_w, i32_w]; rw [c7b0]) | skip)
        have H' := Aside0.mk H
        clear H
        have hcz8_0 : w4.cell? ⟨gb363, 0, none⟩ = some (.int .i64 a0_0) := (blk_cell BK363.out 0).trans rfl
        have hcz8_1 : w4.cell? ⟨gb363, 1, none⟩ = some (.int .i64 a0_1) := (blk_cell BK363.out 1).trans rfl
        have hcz8_2 : w4.cell? ⟨gb363, 2, none⟩ = some (.int .i64 a0_2) := (blk_cell BK363.out 2).trans rfl
        have hcz8_3 : w4.cell? ⟨gb363, 3, none⟩ = some (.int .i64 a0_3) := (blk_cell BK363.out 3).trans rfl
        have hcz8_4 : w4.cell? ⟨gb363, 4, none⟩ = some (.int .i64 a0_4) := (blk_cell BK363.out 4).trans rfl
        have hfz8_0 := blk_frozen BK363.out 0
        have hfz8_1 := blk_frozen BK363.out 1
        have hfz8_2 := blk_frozen BK363.out 2
        have hfz8_3 := blk_frozen BK363.out 3
        have hfz8_4 := blk_frozen BK363.out 4
        go_wp2
        repeat (go_quiet (fail); try go_wp2)
        go_meet
        case rel => exact ⟨_, (true), (by first | rfl | (simp; done) | (simp [*]; done)), H', ⟨by first | omega | exact Nat.le_refl _⟩, ⟨Rgn.kb BK363.out⟩, ⟨Rgn.bq HB.out⟩⟩
      · rw [if_neg c7] at H
        have c7b0 : decide (a0_0 < 16) = false := decide_eq_false c7
        clear c7
        (first | rw [c7b0] | (simp only [i64_w, i32_w]; rw [c7b0]) | skip)
        by_cases c9 : a0_0 > 512
        · rw [if_pos c9] at H
          have c9b0 : decide (512 < a0_0) = true := decide_eq_true c9
          clear c9
          have H' := Aside0.mk H
          clear H
          have hcz10_0 : w4.cell? ⟨gb363, 0, none⟩ = some (.int .i64 a0_0) := (blk_cell BK363.out 0).trans rfl
          have hcz10_1 : w4.cell? ⟨gb363, 1, none⟩ = some (.int .i64 a0_1) := (blk_cell BK363.out 1).trans rfl
          have hcz10_2 : w4.cell? ⟨gb363, 2, none⟩ = some (.int .i64 a0_2) := (blk_cell BK363.out 2).trans rfl
          have hcz10_3 : w4.cell? ⟨gb363, 3, none⟩ = some (.int .i64 a0_3) := (blk_cell BK363.out 3).trans rfl
          have hcz10_4 : w4.cell? ⟨gb363, 4, none⟩ = some (.int .i64 a0_4) := (blk_cell BK363.out 4).trans rfl
          have hfz10_0 := blk_frozen BK363.out 0
          have hfz10_1 := blk_frozen BK363.out 1
          have hfz10_2 := blk_frozen BK363.out 2
          have hfz10_3 := blk_frozen BK363.out 3
          have hfz10_4 := blk_frozen BK363.out 4
          go_wp2
          repeat (go_quiet (fail); try go_wp2)
          go_meet
          case rel => exact ⟨_, (true), (by first | rfl | (simp; done) | (simp [*]; done)), H', ⟨by first | omega | exact Nat.le_refl _⟩, ⟨Rgn.kb BK363.out⟩, ⟨Rgn.bq HB.out⟩⟩
        · rw [if_neg c9] at H
          have c9b0 : decide (512 < a0_0) = false := decide_eq_false c9
          clear c9
          by_cases c11 : a0_1 < 0
          · rw [if_pos c11] at H
            have c11b0 : decide (a0_1 < 0) = true := decide_eq_true c11
            clear c11
            have H' := Aside0.mk H
            clear H
            have hcz12_0 : w4.cell? ⟨gb363, 0, none⟩ = some (.int .i64 a0_0) := (blk_cell BK363.out 0).trans rfl
            have hcz12_1 : w4.cell? ⟨gb363, 1, none⟩ = some (.int .i64 a0_1) := (blk_cell BK363.out 1).trans rfl
            have hcz12_2 : w4.cell? ⟨gb363, 2, none⟩ = some (.int .i64 a0_2) := (blk_cell BK363.out 2).trans rfl
            have hcz12_3 : w4.cell? ⟨gb363, 3, none⟩ = some (.int .i64 a0_3) := (blk_cell BK363.out 3).trans rfl
            have hcz12_4 : w4.cell? ⟨gb363, 4, none⟩ = some (.int .i64 a0_4) := (blk_cell BK363.out 4).trans rfl
            have hfz12_0 := blk_frozen BK363.out 0
            have hfz12_1 := blk_frozen BK363.out 1
            have hfz12_2 := blk_frozen BK363.out 2
            have hfz12_3 := blk_frozen BK363.out 3
            have hfz12_4 := blk_frozen BK363.out 4
            go_wp2
            repeat (go_quiet (fail); try go_wp2)
            go_meet
            case rel => exact ⟨_, (true), (by first | rfl | (simp; done) | (simp [*]; done)), H', ⟨by first | omega | exact Nat.le_refl _⟩, ⟨Rgn.kb BK363.out⟩, ⟨Rgn.bq HB.out⟩⟩
          · rw [if_neg c11] at H
            have c11b0 : decide (a0_1 < 0) = false := decide_eq_false c11
            clear c11
            by_cases c13 : a0_1 > a0_0
            · rw [if_pos c13] at H
              have c13b0 : decide (a0_0 < a0_1) = true := decide_eq_true c13
              clear c13
              have H' := Aside0.mk H
              clear H
              have hcz14_0 : w4.cell? ⟨gb363, 0, none⟩ = some (.int .i64 a0_0) := (blk_cell BK363.out 0).trans rfl
              have hcz14_1 : w4.cell? ⟨gb363, 1, none⟩ = some (.int .i64 a0_1) := (blk_cell BK363.out 1).trans rfl
              have hcz14_2 : w4.cell? ⟨gb363, 2, none⟩ = some (.int .i64 a0_2) := (blk_cell BK363.out 2).trans rfl
              have hcz14_3 : w4.cell? ⟨gb363, 3, none⟩ = some (.int .i64 a0_3) := (blk_cell BK363.out 3).trans rfl
              have hcz14_4 : w4.cell? ⟨gb363, 4, none⟩ = some (.int .i64 a0_4) := (blk_cell BK363.out 4).trans rfl
              have hfz14_0 := blk_frozen BK363.out 0
              have hfz14_1 := blk_frozen BK363.out 1
              have hfz14_2 := blk_frozen BK363.out 2
              have hfz14_3 := blk_frozen BK363.out 3
              have hfz14_4 := blk_frozen BK363.out 4
              go_wp2
              repeat (go_quiet (fail); try go_wp2)
              go_meet
              case rel => exact ⟨_, (true), (by first | rfl | (simp; done) | (simp [*]; done)), H', ⟨by first | omega | exact Nat.le_refl _⟩, ⟨Rgn.kb BK363.out⟩, ⟨Rgn.bq HB.out⟩⟩
            · rw [if_neg c13] at H
              have c13b0 : decide (a0_0 < a0_1) = false := decide_eq_false c13
              clear c13
              by_cases c15 : a0_3 < 1
              · rw [if_pos c15] at H
                have c15b0 : decide (a0_3 < 1) = true := decide_eq_true c15
                clear c15
                have H' := Aside0.mk H
                clear H
                have hcz16_0 : w4.cell? ⟨gb363, 0, none⟩ = some (.int .i64 a0_0) := (blk_cell BK363.out 0).trans rfl
                have hcz16_1 : w4.cell? ⟨gb363, 1, none⟩ = some (.int .i64 a0_1) := (blk_cell BK363.out 1).trans rfl
                have hcz16_2 : w4.cell? ⟨gb363, 2, none⟩ = some (.int .i64 a0_2) := (blk_cell BK363.out 2).trans rfl
                have hcz16_3 : w4.cell? ⟨gb363, 3, none⟩ = some (.int .i64 a0_3) := (blk_cell BK363.out 3).trans rfl
                have hcz16_4 : w4.cell? ⟨gb363, 4, none⟩ = some (.int .i64 a0_4) := (blk_cell BK363.out 4).trans rfl
                have hfz16_0 := blk_frozen BK363.out 0
                have hfz16_1 := blk_frozen BK363.out 1
                have hfz16_2 := blk_frozen BK363.out 2
                have hfz16_3 := blk_frozen BK363.out 3
                have hfz16_4 := blk_frozen BK363.out 4
                go_wp2
                repeat (go_quiet (fail); try go_wp2)
                go_meet
                case rel => exact ⟨_, (true), (by first | rfl | (simp; done) | (simp [*]; done)), H', ⟨by first | omega | exact Nat.le_refl _⟩, ⟨Rgn.kb BK363.out⟩, ⟨Rgn.bq HB.out⟩⟩
              · rw [if_neg c15] at H
                have c15b0 : decide (a0_3 < 1) = false := decide_eq_false c15
                clear c15
                by_cases c17 : a0_3 > a0_0
                · rw [if_pos c17] at H
                  have c17b0 : decide (a0_0 < a0_3) = true := decide_eq_true c17
                  clear c17
                  have H' := Aside0.mk H
                  clear H
                  have hcz18_0 : w4.cell? ⟨gb363, 0, none⟩ = some (.int .i64 a0_0) := (blk_cell BK363.out 0).trans rfl
                  have hcz18_1 : w4.cell? ⟨gb363, 1, none⟩ = some (.int .i64 a0_1) := (blk_cell BK363.out 1).trans rfl
                  have hcz18_2 : w4.cell? ⟨gb363, 2, none⟩ = some (.int .i64 a0_2) := (blk_cell BK363.out 2).trans rfl
                  have hcz18_3 : w4.cell? ⟨gb363, 3, none⟩ = some (.int .i64 a0_3) := (blk_cell BK363.out 3).trans rfl
                  have hcz18_4 : w4.cell? ⟨gb363, 4, none⟩ = some (.int .i64 a0_4) := (blk_cell BK363.out 4).trans rfl
                  have hfz18_0 := blk_frozen BK363.out 0
                  have hfz18_1 := blk_frozen BK363.out 1
                  have hfz18_2 := blk_frozen BK363.out 2
                  have hfz18_3 := blk_frozen BK363.out 3
                  have hfz18_4 := blk_frozen BK363.out 4
                  go_wp2
                  repeat (go_quiet (fail); try go_wp2)
                  go_meet
                  case rel => exact ⟨_, (true), (by first | rfl | (simp; done) | (simp [*]; done)), H', ⟨by first | omega | exact Nat.le_refl _⟩, ⟨Rgn.kb BK363.out⟩, ⟨Rgn.bq HB.out⟩⟩
                · rw [if_neg c17] at H
                  have c17b0 : decide (a0_0 < a0_3) = false := decide_eq_false c17
                  clear c17
                  by_cases c19 : a0_4 < 0
                  · rw [if_pos c19] at H
                    have c19b0 : decide (a0_4 < 0) = true := decide_eq_true c19
                    clear c19
                    have H' := Aside0.mk H
                    clear H
                    have hcz20_0 : w4.cell? ⟨gb363, 0, none⟩ = some (.int .i64 a0_0) := (blk_cell BK363.out 0).trans rfl
                    have hcz20_1 : w4.cell? ⟨gb363, 1, none⟩ = some (.int .i64 a0_1) := (blk_cell BK363.out 1).trans rfl
                    have hcz20_2 : w4.cell? ⟨gb363, 2, none⟩ = some (.int .i64 a0_2) := (blk_cell BK363.out 2).trans rfl
                    have hcz20_3 : w4.cell? ⟨gb363, 3, none⟩ = some (.int .i64 a0_3) := (blk_cell BK363.out 3).trans rfl
                    have hcz20_4 : w4.cell? ⟨gb363, 4, none⟩ = some (.int .i64 a0_4) := (blk_cell BK363.out 4).trans rfl
                    have hfz20_0 := blk_frozen BK363.out 0
                    have hfz20_1 := blk_frozen BK363.out 1
                    have hfz20_2 := blk_frozen BK363.out 2
                    have hfz20_3 := blk_frozen BK363.out 3
                    have hfz20_4 := blk_frozen BK363.out 4
                    go_wp2
                    repeat (go_quiet (fail); try go_wp2)
                    go_meet
                    case rel => exact ⟨_, (true), (by first | rfl | (simp; done) | (simp [*]; done)), H', ⟨by first | omega | exact Nat.le_refl _⟩, ⟨Rgn.kb BK363.out⟩, ⟨Rgn.bq HB.out⟩⟩
                  · rw [if_neg c19] at H
                    have c19b0 : decide (a0_4 < 0) = false := decide_eq_false c19
                    clear c19
                    have H' := Aside0.mk H
                    clear H
                    have hcz21_0 : w4.cell? ⟨gb363, 0, none⟩ = some (.int .i64 a0_0) := (blk_cell BK363.out 0).trans rfl
                    have hcz21_1 : w4.cell? ⟨gb363, 1, none⟩ = some (.int .i64 a0_1) := (blk_cell BK363.out 1).trans rfl
                    have hcz21_2 : w4.cell? ⟨gb363, 2, none⟩ = some (.int .i64 a0_2) := (blk_cell BK363.out 2).trans rfl
                    have hcz21_3 : w4.cell? ⟨gb363, 3, none⟩ = some (.int .i64 a0_3) := (blk_cell BK363.out 3).trans rfl
                    have hcz21_4 : w4.cell? ⟨gb363, 4, none⟩ = some (.int .i64 a0_4) := (blk_cell BK363.out 4).trans rfl
                    have hfz21_0 := blk_frozen BK363.out 0
                    have hfz21_1 := blk_frozen BK363.out 1
                    have hfz21_2 := blk_frozen BK363.out 2
                    have hfz21_3 := blk_frozen BK363.out 3
                    have hfz21_4 := blk_frozen BK363.out 4
                    go_wp2
                    repeat (go_quiet (fail); try go_wp2)
                    go_meet
                    case rel => exact ⟨_, (decide (a0_4 > a0_0)), (by first | rfl | (simp; done) | (simp [*]; done)), H', ⟨by first | omega | exact Nat.le_refl _⟩, ⟨Rgn.kb BK363.out⟩, ⟨Rgn.bq HB.out⟩⟩
    · replace c6 := Bool.eq_false_iff.mpr c6
      subst c6
      have H1 : (spec_ValidLog.j0 k true a0_0 a0_1 a0_2 a0_3 a0_4) = some r := by rw [if_neg (show ¬ (false = true) by decide)] at H; exact H
      clear H
      have H := H1
      clear H1
      have H' := Aside0.mk H
      clear H
      go_wp2
      repeat (go_quiet (fail); try go_wp2)
      go_meet
      case rel => exact ⟨_, (true), (by first | rfl | (simp; done) | (simp [*]; done)), H', ⟨by first | omega | exact Nat.le_refl _⟩, ⟨Rgn.kb BK363.out⟩, ⟨Rgn.bq HB.out⟩⟩
  case rest =>
    clear HC3
    try clear c1
    try clear p2
    try clear c4
    try clear c6
    try clear c7
    try clear c7b0
    try clear c9
    try clear c9b0
    try clear c11
    try clear c11b0
    try clear c13
    try clear c13b0
    try clear c15
    try clear c15b0
    try clear c17
    try clear c17b0
    try clear c19
    try clear c19b0
    try clear hcz10_0
    try clear hcz10_1
    try clear hcz10_2
    try clear hcz10_3
    try clear hcz10_4
    try clear hcz12_0
    try clear hcz12_1
    try clear hcz12_2
    try clear hcz12_3
    try clear hcz12_4
    try clear hcz14_0
    try clear hcz14_1
    try clear hcz14_2
    try clear hcz14_3
    try clear hcz14_4
    try clear hcz16_0
    try clear hcz16_1
    try clear hcz16_2
    try clear hcz16_3
    try clear hcz16_4
    try clear hcz18_0
    try clear hcz18_1
    try clear hcz18_2
    try clear hcz18_3
    try clear hcz18_4
    try clear hcz20_0
    try clear hcz20_1
    try clear hcz20_2
    try clear hcz20_3
    try clear hcz20_4
    try clear hcz21_0
    try clear hcz21_1
    try clear hcz21_2
    try clear hcz21_3
    try clear hcz21_4
    try clear hcz5_0
    try clear hcz5_1
    try clear hcz5_2
    try clear hcz5_3
    try clear hcz5_4
    try clear hcz8_0
    try clear hcz8_1
    try clear hcz8_2
    try clear hcz8_3
    try clear hcz8_4
    try clear hfz10_0
    try clear hfz10_1
    try clear hfz10_2
    try clear hfz10_3
    try clear hfz10_4
    try clear hfz12_0
    try clear hfz12_1
    try clear hfz12_2
    try clear hfz12_3
    try clear hfz12_4
    try clear hfz14_0
    try clear hfz14_1
    try clear hfz14_2
    try clear hfz14_3
    try clear hfz14_4
    try clear hfz16_0
    try clear hfz16_1
    try clear hfz16_2
    try clear hfz16_3
    try clear hfz16_4
    try clear hfz18_0
    try clear hfz18_1
    try clear hfz18_2
    try clear hfz18_3
    try clear hfz18_4
    try clear hfz20_0
    try clear hfz20_1
    try clear hfz20_2
    try clear hfz20_3
    try clear hfz20_4
    try clear hfz21_0
    try clear hfz21_1
    try clear hfz21_2
    try clear hfz21_3
    try clear hfz21_4
    try clear hfz5_0
    try clear hfz5_1
    try clear hfz5_2
    try clear hfz5_3
    try clear hfz5_4
    try clear hfz8_0
    try clear hfz8_1
    try clear hfz8_2
    try clear hfz8_3
    try clear hfz8_4
    obtain ⟨kq, x54_2, rfl, HA, HJ2, BK363, HB⟩ := hcut
    cases kq with
    | zero => exact absurd HA.out (by simp [spec_ValidLog.j0])
    | succ kj2 =>
      have H := HA.out
      clear HA
      simp only [spec_ValidLog.j0] at H
      by_cases c22 : x54_2 = true
      · subst c22
        have H1 : (some false) = some r := by rw [if_pos rfl] at H; exact H
        clear H
        have H := H1
        clear H1
        obtain rfl := Option.some.inj H
        go_wp2
        repeat (go_quiet (fail); try go_wp2)
        go_ret
        exact ⟨by first | rfl | (simp [errW_none, errW_some] <;> rfl) | (simp [*, errW_none, errW_some] <;> rfl), Rgn.bq HB.out⟩
      · replace c22 := Bool.eq_false_iff.mpr c22
        subst c22
        have H1 : (if a0_1 = 0 then (some (a0_4 == 0)) else ((spec_l4Place.f a0_0 a0_1 a0_4).bind fun t365 => (some (a0_3 == t365)))) = some r := by rw [if_neg (show ¬ (false = true) by decide)] at H; exact H
        clear H
        have H := H1
        clear H1
        by_cases c23 : a0_1 = 0
        · rw [if_pos c23] at H
          have c23b0 : (a0_1 == 0) = true := beq_iff_eq.mpr c23
          have c23b1 : (a0_1 != 0) = false := bne_eq_false_iff_eq.mpr c23
          clear c23
          obtain rfl := Option.some.inj H
          have hcz24_0 : wc.cell? ⟨gb363, 0, none⟩ = some (.int .i64 a0_0) := (blk_cell BK363.out 0).trans rfl
          have hcz24_1 : wc.cell? ⟨gb363, 1, none⟩ = some (.int .i64 a0_1) := (blk_cell BK363.out 1).trans rfl
          have hcz24_2 : wc.cell? ⟨gb363, 2, none⟩ = some (.int .i64 a0_2) := (blk_cell BK363.out 2).trans rfl
          have hcz24_3 : wc.cell? ⟨gb363, 3, none⟩ = some (.int .i64 a0_3) := (blk_cell BK363.out 3).trans rfl
          have hcz24_4 : wc.cell? ⟨gb363, 4, none⟩ = some (.int .i64 a0_4) := (blk_cell BK363.out 4).trans rfl
          have hfz24_0 := blk_frozen BK363.out 0
          have hfz24_1 := blk_frozen BK363.out 1
          have hfz24_2 := blk_frozen BK363.out 2
          have hfz24_3 := blk_frozen BK363.out 3
          have hfz24_4 := blk_frozen BK363.out 4
          go_wp2
          repeat (go_quiet (fail); try go_wp2)
          go_ret
          exact ⟨by first | rfl | (simp [errW_none, errW_some] <;> rfl) | (simp [*, errW_none, errW_some] <;> rfl), Rgn.bq HB.out⟩
        · rw [if_neg c23] at H
          have c23b0 : (a0_1 == 0) = false := beq_eq_false_iff_ne.mpr c23
          have c23b1 : (a0_1 != 0) = true := bne_iff_ne.mpr c23
          replace H := Option.bind_eq_some_iff.mp H
          obtain ⟨t365, A250, H⟩ := H
          replace H : (some (a0_3 == t365)) = some r := H
          have A25 := Aside0.mk A250
          clear A250
          obtain rfl := Option.some.inj H
          have hcz26_0 : wc.cell? ⟨gb363, 0, none⟩ = some (.int .i64 a0_0) := (blk_cell BK363.out 0).trans rfl
          have hcz26_1 : wc.cell? ⟨gb363, 1, none⟩ = some (.int .i64 a0_1) := (blk_cell BK363.out 1).trans rfl
          have hcz26_2 : wc.cell? ⟨gb363, 2, none⟩ = some (.int .i64 a0_2) := (blk_cell BK363.out 2).trans rfl
          have hcz26_3 : wc.cell? ⟨gb363, 3, none⟩ = some (.int .i64 a0_3) := (blk_cell BK363.out 3).trans rfl
          have hcz26_4 : wc.cell? ⟨gb363, 4, none⟩ = some (.int .i64 a0_4) := (blk_cell BK363.out 4).trans rfl
          have hfz26_0 := blk_frozen BK363.out 0
          have hfz26_1 := blk_frozen BK363.out 1
          have hfz26_2 := blk_frozen BK363.out 2
          have hfz26_3 := blk_frozen BK363.out 3
          have hfz26_4 := blk_frozen BK363.out 4
          go_wp2_with (first | (go_at_call 25; (with_reducible refine (spec_l4Place.calls a0_0 a0_1 a0_4 t365 _ A25.out).mono ?_); rintro e w' ⟨rfl, ⟨nd, rfl⟩⟩; (try first | exact ⟨rfl, _, World.drewN_drewN _ _ _⟩ | exact ⟨rfl, _, Eq.trans (World.drewN_drewN _ _ _) (congrArg (World.drewN _) (Nat.add_assoc _ _ _))⟩)))
          repeat (go_quiet (first | (go_at_call 25; (with_reducible refine (spec_l4Place.calls a0_0 a0_1 a0_4 t365 _ A25.out).mono ?_); rintro e w' ⟨rfl, ⟨nd, rfl⟩⟩; (try first | exact ⟨rfl, _, World.drewN_drewN _ _ _⟩ | exact ⟨rfl, _, Eq.trans (World.drewN_drewN _ _ _) (congrArg (World.drewN _) (Nat.add_assoc _ _ _))⟩))); try go_wp2_with (first | (go_at_call 25; (with_reducible refine (spec_l4Place.calls a0_0 a0_1 a0_4 t365 _ A25.out).mono ?_); rintro e w' ⟨rfl, ⟨nd, rfl⟩⟩; (try first | exact ⟨rfl, _, World.drewN_drewN _ _ _⟩ | exact ⟨rfl, _, Eq.trans (World.drewN_drewN _ _ _) (congrArg (World.drewN _) (Nat.add_assoc _ _ _))⟩))))
          go_ret
          exact ⟨by first | rfl | (simp [errW_none, errW_some] <;> rfl) | (simp [*, errW_none, errW_some] <;> rfl), Rgn.bq HB.out⟩

/-! ### spec_l4Takes: function 23 -/
def spec_l4Takes.f (k : Nat) (a0_0 : Int) (a0_1 : Int) (a0_2 : Int) (a0_3 : Int) (a0_4 : Int) (a1_0 : Int) (l1_1 : List (S61)) (l1_2 : List Int) : Option (Bool) := (spec_ValidLog.f k a0_0 a0_1 a0_2 a0_3 a0_4).bind fun t368 => ((spec_ValidTxn.f k a1_0 l1_1 l1_2).bind fun t369 => (if t368 = true then (if t369 = true then (if a0_2 = a1_0 then (if a0_2 < 4294967295 then ((spec_TxnLength.f k a1_0 l1_1 l1_2).bind fun t370 => (some (decide (t370 ≤ (wrap64 (a0_0 - a0_4)))))) else (some false)) else (some false)) else (some false)) else (some false)))
theorem spec_l4Takes.mono : ∀ a0 a1 a2 a3 a4 a5 a6 a7 k, LeO (spec_l4Takes.f k a0 a1 a2 a3 a4 a5 a6 a7) (spec_l4Takes.f (k + 1) a0 a1 a2 a3 a4 a5 a6 a7) := by
  intro a0 a1 a2 a3 a4 a5 a6 a7 k
  unfold spec_l4Takes.f
  repeat' first
      | (with_reducible exact spec_TxnLength.mono _ _ _ _)
      | (with_reducible exact spec_ValidLog.mono _ _ _ _ _ _)
      | (with_reducible exact spec_ValidTxn.mono _ _ _ _)
      | (with_reducible exact LeO.refl _)
      | (with_reducible exact LeO.none _)
      | (with_reducible refine LeO.ite ?_ ?_)
      | (with_reducible refine LeO.bind ?_ (fun _ => ?_))
      | exact spec_TxnLength.mono _ _ _ _
      | exact spec_ValidLog.mono _ _ _ _ _ _
      | exact spec_ValidTxn.mono _ _ _ _
      | exact LeO.none _
      | refine LeO.ite ?_ ?_
      | refine LeO.bind ?_ (fun _ => ?_)
def spec_l4Takes.T3 : Bool × List (List Nat × List Nat) := (true, [([], []), ([0], [0]), ([1], [1]), ([1, 2], [1, 2]), ([3, 1], [3]), ([4], [4]), ([5, 4], [4, 5]), ([4], [4]), ([7, 4], [4, 7]), ([6, 8, 4], [4, 6, 8]), ([4, 9], [4, 9]), ([10, 4], [10]), ([11], [11]), ([12, 11], [11, 12]), ([13, 11], [11, 13]), ([11, 14], [11, 14]), ([15, 11], [15]), ([16], [16]), ([17, 16, 16], [16, 17]), ([16], [16]), ([19, 16], [16, 19]), ([16], [16]), ([21, 16], [16, 21]), ([20, 22, 16], [16, 20, 22]), ([18, 23, 16], [16, 18, 23]), ([16, 24], [16, 24]), ([25, 18, 0, 1, 2, 3, 4, 5, 6, 7, 8, 9, 10, 11, 12, 13, 14, 15, 16, 17, 18, 19, 20, 21, 22, 23, 24, 25], [25])])
def spec_l4Takes.B3 : List Nat := [0, 1, 3, 7, 15, 31, 63, 31, 159, 511, 1023, 2047, 4095, 8191, 16383, 32767, 65535, 131071, 262143, 131071, 655359, 131071, 2228223, 7995391, 16777215, 33554431, 67108863]
theorem spec_l4Takes.tab3 : rtab .any (opsOf Try.f23 3) = spec_l4Takes.T3 := by kernel_rfl
theorem spec_l4Takes.bits3 : waitsOk spec_l4Takes.T3.2 spec_l4Takes.B3 = true := by kernel_rfl
set_option maxHeartbeats 8000000 in
set_option maxRecDepth 100000 in
theorem spec_l4Takes.calls (k : Nat) (a0_0 : Int) (a0_1 : Int) (a0_2 : Int) (a0_3 : Int) (a0_4 : Int) (a1_0 : Int) (A1_1 : Option Addr) (c1_1 : Nat) (l1_1 : List (S61)) (A1_2 : Option Addr) (c1_2 : Nat) (l1_2 : List Int) (r : Bool) (w : World) (hr1_1 : Kd.C k61 w A1_1 l1_1.length l1_1) (hc1_1 : l1_1.length ≤ c1_1) (hr1_2 : Kd.C (Kd.int .i64) w A1_2 l1_2.length l1_2) (hc1_2 : l1_2.length ≤ c1_2) (h : spec_l4Takes.f k a0_0 a0_1 a0_2 a0_3 a0_4 a1_0 l1_1 l1_2 = some r) :
    Calls Try.prog 23 #[.agg #[.int .i64 a0_0, .int .i64 a0_1, .int .i64 a0_2, .int .i64 a0_3, .int .i64 a0_4], .agg #[.int .i64 a1_0, .slice A1_1 l1_1.length c1_1, .slice A1_2 l1_2.length c1_2]] w fun e w' => e = .returned (.bool r) ∧ Below w.heap.size w w' := by
  have hu29 := Try.underlying29
  have hu34 := Try.underlying34
  have HR1_1 := Aside0.mk hr1_1
  have HC1_1 := Aside0.mk hc1_1
  clear hr1_1 hc1_1
  have HR1_2 := Aside0.mk hr1_2
  have HC1_2 := Aside0.mk hc1_2
  clear hr1_2 hc1_2
  have HB := Aside0.mk (Below.refl w.heap.size w)
  have H : ((spec_ValidLog.f k a0_0 a0_1 a0_2 a0_3 a0_4).bind fun t368 => ((spec_ValidTxn.f k a1_0 l1_1 l1_2).bind fun t369 => (if t368 = true then (if t369 = true then (if a0_2 = a1_0 then (if a0_2 < 4294967295 then ((spec_TxnLength.f k a1_0 l1_1 l1_2).bind fun t370 => (some (decide (t370 ≤ (wrap64 (a0_0 - a0_4)))))) else (some false)) else (some false)) else (some false)) else (some false)))) = some r := h
  clear h
  replace H := Option.bind_eq_some_iff.mp H
  obtain ⟨t368, A30, H⟩ := H
  replace H : ((spec_ValidTxn.f k a1_0 l1_1 l1_2).bind fun t369 => (if t368 = true then (if t369 = true then (if a0_2 = a1_0 then (if a0_2 < 4294967295 then ((spec_TxnLength.f k a1_0 l1_1 l1_2).bind fun t370 => (some (decide (t370 ≤ (wrap64 (a0_0 - a0_4)))))) else (some false)) else (some false)) else (some false)) else (some false))) = some r := H
  have A3 := Aside0.mk A30
  clear A30
  replace H := Option.bind_eq_some_iff.mp H
  obtain ⟨t369, A40, H⟩ := H
  replace H : (if t368 = true then (if t369 = true then (if a0_2 = a1_0 then (if a0_2 < 4294967295 then ((spec_TxnLength.f k a1_0 l1_1 l1_2).bind fun t370 => (some (decide (t370 ≤ (wrap64 (a0_0 - a0_4)))))) else (some false)) else (some false)) else (some false)) else (some false)) = some r := H
  have A4 := Aside0.mk A40
  clear A40
  by_cases c5 : t368 = true
  · subst c5
    have H1 : (if t369 = true then (if a0_2 = a1_0 then (if a0_2 < 4294967295 then ((spec_TxnLength.f k a1_0 l1_1 l1_2).bind fun t370 => (some (decide (t370 ≤ (wrap64 (a0_0 - a0_4)))))) else (some false)) else (some false)) else (some false)) = some r := by rw [if_pos rfl] at H; exact H
    clear H
    have H := H1
    clear H1
    by_cases c6 : t369 = true
    · subst c6
      have H1 : (if a0_2 = a1_0 then (if a0_2 < 4294967295 then ((spec_TxnLength.f k a1_0 l1_1 l1_2).bind fun t370 => (some (decide (t370 ≤ (wrap64 (a0_0 - a0_4)))))) else (some false)) else (some false)) = some r := by rw [if_pos rfl] at H; exact H
      clear H
      have H := H1
      clear H1
      by_cases c7 : a0_2 = a1_0
      · rw [if_pos c7] at H
        have c7b0 : (a0_2 == a1_0) = true := beq_iff_eq.mpr c7
        have c7b1 : (a0_2 != a1_0) = false := bne_eq_false_iff_eq.mpr c7
        clear c7
        by_cases c8 : a0_2 < 4294967295
        · rw [if_pos c8] at H
          have c8b0 : decide (a0_2 < 4294967295) = true := decide_eq_true c8
          clear c8
          replace H := Option.bind_eq_some_iff.mp H
          obtain ⟨t370, A90, H⟩ := H
          replace H : (some (decide (t370 ≤ (wrap64 (a0_0 - a0_4))))) = some r := H
          have A9 := Aside0.mk A90
          clear A90
          obtain rfl := Option.some.inj H
          go_enter Try.func23, Try.ntmps23
          try go_wp2_with (first | ((with_reducible refine gate_dst (N := 2) rfl ?_); refine box_event ?hg (N := 2) ?hd (cs := #[.int .i64 a0_0, .int .i64 a0_1, .int .i64 a0_2, .int .i64 a0_3, .int .i64 a0_4]) (t := 29) ?hr ?_; (case hd => rfl); (case hg => rfl); (case hr => first | (go_simp; done) | (go_simp; rfl)); intro gb366 hg w10 hbox hb; have n0_ := Aside0.mk (below_step (Rgn.bq HB.out) hb); have n1_ := Aside0.mk (hbox); have n2_ := Aside0.mk ((by rw [hg]; exact (below_size (Rgn.bq HB.out)) : w.heap.size ≤ gb366)); have n3_ := Aside0.mk ((by rw [hg]; exact (below_size (Rgn.bq HB.out)) : w.heap.size ≤ gb366)); clear HB; have HB := n0_; have BK366 := n1_; have GW366 := n2_; have GE366 := n3_; clear n0_ n1_ n2_ n3_; clear hb hbox hg) | ((with_reducible refine gate_dst (N := 3) rfl ?_); refine box_event ?hg (N := 3) ?hd (cs := #[.int .i64 a1_0, .slice A1_1 l1_1.length c1_1, .slice A1_2 l1_2.length c1_2]) (t := 34) ?hr ?_; (case hd => rfl); (case hg => rfl); (case hr => first | (go_simp; done) | (go_simp; rfl)); intro gb367 hg w11 hbox hb; have n0_ := Aside0.mk (Rgn.bb BK366.out hb); have n1_ := Aside0.mk (below_step (Rgn.bq HB.out) hb); have n2_ := Aside0.mk (hbox); have n3_ := Aside0.mk ((by rw [hg]; exact (below_size (Rgn.bq HB.out)) : w.heap.size ≤ gb367)); have n4_ := Aside0.mk ((by rw [hg]; exact (below_size (Rgn.bq HB.out)) : w.heap.size ≤ gb367)); have n5_ := Aside0.mk ((by rw [hg]; exact Nat.ne_of_lt (blk_lt (g := gb366) (o := .cells #[.int .i64 a0_0, .int .i64 a0_1, .int .i64 a0_2, .int .i64 a0_3, .int .i64 a0_4] 29 (0, 0)) (Rgn.kb BK366.out)) : gb366 ≠ gb367)); have n6_ := Aside0.mk ((by rw [hg]; exact Nat.ne_of_gt (blk_lt (g := gb366) (o := .cells #[.int .i64 a0_0, .int .i64 a0_1, .int .i64 a0_2, .int .i64 a0_3, .int .i64 a0_4] 29 (0, 0)) (Rgn.kb BK366.out)) : gb367 ≠ gb366)); clear BK366; clear HB; have BK366 := n0_; have HB := n1_; have BK367 := n2_; have GW367 := n3_; have GE367 := n4_; have NB366_367 := n5_; have NB367_366 := n6_; clear n0_ n1_ n2_ n3_ n4_ n5_ n6_; clear hb hbox hg; have hnb12 := NB366_367.out; have hnc12 := NB367_366.out; have hcz13_0 : w11.cell? ⟨gb366, 0, none⟩ = some (.int .i64 a0_0) := (blk_cell BK366.out 0).trans rfl; have hcz13_1 : w11.cell? ⟨gb366, 1, none⟩ = some (.int .i64 a0_1) := (blk_cell BK366.out 1).trans rfl; have hcz13_2 : w11.cell? ⟨gb366, 2, none⟩ = some (.int .i64 a0_2) := (blk_cell BK366.out 2).trans rfl; have hcz13_3 : w11.cell? ⟨gb366, 3, none⟩ = some (.int .i64 a0_3) := (blk_cell BK366.out 3).trans rfl; have hcz13_4 : w11.cell? ⟨gb366, 4, none⟩ = some (.int .i64 a0_4) := (blk_cell BK366.out 4).trans rfl; have hfz13_0 := blk_frozen BK366.out 0; have hfz13_1 := blk_frozen BK366.out 1; have hfz13_2 := blk_frozen BK366.out 2; have hfz13_3 := blk_frozen BK366.out 3; have hfz13_4 := blk_frozen BK366.out 4) | ((with_reducible refine gate_callee (f := 41) rfl ?_); refine Rgn.gl (some 8) Try.func41 #[.agg #[.int .i64 a0_0, .int .i64 a0_1, .int .i64 a0_2, .int .i64 a0_3, .int .i64 a0_4]] ?_; (with_reducible refine (spec_ValidLog.calls k a0_0 a0_1 a0_2 a0_3 a0_4 true _ A3.out).mono ?_); rintro e w14 ⟨rfl, hb⟩; refine ⟨_, rfl, ?_⟩; have n0_ := Aside0.mk (Rgn.bb BK366.out hb); have n1_ := Aside0.mk (Rgn.bb BK367.out hb); have n2_ := Aside0.mk (below_step (Rgn.bq HB.out) hb); clear BK366; clear BK367; clear HB; have BK366 := n0_; have BK367 := n1_; have HB := n2_; clear n0_ n1_ n2_; (try clear hb); (try clear hb2); (try clear hk); (try clear hi); have hcz15_0 : w14.cell? ⟨gb367, 0, none⟩ = some (.int .i64 a1_0) := (blk_cell BK367.out 0).trans rfl; have hcz15_1 : w14.cell? ⟨gb367, 1, none⟩ = some (.slice A1_1 l1_1.length c1_1) := (blk_cell BK367.out 1).trans rfl; have hcz15_2 : w14.cell? ⟨gb367, 2, none⟩ = some (.slice A1_2 l1_2.length c1_2) := (blk_cell BK367.out 2).trans rfl; have hfz15_0 := blk_frozen BK367.out 0; have hfz15_1 := blk_frozen BK367.out 1; have hfz15_2 := blk_frozen BK367.out 2) | ((with_reducible refine gate_callee (f := 42) rfl ?_); refine Rgn.gl (some 10) Try.func42 #[.agg #[.int .i64 a1_0, .slice A1_1 l1_1.length c1_1, .slice A1_2 l1_2.length c1_2]] ?_; (with_reducible refine (spec_ValidTxn.calls k a1_0 _ _ l1_1 _ _ l1_2 true _ ?side1 ?side2 ?side3 ?side4 A4.out).mono ?_); (case side1 => exact Rgn.cq (Kd.C_below HR1_1.out HB.out)); (case side2 => exact HC1_1.out); (case side3 => exact Rgn.cq (Kd.C_below HR1_2.out HB.out)); (case side4 => exact HC1_2.out); rintro e w16 ⟨rfl, hb⟩; refine ⟨_, rfl, ?_⟩; have n0_ := Aside0.mk (Rgn.bb BK366.out hb); have n1_ := Aside0.mk (Rgn.bb BK367.out hb); have n2_ := Aside0.mk (below_step (Rgn.bq HB.out) hb); clear BK366; clear BK367; clear HB; have BK366 := n0_; have BK367 := n1_; have HB := n2_; clear n0_ n1_ n2_; (try clear hb); (try clear hb2); (try clear hk); (try clear hi)))
          have n0_ := Aside0.mk (blk_drew BK366.out)
          have n1_ := Aside0.mk (blk_drew BK367.out)
          have n2_ := Aside0.mk (below_drew1 HB.out)
          clear BK366
          clear BK367
          clear HB
          have BK366 := n0_
          have BK367 := n1_
          have HB := n2_
          clear n0_ n1_ n2_
          refine start_ (n := 27) (S := fun w' => w'.cell? ⟨gb366, 0, none⟩ = some (.int .i64 a0_0) ∧ w'.cell? ⟨gb366, 1, none⟩ = some (.int .i64 a0_1) ∧ w'.cell? ⟨gb366, 2, none⟩ = some (.int .i64 a0_2) ∧ w'.cell? ⟨gb366, 3, none⟩ = some (.int .i64 a0_3) ∧ w'.cell? ⟨gb366, 4, none⟩ = some (.int .i64 a0_4) ∧ w'.cell? ⟨gb367, 0, none⟩ = some (.int .i64 a1_0) ∧ w'.cell? ⟨gb367, 1, none⟩ = some (.slice A1_1 l1_1.length c1_1) ∧ w'.cell? ⟨gb367, 2, none⟩ = some (.slice A1_2 l1_2.length c1_2)) (ds := []) #[false, false, false, false, false, false, false, false, false, false, false, false, false, false, false, false, false, false, false, false, false, false, false, false, false, false, false] (by kernel_rfl) rfl rfl ⟨(blk_cell BK366.out 0).trans rfl, (blk_cell BK366.out 1).trans rfl, (blk_cell BK366.out 2).trans rfl, (blk_cell BK366.out 3).trans rfl, (blk_cell BK366.out 4).trans rfl, (blk_cell BK367.out 0).trans rfl, (blk_cell BK367.out 1).trans rfl, (blk_cell BK367.out 2).trans rfl⟩ (fun hHeld => ?_); refine with_tabW spec_l4Takes.tab3 spec_l4Takes.bits3 (fun HT_ HW_ => ?_)
          generalize w16.drew = w17 at BK366 BK367 HB hHeld ⊢
          refine Rgn.pu HT_.out 0 11 ?_
          refine Rgn.pu HT_.out 1 12 ?_
          refine Rgn.pu HT_.out 2 13 ?_
          refine Rgn.pu HT_.out 3 14 ?_
          refine Rgn.pu HT_.out 4 15 ?_
          refine Rgn.pu HT_.out 5 16 ?_
          refine Rgn.pu HT_.out 7 18 ?_
          refine Rgn.tk HT_.out HW_.out 6 17 hHeld ?_
          refine Rgn.tk HT_.out HW_.out 8 19 hHeld ?_
          refine Rgn.pu HT_.out 9 20 ?_
          refine Rgn.pu HT_.out 10 21 ?_
          refine Rgn.pu HT_.out 11 22 ?_
          refine Rgn.pu HT_.out 12 23 ?_
          refine Rgn.tk HT_.out HW_.out 13 24 hHeld ?_
          refine Rgn.pu HT_.out 14 25 ?_
          refine Rgn.pu HT_.out 15 26 ?_
          refine Rgn.pu HT_.out 16 27 ?_
          refine Rgn.pu HT_.out 19 30 ?_
          refine Rgn.pu HT_.out 21 32 ?_
          refine Rgn.tk HT_.out HW_.out 17 28 hHeld ?_
          refine Rgn.tk HT_.out HW_.out 20 31 hHeld ?_
          refine Rgn.tk HT_.out HW_.out 22 33 hHeld ?_
          refine Rgn.pu HT_.out 23 34 ?_
          refine one_ (i := 18) (N := some 29) #[true, true, true, true, true, true, true, true, true, true, true, true, true, true, true, true, true, true, true, true, true, true, true, true, false, false, false] rfl rfl (one_of HT_.out (by kernel_rfl)) (by decide) (fun K hK => ?_)
          refine Rgn.gs Try.func24 #[.agg #[.int .i64 a1_0, .slice A1_1 l1_1.length c1_1, .slice A1_2 l1_2.length c1_2]] ?_
          with_reducible refine (spec_TxnLength.calls k a1_0 _ _ l1_1 _ _ l1_2 t370 _ ?side1 ?side2 ?side3 ?side4 A9.out).mono ?_
          (case side1 => exact Rgn.cq (Kd.C_below HR1_1.out HB.out))
          (case side2 => exact HC1_1.out)
          (case side3 => exact Rgn.cq (Kd.C_below HR1_2.out HB.out))
          (case side4 => exact HC1_2.out)
          rintro e w18 ⟨rfl, hb⟩
          refine ⟨_, rfl, ?_⟩
          have n0_ := Aside0.mk (Rgn.bb BK366.out hb)
          have n1_ := Aside0.mk (Rgn.bb BK367.out hb)
          have n2_ := Aside0.mk (below_step (Rgn.bq HB.out) hb)
          clear BK366
          clear BK367
          clear HB
          have BK366 := n0_
          have BK367 := n1_
          have HB := n2_
          clear n0_ n1_ n2_
          (try clear hb)
          (try clear hb2)
          (try clear hk)
          (try clear hi)
          refine hK.out _ _ ⟨(blk_cell BK366.out 0).trans rfl, (blk_cell BK366.out 1).trans rfl, (blk_cell BK366.out 2).trans rfl, (blk_cell BK366.out 3).trans rfl, (blk_cell BK366.out 4).trans rfl, (blk_cell BK367.out 0).trans rfl, (blk_cell BK367.out 1).trans rfl, (blk_cell BK367.out 2).trans rfl⟩ (fun hHeld => ?_)
          clear hK K
          refine norm_ (a' := ?_) ?_ ?_
          rotate_left
          · show Act.put _ (some 29) _ = _
            simp only [Act.put, List.setIfInBounds_toArray, List.set_cons_zero, List.set_cons_succ, i64_w, i32_w]
            rfl
          refine Rgn.pu HT_.out 24 35 ?_
          refine Rgn.pu HT_.out 25 36 ?_
          refine Rgn.pu HT_.out 26 4 ?_
          refine done_ (done_of HT_.out (by kernel_rfl)) ?_
          try go_wp2
          go_ret
          exact ⟨by first | rfl | (simp [errW_none, errW_some] <;> rfl) | (simp [*, errW_none, errW_some] <;> rfl), Rgn.bq HB.out⟩
        · rw [if_neg c8] at H
          have c8b0 : decide (a0_2 < 4294967295) = false := decide_eq_false c8
          clear c8
          obtain rfl := Option.some.inj H
          go_enter Try.func23, Try.ntmps23
          try go_wp2_with (first | ((with_reducible refine gate_dst (N := 2) rfl ?_); refine box_event ?hg (N := 2) ?hd (cs := #[.int .i64 a0_0, .int .i64 a0_1, .int .i64 a0_2, .int .i64 a0_3, .int .i64 a0_4]) (t := 29) ?hr ?_; (case hd => rfl); (case hg => rfl); (case hr => first | (go_simp; done) | (go_simp; rfl)); intro gb366 hg w19 hbox hb; have n0_ := Aside0.mk (below_step (Rgn.bq HB.out) hb); have n1_ := Aside0.mk (hbox); have n2_ := Aside0.mk ((by rw [hg]; exact (below_size (Rgn.bq HB.out)) : w.heap.size ≤ gb366)); have n3_ := Aside0.mk ((by rw [hg]; exact (below_size (Rgn.bq HB.out)) : w.heap.size ≤ gb366)); clear HB; have HB := n0_; have BK366 := n1_; have GW366 := n2_; have GE366 := n3_; clear n0_ n1_ n2_ n3_; clear hb hbox hg) | ((with_reducible refine gate_dst (N := 3) rfl ?_); refine box_event ?hg (N := 3) ?hd (cs := #[.int .i64 a1_0, .slice A1_1 l1_1.length c1_1, .slice A1_2 l1_2.length c1_2]) (t := 34) ?hr ?_; (case hd => rfl); (case hg => rfl); (case hr => first | (go_simp; done) | (go_simp; rfl)); intro gb367 hg w20 hbox hb; have n0_ := Aside0.mk (Rgn.bb BK366.out hb); have n1_ := Aside0.mk (below_step (Rgn.bq HB.out) hb); have n2_ := Aside0.mk (hbox); have n3_ := Aside0.mk ((by rw [hg]; exact (below_size (Rgn.bq HB.out)) : w.heap.size ≤ gb367)); have n4_ := Aside0.mk ((by rw [hg]; exact (below_size (Rgn.bq HB.out)) : w.heap.size ≤ gb367)); have n5_ := Aside0.mk ((by rw [hg]; exact Nat.ne_of_lt (blk_lt (g := gb366) (o := .cells #[.int .i64 a0_0, .int .i64 a0_1, .int .i64 a0_2, .int .i64 a0_3, .int .i64 a0_4] 29 (0, 0)) (Rgn.kb BK366.out)) : gb366 ≠ gb367)); have n6_ := Aside0.mk ((by rw [hg]; exact Nat.ne_of_gt (blk_lt (g := gb366) (o := .cells #[.int .i64 a0_0, .int .i64 a0_1, .int .i64 a0_2, .int .i64 a0_3, .int .i64 a0_4] 29 (0, 0)) (Rgn.kb BK366.out)) : gb367 ≠ gb366)); clear BK366; clear HB; have BK366 := n0_; have HB := n1_; have BK367 := n2_; have GW367 := n3_; have GE367 := n4_; have NB366_367 := n5_; have NB367_366 := n6_; clear n0_ n1_ n2_ n3_ n4_ n5_ n6_; clear hb hbox hg; have hnb21 := NB366_367.out; have hnc21 := NB367_366.out; have hcz22_0 : w20.cell? ⟨gb366, 0, none⟩ = some (.int .i64 a0_0) := (blk_cell BK366.out 0).trans rfl; have hcz22_1 : w20.cell? ⟨gb366, 1, none⟩ = some (.int .i64 a0_1) := (blk_cell BK366.out 1).trans rfl; have hcz22_2 : w20.cell? ⟨gb366, 2, none⟩ = some (.int .i64 a0_2) := (blk_cell BK366.out 2).trans rfl; have hcz22_3 : w20.cell? ⟨gb366, 3, none⟩ = some (.int .i64 a0_3) := (blk_cell BK366.out 3).trans rfl; have hcz22_4 : w20.cell? ⟨gb366, 4, none⟩ = some (.int .i64 a0_4) := (blk_cell BK366.out 4).trans rfl; have hfz22_0 := blk_frozen BK366.out 0; have hfz22_1 := blk_frozen BK366.out 1; have hfz22_2 := blk_frozen BK366.out 2; have hfz22_3 := blk_frozen BK366.out 3; have hfz22_4 := blk_frozen BK366.out 4) | ((with_reducible refine gate_callee (f := 41) rfl ?_); refine Rgn.gl (some 8) Try.func41 #[.agg #[.int .i64 a0_0, .int .i64 a0_1, .int .i64 a0_2, .int .i64 a0_3, .int .i64 a0_4]] ?_; (with_reducible refine (spec_ValidLog.calls k a0_0 a0_1 a0_2 a0_3 a0_4 true _ A3.out).mono ?_); rintro e w23 ⟨rfl, hb⟩; refine ⟨_, rfl, ?_⟩; have n0_ := Aside0.mk (Rgn.bb BK366.out hb); have n1_ := Aside0.mk (Rgn.bb BK367.out hb); have n2_ := Aside0.mk (below_step (Rgn.bq HB.out) hb); clear BK366; clear BK367; clear HB; have BK366 := n0_; have BK367 := n1_; have HB := n2_; clear n0_ n1_ n2_; (try clear hb); (try clear hb2); (try clear hk); (try clear hi); have hcz24_0 : w23.cell? ⟨gb367, 0, none⟩ = some (.int .i64 a1_0) := (blk_cell BK367.out 0).trans rfl; have hcz24_1 : w23.cell? ⟨gb367, 1, none⟩ = some (.slice A1_1 l1_1.length c1_1) := (blk_cell BK367.out 1).trans rfl; have hcz24_2 : w23.cell? ⟨gb367, 2, none⟩ = some (.slice A1_2 l1_2.length c1_2) := (blk_cell BK367.out 2).trans rfl; have hfz24_0 := blk_frozen BK367.out 0; have hfz24_1 := blk_frozen BK367.out 1; have hfz24_2 := blk_frozen BK367.out 2) | ((with_reducible refine gate_callee (f := 42) rfl ?_); refine Rgn.gl (some 10) Try.func42 #[.agg #[.int .i64 a1_0, .slice A1_1 l1_1.length c1_1, .slice A1_2 l1_2.length c1_2]] ?_; (with_reducible refine (spec_ValidTxn.calls k a1_0 _ _ l1_1 _ _ l1_2 true _ ?side1 ?side2 ?side3 ?side4 A4.out).mono ?_); (case side1 => exact Rgn.cq (Kd.C_below HR1_1.out HB.out)); (case side2 => exact HC1_1.out); (case side3 => exact Rgn.cq (Kd.C_below HR1_2.out HB.out)); (case side4 => exact HC1_2.out); rintro e w25 ⟨rfl, hb⟩; refine ⟨_, rfl, ?_⟩; have n0_ := Aside0.mk (Rgn.bb BK366.out hb); have n1_ := Aside0.mk (Rgn.bb BK367.out hb); have n2_ := Aside0.mk (below_step (Rgn.bq HB.out) hb); clear BK366; clear BK367; clear HB; have BK366 := n0_; have BK367 := n1_; have HB := n2_; clear n0_ n1_ n2_; (try clear hb); (try clear hb2); (try clear hk); (try clear hi)))
          have n0_ := Aside0.mk (blk_drew BK366.out)
          have n1_ := Aside0.mk (blk_drew BK367.out)
          have n2_ := Aside0.mk (below_drew1 HB.out)
          clear BK366
          clear BK367
          clear HB
          have BK366 := n0_
          have BK367 := n1_
          have HB := n2_
          clear n0_ n1_ n2_
          refine start_ (n := 27) (S := fun w' => w'.cell? ⟨gb366, 0, none⟩ = some (.int .i64 a0_0) ∧ w'.cell? ⟨gb366, 1, none⟩ = some (.int .i64 a0_1) ∧ w'.cell? ⟨gb366, 2, none⟩ = some (.int .i64 a0_2) ∧ w'.cell? ⟨gb366, 3, none⟩ = some (.int .i64 a0_3) ∧ w'.cell? ⟨gb366, 4, none⟩ = some (.int .i64 a0_4) ∧ w'.cell? ⟨gb367, 0, none⟩ = some (.int .i64 a1_0) ∧ w'.cell? ⟨gb367, 1, none⟩ = some (.slice A1_1 l1_1.length c1_1) ∧ w'.cell? ⟨gb367, 2, none⟩ = some (.slice A1_2 l1_2.length c1_2)) (ds := []) #[false, false, false, false, false, false, false, false, false, false, false, false, false, false, false, false, false, false, false, false, false, false, false, false, false, false, false] (by kernel_rfl) rfl rfl ⟨(blk_cell BK366.out 0).trans rfl, (blk_cell BK366.out 1).trans rfl, (blk_cell BK366.out 2).trans rfl, (blk_cell BK366.out 3).trans rfl, (blk_cell BK366.out 4).trans rfl, (blk_cell BK367.out 0).trans rfl, (blk_cell BK367.out 1).trans rfl, (blk_cell BK367.out 2).trans rfl⟩ (fun hHeld => ?_); refine with_tabW spec_l4Takes.tab3 spec_l4Takes.bits3 (fun HT_ HW_ => ?_)
          generalize w25.drew = w26 at BK366 BK367 HB hHeld ⊢
          refine Rgn.pu HT_.out 0 11 ?_
          refine Rgn.pu HT_.out 1 12 ?_
          refine Rgn.pu HT_.out 2 13 ?_
          refine Rgn.pu HT_.out 3 14 ?_
          refine Rgn.pu HT_.out 4 15 ?_
          refine Rgn.pu HT_.out 5 16 ?_
          refine Rgn.pu HT_.out 7 18 ?_
          refine Rgn.tk HT_.out HW_.out 6 17 hHeld ?_
          refine Rgn.tk HT_.out HW_.out 8 19 hHeld ?_
          refine Rgn.pu HT_.out 9 20 ?_
          refine Rgn.pu HT_.out 10 21 ?_
          refine Rgn.pu HT_.out 11 22 ?_
          refine Rgn.pu HT_.out 12 23 ?_
          refine Rgn.tk HT_.out HW_.out 13 24 hHeld ?_
          refine Rgn.pu HT_.out 14 25 ?_
          refine Rgn.pu HT_.out 15 26 ?_
          refine Rgn.pu HT_.out 16 27 ?_
          refine Rgn.pn HT_.out 17 28 ?_
          refine Rgn.pn HT_.out 18 29 ?_
          refine Rgn.pn HT_.out 19 30 ?_
          refine Rgn.pn HT_.out 20 31 ?_
          refine Rgn.pn HT_.out 21 32 ?_
          refine Rgn.pn HT_.out 22 33 ?_
          refine Rgn.pn HT_.out 23 34 ?_
          refine Rgn.pn HT_.out 24 35 ?_
          refine Rgn.pu HT_.out 25 36 ?_
          refine Rgn.pu HT_.out 26 4 ?_
          refine done_ (done_of HT_.out (by kernel_rfl)) ?_
          try go_wp2
          go_ret
          exact ⟨by first | rfl | (simp [errW_none, errW_some] <;> rfl) | (simp [*, errW_none, errW_some] <;> rfl), Rgn.bq HB.out⟩
      · rw [if_neg c7] at H
        have c7b0 : (a0_2 == a1_0) = false := beq_eq_false_iff_ne.mpr c7
        have c7b1 : (a0_2 != a1_0) = true := bne_iff_ne.mpr c7
        obtain rfl := Option.some.inj H
        go_enter Try.func23, Try.ntmps23
        try go_wp2_with (first | ((with_reducible refine gate_dst (N := 2) rfl ?_); refine box_event ?hg (N := 2) ?hd (cs := #[.int .i64 a0_0, .int .i64 a0_1, .int .i64 a0_2, .int .i64 a0_3, .int .i64 a0_4]) (t := 29) ?hr ?_; (case hd => rfl); (case hg => rfl); (case hr => first | (go_simp; done) | (go_simp; rfl)); intro gb366 hg w27 hbox hb; have n0_ := Aside0.mk (below_step (Rgn.bq HB.out) hb); have n1_ := Aside0.mk (hbox); have n2_ := Aside0.mk ((by rw [hg]; exact (below_size (Rgn.bq HB.out)) : w.heap.size ≤ gb366)); have n3_ := Aside0.mk ((by rw [hg]; exact (below_size (Rgn.bq HB.out)) : w.heap.size ≤ gb366)); clear HB; have HB := n0_; have BK366 := n1_; have GW366 := n2_; have GE366 := n3_; clear n0_ n1_ n2_ n3_; clear hb hbox hg) | ((with_reducible refine gate_dst (N := 3) rfl ?_); refine box_event ?hg (N := 3) ?hd (cs := #[.int .i64 a1_0, .slice A1_1 l1_1.length c1_1, .slice A1_2 l1_2.length c1_2]) (t := 34) ?hr ?_; (case hd => rfl); (case hg => rfl); (case hr => first | (go_simp; done) | (go_simp; rfl)); intro gb367 hg w28 hbox hb; have n0_ := Aside0.mk (Rgn.bb BK366.out hb); have n1_ := Aside0.mk (below_step (Rgn.bq HB.out) hb); have n2_ := Aside0.mk (hbox); have n3_ := Aside0.mk ((by rw [hg]; exact (below_size (Rgn.bq HB.out)) : w.heap.size ≤ gb367)); have n4_ := Aside0.mk ((by rw [hg]; exact (below_size (Rgn.bq HB.out)) : w.heap.size ≤ gb367)); have n5_ := Aside0.mk ((by rw [hg]; exact Nat.ne_of_lt (blk_lt (g := gb366) (o := .cells #[.int .i64 a0_0, .int .i64 a0_1, .int .i64 a0_2, .int .i64 a0_3, .int .i64 a0_4] 29 (0, 0)) (Rgn.kb BK366.out)) : gb366 ≠ gb367)); have n6_ := Aside0.mk ((by rw [hg]; exact Nat.ne_of_gt (blk_lt (g := gb366) (o := .cells #[.int .i64 a0_0, .int .i64 a0_1, .int .i64 a0_2, .int .i64 a0_3, .int .i64 a0_4] 29 (0, 0)) (Rgn.kb BK366.out)) : gb367 ≠ gb366)); clear BK366; clear HB; have BK366 := n0_; have HB := n1_; have BK367 := n2_; have GW367 := n3_; have GE367 := n4_; have NB366_367 := n5_; have NB367_366 := n6_; clear n0_ n1_ n2_ n3_ n4_ n5_ n6_; clear hb hbox hg; have hnb29 := NB366_367.out; have hnc29 := NB367_366.out; have hcz30_0 : w28.cell? ⟨gb366, 0, none⟩ = some (.int .i64 a0_0) := (blk_cell BK366.out 0).trans rfl; have hcz30_1 : w28.cell? ⟨gb366, 1, none⟩ = some (.int .i64 a0_1) := (blk_cell BK366.out 1).trans rfl; have hcz30_2 : w28.cell? ⟨gb366, 2, none⟩ = some (.int .i64 a0_2) := (blk_cell BK366.out 2).trans rfl; have hcz30_3 : w28.cell? ⟨gb366, 3, none⟩ = some (.int .i64 a0_3) := (blk_cell BK366.out 3).trans rfl; have hcz30_4 : w28.cell? ⟨gb366, 4, none⟩ = some (.int .i64 a0_4) := (blk_cell BK366.out 4).trans rfl; have hfz30_0 := blk_frozen BK366.out 0; have hfz30_1 := blk_frozen BK366.out 1; have hfz30_2 := blk_frozen BK366.out 2; have hfz30_3 := blk_frozen BK366.out 3; have hfz30_4 := blk_frozen BK366.out 4) | ((with_reducible refine gate_callee (f := 41) rfl ?_); refine Rgn.gl (some 8) Try.func41 #[.agg #[.int .i64 a0_0, .int .i64 a0_1, .int .i64 a0_2, .int .i64 a0_3, .int .i64 a0_4]] ?_; (with_reducible refine (spec_ValidLog.calls k a0_0 a0_1 a0_2 a0_3 a0_4 true _ A3.out).mono ?_); rintro e w31 ⟨rfl, hb⟩; refine ⟨_, rfl, ?_⟩; have n0_ := Aside0.mk (Rgn.bb BK366.out hb); have n1_ := Aside0.mk (Rgn.bb BK367.out hb); have n2_ := Aside0.mk (below_step (Rgn.bq HB.out) hb); clear BK366; clear BK367; clear HB; have BK366 := n0_; have BK367 := n1_; have HB := n2_; clear n0_ n1_ n2_; (try clear hb); (try clear hb2); (try clear hk); (try clear hi); have hcz32_0 : w31.cell? ⟨gb367, 0, none⟩ = some (.int .i64 a1_0) := (blk_cell BK367.out 0).trans rfl; have hcz32_1 : w31.cell? ⟨gb367, 1, none⟩ = some (.slice A1_1 l1_1.length c1_1) := (blk_cell BK367.out 1).trans rfl; have hcz32_2 : w31.cell? ⟨gb367, 2, none⟩ = some (.slice A1_2 l1_2.length c1_2) := (blk_cell BK367.out 2).trans rfl; have hfz32_0 := blk_frozen BK367.out 0; have hfz32_1 := blk_frozen BK367.out 1; have hfz32_2 := blk_frozen BK367.out 2) | ((with_reducible refine gate_callee (f := 42) rfl ?_); refine Rgn.gl (some 10) Try.func42 #[.agg #[.int .i64 a1_0, .slice A1_1 l1_1.length c1_1, .slice A1_2 l1_2.length c1_2]] ?_; (with_reducible refine (spec_ValidTxn.calls k a1_0 _ _ l1_1 _ _ l1_2 true _ ?side1 ?side2 ?side3 ?side4 A4.out).mono ?_); (case side1 => exact Rgn.cq (Kd.C_below HR1_1.out HB.out)); (case side2 => exact HC1_1.out); (case side3 => exact Rgn.cq (Kd.C_below HR1_2.out HB.out)); (case side4 => exact HC1_2.out); rintro e w33 ⟨rfl, hb⟩; refine ⟨_, rfl, ?_⟩; have n0_ := Aside0.mk (Rgn.bb BK366.out hb); have n1_ := Aside0.mk (Rgn.bb BK367.out hb); have n2_ := Aside0.mk (below_step (Rgn.bq HB.out) hb); clear BK366; clear BK367; clear HB; have BK366 := n0_; have BK367 := n1_; have HB := n2_; clear n0_ n1_ n2_; (try clear hb); (try clear hb2); (try clear hk); (try clear hi)))
        have n0_ := Aside0.mk (blk_drew BK366.out)
        have n1_ := Aside0.mk (blk_drew BK367.out)
        have n2_ := Aside0.mk (below_drew1 HB.out)
        clear BK366
        clear BK367
        clear HB
        have BK366 := n0_
        have BK367 := n1_
        have HB := n2_
        clear n0_ n1_ n2_
        refine start_ (n := 27) (S := fun w' => w'.cell? ⟨gb366, 0, none⟩ = some (.int .i64 a0_0) ∧ w'.cell? ⟨gb366, 1, none⟩ = some (.int .i64 a0_1) ∧ w'.cell? ⟨gb366, 2, none⟩ = some (.int .i64 a0_2) ∧ w'.cell? ⟨gb366, 3, none⟩ = some (.int .i64 a0_3) ∧ w'.cell? ⟨gb366, 4, none⟩ = some (.int .i64 a0_4) ∧ w'.cell? ⟨gb367, 0, none⟩ = some (.int .i64 a1_0) ∧ w'.cell? ⟨gb367, 1, none⟩ = some (.slice A1_1 l1_1.length c1_1) ∧ w'.cell? ⟨gb367, 2, none⟩ = some (.slice A1_2 l1_2.length c1_2)) (ds := []) #[false, false, false, false, false, false, false, false, false, false, false, false, false, false, false, false, false, false, false, false, false, false, false, false, false, false, false] (by kernel_rfl) rfl rfl ⟨(blk_cell BK366.out 0).trans rfl, (blk_cell BK366.out 1).trans rfl, (blk_cell BK366.out 2).trans rfl, (blk_cell BK366.out 3).trans rfl, (blk_cell BK366.out 4).trans rfl, (blk_cell BK367.out 0).trans rfl, (blk_cell BK367.out 1).trans rfl, (blk_cell BK367.out 2).trans rfl⟩ (fun hHeld => ?_); refine with_tabW spec_l4Takes.tab3 spec_l4Takes.bits3 (fun HT_ HW_ => ?_)
        generalize w33.drew = w34 at BK366 BK367 HB hHeld ⊢
        refine Rgn.pu HT_.out 0 11 ?_
        refine Rgn.pu HT_.out 1 12 ?_
        refine Rgn.pu HT_.out 2 13 ?_
        refine Rgn.pu HT_.out 3 14 ?_
        refine Rgn.pu HT_.out 4 15 ?_
        refine Rgn.pu HT_.out 5 16 ?_
        refine Rgn.pu HT_.out 7 18 ?_
        refine Rgn.tk HT_.out HW_.out 6 17 hHeld ?_
        refine Rgn.tk HT_.out HW_.out 8 19 hHeld ?_
        refine Rgn.pu HT_.out 9 20 ?_
        refine Rgn.pu HT_.out 10 21 ?_
        refine Rgn.pu HT_.out 11 22 ?_
        refine Rgn.pn HT_.out 12 23 ?_
        refine Rgn.pn HT_.out 13 24 ?_
        refine Rgn.pn HT_.out 14 25 ?_
        refine Rgn.pu HT_.out 15 26 ?_
        refine Rgn.pu HT_.out 16 27 ?_
        refine Rgn.pn HT_.out 17 28 ?_
        refine Rgn.pn HT_.out 18 29 ?_
        refine Rgn.pn HT_.out 19 30 ?_
        refine Rgn.pn HT_.out 20 31 ?_
        refine Rgn.pn HT_.out 21 32 ?_
        refine Rgn.pn HT_.out 22 33 ?_
        refine Rgn.pn HT_.out 23 34 ?_
        refine Rgn.pn HT_.out 24 35 ?_
        refine Rgn.pu HT_.out 25 36 ?_
        refine Rgn.pu HT_.out 26 4 ?_
        refine done_ (done_of HT_.out (by kernel_rfl)) ?_
        try go_wp2
        go_ret
        exact ⟨by first | rfl | (simp [errW_none, errW_some] <;> rfl) | (simp [*, errW_none, errW_some] <;> rfl), Rgn.bq HB.out⟩
    · replace c6 := Bool.eq_false_iff.mpr c6
      subst c6
      have H1 : (some false) = some r := by rw [if_neg (show ¬ (false = true) by decide)] at H; exact H
      clear H
      have H := H1
      clear H1
      obtain rfl := Option.some.inj H
      go_enter Try.func23, Try.ntmps23
      try go_wp2_with (first | ((with_reducible refine gate_dst (N := 2) rfl ?_); refine box_event ?hg (N := 2) ?hd (cs := #[.int .i64 a0_0, .int .i64 a0_1, .int .i64 a0_2, .int .i64 a0_3, .int .i64 a0_4]) (t := 29) ?hr ?_; (case hd => rfl); (case hg => rfl); (case hr => first | (go_simp; done) | (go_simp; rfl)); intro gb366 hg w35 hbox hb; have n0_ := Aside0.mk (below_step (Rgn.bq HB.out) hb); have n1_ := Aside0.mk (hbox); have n2_ := Aside0.mk ((by rw [hg]; exact (below_size (Rgn.bq HB.out)) : w.heap.size ≤ gb366)); have n3_ := Aside0.mk ((by rw [hg]; exact (below_size (Rgn.bq HB.out)) : w.heap.size ≤ gb366)); clear HB; have HB := n0_; have BK366 := n1_; have GW366 := n2_; have GE366 := n3_; clear n0_ n1_ n2_ n3_; clear hb hbox hg) | ((with_reducible refine gate_dst (N := 3) rfl ?_); refine box_event ?hg (N := 3) ?hd (cs := #[.int .i64 a1_0, .slice A1_1 l1_1.length c1_1, .slice A1_2 l1_2.length c1_2]) (t := 34) ?hr ?_; (case hd => rfl); (case hg => rfl); (case hr => first | (go_simp; done) | (go_simp; rfl)); intro gb367 hg w36 hbox hb; have n0_ := Aside0.mk (Rgn.bb BK366.out hb); have n1_ := Aside0.mk (below_step (Rgn.bq HB.out) hb); have n2_ := Aside0.mk (hbox); have n3_ := Aside0.mk ((by rw [hg]; exact (below_size (Rgn.bq HB.out)) : w.heap.size ≤ gb367)); have n4_ := Aside0.mk ((by rw [hg]; exact (below_size (Rgn.bq HB.out)) : w.heap.size ≤ gb367)); have n5_ := Aside0.mk ((by rw [hg]; exact Nat.ne_of_lt (blk_lt (g := gb366) (o := .cells #[.int .i64 a0_0, .int .i64 a0_1, .int .i64 a0_2, .int .i64 a0_3, .int .i64 a0_4] 29 (0, 0)) (Rgn.kb BK366.out)) : gb366 ≠ gb367)); have n6_ := Aside0.mk ((by rw [hg]; exact Nat.ne_of_gt (blk_lt (g := gb366) (o := .cells #[.int .i64 a0_0, .int .i64 a0_1, .int .i64 a0_2, .int .i64 a0_3, .int .i64 a0_4] 29 (0, 0)) (Rgn.kb BK366.out)) : gb367 ≠ gb366)); clear BK366; clear HB; have BK366 := n0_; have HB := n1_; have BK367 := n2_; have GW367 := n3_; have GE367 := n4_; have NB366_367 := n5_; have NB367_366 := n6_; clear n0_ n1_ n2_ n3_ n4_ n5_ n6_; clear hb hbox hg; have hnb37 := NB366_367.out; have hnc37 := NB367_366.out; have hcz38_0 : w36.cell? ⟨gb366, 0, none⟩ = some (.int .i64 a0_0) := (blk_cell BK366.out 0).trans rfl; have hcz38_1 : w36.cell? ⟨gb366, 1, none⟩ = some (.int .i64 a0_1) := (blk_cell BK366.out 1).trans rfl; have hcz38_2 : w36.cell? ⟨gb366, 2, none⟩ = some (.int .i64 a0_2) := (blk_cell BK366.out 2).trans rfl; have hcz38_3 : w36.cell? ⟨gb366, 3, none⟩ = some (.int .i64 a0_3) := (blk_cell BK366.out 3).trans rfl; have hcz38_4 : w36.cell? ⟨gb366, 4, none⟩ = some (.int .i64 a0_4) := (blk_cell BK366.out 4).trans rfl; have hfz38_0 := blk_frozen BK366.out 0; have hfz38_1 := blk_frozen BK366.out 1; have hfz38_2 := blk_frozen BK366.out 2; have hfz38_3 := blk_frozen BK366.out 3; have hfz38_4 := blk_frozen BK366.out 4) | ((with_reducible refine gate_callee (f := 41) rfl ?_); refine Rgn.gl (some 8) Try.func41 #[.agg #[.int .i64 a0_0, .int .i64 a0_1, .int .i64 a0_2, .int .i64 a0_3, .int .i64 a0_4]] ?_; (with_reducible refine (spec_ValidLog.calls k a0_0 a0_1 a0_2 a0_3 a0_4 true _ A3.out).mono ?_); rintro e w39 ⟨rfl, hb⟩; refine ⟨_, rfl, ?_⟩; have n0_ := Aside0.mk (Rgn.bb BK366.out hb); have n1_ := Aside0.mk (Rgn.bb BK367.out hb); have n2_ := Aside0.mk (below_step (Rgn.bq HB.out) hb); clear BK366; clear BK367; clear HB; have BK366 := n0_; have BK367 := n1_; have HB := n2_; clear n0_ n1_ n2_; (try clear hb); (try clear hb2); (try clear hk); (try clear hi); have hcz40_0 : w39.cell? ⟨gb367, 0, none⟩ = some (.int .i64 a1_0) := (blk_cell BK367.out 0).trans rfl; have hcz40_1 : w39.cell? ⟨gb367, 1, none⟩ = some (.slice A1_1 l1_1.length c1_1) := (blk_cell BK367.out 1).trans rfl; have hcz40_2 : w39.cell? ⟨gb367, 2, none⟩ = some (.slice A1_2 l1_2.length c1_2) := (blk_cell BK367.out 2).trans rfl; have hfz40_0 := blk_frozen BK367.out 0; have hfz40_1 := blk_frozen BK367.out 1; have hfz40_2 := blk_frozen BK367.out 2) | ((with_reducible refine gate_callee (f := 42) rfl ?_); refine Rgn.gl (some 10) Try.func42 #[.agg #[.int .i64 a1_0, .slice A1_1 l1_1.length c1_1, .slice A1_2 l1_2.length c1_2]] ?_; (with_reducible refine (spec_ValidTxn.calls k a1_0 _ _ l1_1 _ _ l1_2 false _ ?side1 ?side2 ?side3 ?side4 A4.out).mono ?_); (case side1 => exact Rgn.cq (Kd.C_below HR1_1.out HB.out)); (case side2 => exact HC1_1.out); (case side3 => exact Rgn.cq (Kd.C_below HR1_2.out HB.out)); (case side4 => exact HC1_2.out); rintro e w41 ⟨rfl, hb⟩; refine ⟨_, rfl, ?_⟩; have n0_ := Aside0.mk (Rgn.bb BK366.out hb); have n1_ := Aside0.mk (Rgn.bb BK367.out hb); have n2_ := Aside0.mk (below_step (Rgn.bq HB.out) hb); clear BK366; clear BK367; clear HB; have BK366 := n0_; have BK367 := n1_; have HB := n2_; clear n0_ n1_ n2_; (try clear hb); (try clear hb2); (try clear hk); (try clear hi)))
      have n0_ := Aside0.mk (blk_drew BK366.out)
      have n1_ := Aside0.mk (blk_drew BK367.out)
      have n2_ := Aside0.mk (below_drew1 HB.out)
      clear BK366
      clear BK367
      clear HB
      have BK366 := n0_
      have BK367 := n1_
      have HB := n2_
      clear n0_ n1_ n2_
      refine start_ (n := 27) (S := fun w' => True) (ds := []) #[false, false, false, false, false, false, false, false, false, false, false, false, false, false, false, false, false, false, false, false, false, false, false, false, false, false, false] (by kernel_rfl) rfl rfl trivial (fun hHeld => ?_); refine with_tabW spec_l4Takes.tab3 spec_l4Takes.bits3 (fun HT_ HW_ => ?_)
      generalize w41.drew = w42 at BK366 BK367 HB hHeld ⊢
      refine Rgn.pu HT_.out 0 11 ?_
      refine Rgn.pu HT_.out 1 12 ?_
      refine Rgn.pu HT_.out 2 13 ?_
      refine Rgn.pu HT_.out 3 14 ?_
      refine Rgn.pu HT_.out 4 15 ?_
      refine Rgn.pn HT_.out 5 16 ?_
      refine Rgn.pn HT_.out 6 17 ?_
      refine Rgn.pn HT_.out 7 18 ?_
      refine Rgn.pn HT_.out 8 19 ?_
      refine Rgn.pn HT_.out 9 20 ?_
      refine Rgn.pu HT_.out 10 21 ?_
      refine Rgn.pu HT_.out 11 22 ?_
      refine Rgn.pn HT_.out 12 23 ?_
      refine Rgn.pn HT_.out 13 24 ?_
      refine Rgn.pn HT_.out 14 25 ?_
      refine Rgn.pu HT_.out 15 26 ?_
      refine Rgn.pu HT_.out 16 27 ?_
      refine Rgn.pn HT_.out 17 28 ?_
      refine Rgn.pn HT_.out 18 29 ?_
      refine Rgn.pn HT_.out 19 30 ?_
      refine Rgn.pn HT_.out 20 31 ?_
      refine Rgn.pn HT_.out 21 32 ?_
      refine Rgn.pn HT_.out 22 33 ?_
      refine Rgn.pn HT_.out 23 34 ?_
      refine Rgn.pn HT_.out 24 35 ?_
      refine Rgn.pu HT_.out 25 36 ?_
      refine Rgn.pu HT_.out 26 4 ?_
      refine done_ (done_of HT_.out (by kernel_rfl)) ?_
      try go_wp2
      go_ret
      exact ⟨by first | rfl | (simp [errW_none, errW_some] <;> rfl) | (simp [*, errW_none, errW_some] <;> rfl), Rgn.bq HB.out⟩
  · replace c5 := Bool.eq_false_iff.mpr c5
    subst c5
    have H1 : (some false) = some r := by rw [if_neg (show ¬ (false = true) by decide)] at H; exact H
    clear H
    have H := H1
    clear H1
    obtain rfl := Option.some.inj H
    go_enter Try.func23, Try.ntmps23
    try go_wp2_with (first | ((with_reducible refine gate_dst (N := 2) rfl ?_); refine box_event ?hg (N := 2) ?hd (cs := #[.int .i64 a0_0, .int .i64 a0_1, .int .i64 a0_2, .int .i64 a0_3, .int .i64 a0_4]) (t := 29) ?hr ?_; (case hd => rfl); (case hg => rfl); (case hr => first | (go_simp; done) | (go_simp; rfl)); intro gb366 hg w43 hbox hb; have n0_ := Aside0.mk (below_step (Rgn.bq HB.out) hb); have n1_ := Aside0.mk (hbox); have n2_ := Aside0.mk ((by rw [hg]; exact (below_size (Rgn.bq HB.out)) : w.heap.size ≤ gb366)); have n3_ := Aside0.mk ((by rw [hg]; exact (below_size (Rgn.bq HB.out)) : w.heap.size ≤ gb366)); clear HB; have HB := n0_; have BK366 := n1_; have GW366 := n2_; have GE366 := n3_; clear n0_ n1_ n2_ n3_; clear hb hbox hg) | ((with_reducible refine gate_dst (N := 3) rfl ?_); refine box_event ?hg (N := 3) ?hd (cs := #[.int .i64 a1_0, .slice A1_1 l1_1.length c1_1, .slice A1_2 l1_2.length c1_2]) (t := 34) ?hr ?_; (case hd => rfl); (case hg => rfl); (case hr => first | (go_simp; done) | (go_simp; rfl)); intro gb367 hg w44 hbox hb; have n0_ := Aside0.mk (Rgn.bb BK366.out hb); have n1_ := Aside0.mk (below_step (Rgn.bq HB.out) hb); have n2_ := Aside0.mk (hbox); have n3_ := Aside0.mk ((by rw [hg]; exact (below_size (Rgn.bq HB.out)) : w.heap.size ≤ gb367)); have n4_ := Aside0.mk ((by rw [hg]; exact (below_size (Rgn.bq HB.out)) : w.heap.size ≤ gb367)); have n5_ := Aside0.mk ((by rw [hg]; exact Nat.ne_of_lt (blk_lt (g := gb366) (o := .cells #[.int .i64 a0_0, .int .i64 a0_1, .int .i64 a0_2, .int .i64 a0_3, .int .i64 a0_4] 29 (0, 0)) (Rgn.kb BK366.out)) : gb366 ≠ gb367)); have n6_ := Aside0.mk ((by rw [hg]; exact Nat.ne_of_gt (blk_lt (g := gb366) (o := .cells #[.int .i64 a0_0, .int .i64 a0_1, .int .i64 a0_2, .int .i64 a0_3, .int .i64 a0_4] 29 (0, 0)) (Rgn.kb BK366.out)) : gb367 ≠ gb366)); clear BK366; clear HB; have BK366 := n0_; have HB := n1_; have BK367 := n2_; have GW367 := n3_; have GE367 := n4_; have NB366_367 := n5_; have NB367_366 := n6_; clear n0_ n1_ n2_ n3_ n4_ n5_ n6_; clear hb hbox hg; have hnb45 := NB366_367.out; have hnc45 := NB367_366.out; have hcz46_0 : w44.cell? ⟨gb366, 0, none⟩ = some (.int .i64 a0_0) := (blk_cell BK366.out 0).trans rfl; have hcz46_1 : w44.cell? ⟨gb366, 1, none⟩ = some (.int .i64 a0_1) := (blk_cell BK366.out 1).trans rfl; have hcz46_2 : w44.cell? ⟨gb366, 2, none⟩ = some (.int .i64 a0_2) := (blk_cell BK366.out 2).trans rfl; have hcz46_3 : w44.cell? ⟨gb366, 3, none⟩ = some (.int .i64 a0_3) := (blk_cell BK366.out 3).trans rfl; have hcz46_4 : w44.cell? ⟨gb366, 4, none⟩ = some (.int .i64 a0_4) := (blk_cell BK366.out 4).trans rfl; have hfz46_0 := blk_frozen BK366.out 0; have hfz46_1 := blk_frozen BK366.out 1; have hfz46_2 := blk_frozen BK366.out 2; have hfz46_3 := blk_frozen BK366.out 3; have hfz46_4 := blk_frozen BK366.out 4) | ((with_reducible refine gate_callee (f := 41) rfl ?_); refine Rgn.gl (some 8) Try.func41 #[.agg #[.int .i64 a0_0, .int .i64 a0_1, .int .i64 a0_2, .int .i64 a0_3, .int .i64 a0_4]] ?_; (with_reducible refine (spec_ValidLog.calls k a0_0 a0_1 a0_2 a0_3 a0_4 false _ A3.out).mono ?_); rintro e w47 ⟨rfl, hb⟩; refine ⟨_, rfl, ?_⟩; have n0_ := Aside0.mk (Rgn.bb BK366.out hb); have n1_ := Aside0.mk (Rgn.bb BK367.out hb); have n2_ := Aside0.mk (below_step (Rgn.bq HB.out) hb); clear BK366; clear BK367; clear HB; have BK366 := n0_; have BK367 := n1_; have HB := n2_; clear n0_ n1_ n2_; (try clear hb); (try clear hb2); (try clear hk); (try clear hi); have hcz48_0 : w47.cell? ⟨gb367, 0, none⟩ = some (.int .i64 a1_0) := (blk_cell BK367.out 0).trans rfl; have hcz48_1 : w47.cell? ⟨gb367, 1, none⟩ = some (.slice A1_1 l1_1.length c1_1) := (blk_cell BK367.out 1).trans rfl; have hcz48_2 : w47.cell? ⟨gb367, 2, none⟩ = some (.slice A1_2 l1_2.length c1_2) := (blk_cell BK367.out 2).trans rfl; have hfz48_0 := blk_frozen BK367.out 0; have hfz48_1 := blk_frozen BK367.out 1; have hfz48_2 := blk_frozen BK367.out 2) | ((with_reducible refine gate_callee (f := 42) rfl ?_); refine Rgn.gl (some 10) Try.func42 #[.agg #[.int .i64 a1_0, .slice A1_1 l1_1.length c1_1, .slice A1_2 l1_2.length c1_2]] ?_; (with_reducible refine (spec_ValidTxn.calls k a1_0 _ _ l1_1 _ _ l1_2 t369 _ ?side1 ?side2 ?side3 ?side4 A4.out).mono ?_); (case side1 => exact Rgn.cq (Kd.C_below HR1_1.out HB.out)); (case side2 => exact HC1_1.out); (case side3 => exact Rgn.cq (Kd.C_below HR1_2.out HB.out)); (case side4 => exact HC1_2.out); rintro e w49 ⟨rfl, hb⟩; refine ⟨_, rfl, ?_⟩; have n0_ := Aside0.mk (Rgn.bb BK366.out hb); have n1_ := Aside0.mk (Rgn.bb BK367.out hb); have n2_ := Aside0.mk (below_step (Rgn.bq HB.out) hb); clear BK366; clear BK367; clear HB; have BK366 := n0_; have BK367 := n1_; have HB := n2_; clear n0_ n1_ n2_; (try clear hb); (try clear hb2); (try clear hk); (try clear hi)))
    have n0_ := Aside0.mk (blk_drew BK366.out)
    have n1_ := Aside0.mk (blk_drew BK367.out)
    have n2_ := Aside0.mk (below_drew1 HB.out)
    clear BK366
    clear BK367
    clear HB
    have BK366 := n0_
    have BK367 := n1_
    have HB := n2_
    clear n0_ n1_ n2_
    refine start_ (n := 27) (S := fun w' => True) (ds := []) #[false, false, false, false, false, false, false, false, false, false, false, false, false, false, false, false, false, false, false, false, false, false, false, false, false, false, false] (by kernel_rfl) rfl rfl trivial (fun hHeld => ?_); refine with_tabW spec_l4Takes.tab3 spec_l4Takes.bits3 (fun HT_ HW_ => ?_)
    generalize w49.drew = w50 at BK366 BK367 HB hHeld ⊢
    refine Rgn.pu HT_.out 0 11 ?_
    refine Rgn.pu HT_.out 1 12 ?_
    refine Rgn.pn HT_.out 2 13 ?_
    refine Rgn.pu HT_.out 3 14 ?_
    refine Rgn.pu HT_.out 4 15 ?_
    refine Rgn.pn HT_.out 5 16 ?_
    refine Rgn.pn HT_.out 6 17 ?_
    refine Rgn.pn HT_.out 7 18 ?_
    refine Rgn.pn HT_.out 8 19 ?_
    refine Rgn.pn HT_.out 9 20 ?_
    refine Rgn.pu HT_.out 10 21 ?_
    refine Rgn.pu HT_.out 11 22 ?_
    refine Rgn.pn HT_.out 12 23 ?_
    refine Rgn.pn HT_.out 13 24 ?_
    refine Rgn.pn HT_.out 14 25 ?_
    refine Rgn.pu HT_.out 15 26 ?_
    refine Rgn.pu HT_.out 16 27 ?_
    refine Rgn.pn HT_.out 17 28 ?_
    refine Rgn.pn HT_.out 18 29 ?_
    refine Rgn.pn HT_.out 19 30 ?_
    refine Rgn.pn HT_.out 20 31 ?_
    refine Rgn.pn HT_.out 21 32 ?_
    refine Rgn.pn HT_.out 22 33 ?_
    refine Rgn.pn HT_.out 23 34 ?_
    refine Rgn.pn HT_.out 24 35 ?_
    refine Rgn.pu HT_.out 25 36 ?_
    refine Rgn.pu HT_.out 26 4 ?_
    refine done_ (done_of HT_.out (by kernel_rfl)) ?_
    try go_wp2
    go_ret
    exact ⟨by first | rfl | (simp [errW_none, errW_some] <;> rfl) | (simp [*, errW_none, errW_some] <;> rfl), Rgn.bq HB.out⟩

/-! ### spec_LogNext: function 6 -/
def spec_LogNext.f (k : Nat) (a0_0 : Int) (a0_1 : Int) (a0_2 : Int) (a0_3 : Int) (a0_4 : Int) (a1_0 : Int) (l1_1 : List (S61)) (l1_2 : List Int) : Option (Int × Int × Int × Int × Int) := (spec_l4Takes.f k a0_0 a0_1 a0_2 a0_3 a0_4 a1_0 l1_1 l1_2).bind fun t374 => (if t374 = true then ((spec_TxnLength.f k a1_0 l1_1 l1_2).bind fun t375 => (if a0_1 = 0 then ((spec_l4Place.f a0_0 a0_3 t375).bind fun t377 => (some (a0_0, a0_3, wrap64 (a0_2 + 1), t377, wrap64 (a0_4 + t375)))) else ((spec_l4Place.f a0_0 a0_3 t375).bind fun t378 => (some (a0_0, a0_1, wrap64 (a0_2 + 1), t378, wrap64 (a0_4 + t375)))))) else (some (0, 0, 0, 0, 0)))
theorem spec_LogNext.mono : ∀ a0 a1 a2 a3 a4 a5 a6 a7 k, LeO (spec_LogNext.f k a0 a1 a2 a3 a4 a5 a6 a7) (spec_LogNext.f (k + 1) a0 a1 a2 a3 a4 a5 a6 a7) := by
  intro a0 a1 a2 a3 a4 a5 a6 a7 k
  unfold spec_LogNext.f
  repeat' first
      | (with_reducible exact spec_TxnLength.mono _ _ _ _)
      | (with_reducible exact spec_l4Takes.mono _ _ _ _ _ _ _ _ _)
      | (with_reducible exact LeO.refl _)
      | (with_reducible exact LeO.none _)
      | (with_reducible refine LeO.ite ?_ ?_)
      | (with_reducible refine LeO.bind ?_ (fun _ => ?_))
      | exact spec_TxnLength.mono _ _ _ _
      | exact spec_l4Takes.mono _ _ _ _ _ _ _ _ _
      | exact LeO.none _
      | refine LeO.ite ?_ ?_
      | refine LeO.bind ?_ (fun _ => ?_)
set_option maxHeartbeats 8000000 in
set_option maxRecDepth 100000 in
theorem spec_LogNext.calls (k : Nat) (a0_0 : Int) (a0_1 : Int) (a0_2 : Int) (a0_3 : Int) (a0_4 : Int) (a1_0 : Int) (A1_1 : Option Addr) (c1_1 : Nat) (l1_1 : List (S61)) (A1_2 : Option Addr) (c1_2 : Nat) (l1_2 : List Int) (r1 : Int) (r2 : Int) (r3 : Int) (r4 : Int) (r5 : Int) (w : World) (hr1_1 : Kd.C k61 w A1_1 l1_1.length l1_1) (hc1_1 : l1_1.length ≤ c1_1) (hr1_2 : Kd.C (Kd.int .i64) w A1_2 l1_2.length l1_2) (hc1_2 : l1_2.length ≤ c1_2) (h : spec_LogNext.f k a0_0 a0_1 a0_2 a0_3 a0_4 a1_0 l1_1 l1_2 = some (r1, r2, r3, r4, r5)) :
    Calls Try.prog 6 #[.agg #[.int .i64 a0_0, .int .i64 a0_1, .int .i64 a0_2, .int .i64 a0_3, .int .i64 a0_4], .agg #[.int .i64 a1_0, .slice A1_1 l1_1.length c1_1, .slice A1_2 l1_2.length c1_2]] w fun e w' => e = .returned (.agg #[.int .i64 r1, .int .i64 r2, .int .i64 r3, .int .i64 r4, .int .i64 r5]) ∧ Below w.heap.size w w' := by
  have hu29 := Try.underlying29
  have hu34 := Try.underlying34
  have HR1_1 := Aside0.mk hr1_1
  have HC1_1 := Aside0.mk hc1_1
  clear hr1_1 hc1_1
  have HR1_2 := Aside0.mk hr1_2
  have HC1_2 := Aside0.mk hc1_2
  clear hr1_2 hc1_2
  have HB := Aside0.mk (Below.refl w.heap.size w)
  have H : ((spec_l4Takes.f k a0_0 a0_1 a0_2 a0_3 a0_4 a1_0 l1_1 l1_2).bind fun t374 => (if t374 = true then ((spec_TxnLength.f k a1_0 l1_1 l1_2).bind fun t375 => (if a0_1 = 0 then ((spec_l4Place.f a0_0 a0_3 t375).bind fun t377 => (some (a0_0, a0_3, wrap64 (a0_2 + 1), t377, wrap64 (a0_4 + t375)))) else ((spec_l4Place.f a0_0 a0_3 t375).bind fun t378 => (some (a0_0, a0_1, wrap64 (a0_2 + 1), t378, wrap64 (a0_4 + t375)))))) else (some (0, 0, 0, 0, 0)))) = some (r1, r2, r3, r4, r5) := h
  clear h
  replace H := Option.bind_eq_some_iff.mp H
  obtain ⟨t374, A30, H⟩ := H
  replace H : (if t374 = true then ((spec_TxnLength.f k a1_0 l1_1 l1_2).bind fun t375 => (if a0_1 = 0 then ((spec_l4Place.f a0_0 a0_3 t375).bind fun t377 => (some (a0_0, a0_3, wrap64 (a0_2 + 1), t377, wrap64 (a0_4 + t375)))) else ((spec_l4Place.f a0_0 a0_3 t375).bind fun t378 => (some (a0_0, a0_1, wrap64 (a0_2 + 1), t378, wrap64 (a0_4 + t375)))))) else (some (0, 0, 0, 0, 0))) = some (r1, r2, r3, r4, r5) := H
  have A3 := Aside0.mk A30
  clear A30
  by_cases c4 : t374 = true
  · subst c4
    have H1 : ((spec_TxnLength.f k a1_0 l1_1 l1_2).bind fun t375 => (if a0_1 = 0 then ((spec_l4Place.f a0_0 a0_3 t375).bind fun t377 => (some (a0_0, a0_3, wrap64 (a0_2 + 1), t377, wrap64 (a0_4 + t375)))) else ((spec_l4Place.f a0_0 a0_3 t375).bind fun t378 => (some (a0_0, a0_1, wrap64 (a0_2 + 1), t378, wrap64 (a0_4 + t375)))))) = some (r1, r2, r3, r4, r5) := by rw [if_pos rfl] at H; exact H
    clear H
    have H := H1
    clear H1
    replace H := Option.bind_eq_some_iff.mp H
    obtain ⟨t375, A50, H⟩ := H
    replace H : (if a0_1 = 0 then ((spec_l4Place.f a0_0 a0_3 t375).bind fun t377 => (some (a0_0, a0_3, wrap64 (a0_2 + 1), t377, wrap64 (a0_4 + t375)))) else ((spec_l4Place.f a0_0 a0_3 t375).bind fun t378 => (some (a0_0, a0_1, wrap64 (a0_2 + 1), t378, wrap64 (a0_4 + t375))))) = some (r1, r2, r3, r4, r5) := H
    have A5 := Aside0.mk A50
    clear A50
    by_cases c6 : a0_1 = 0
    · rw [if_pos c6] at H
      have c6b0 : (a0_1 == 0) = true := beq_iff_eq.mpr c6
      have c6b1 : (a0_1 != 0) = false := bne_eq_false_iff_eq.mpr c6
      clear c6
      replace H := Option.bind_eq_some_iff.mp H
      obtain ⟨t377, A70, H⟩ := H
      replace H : (some (a0_0, a0_3, wrap64 (a0_2 + 1), t377, wrap64 (a0_4 + t375))) = some (r1, r2, r3, r4, r5) := H
      have A7 := Aside0.mk A70
      clear A70
      simp only [Option.some.injEq, Prod.mk.injEq] at H
      obtain ⟨rfl, rfl, rfl, rfl, rfl⟩ := H
      go_enter Try.func6, Try.ntmps6
      go_wp2_with (first | ((with_reducible refine gate_dst (N := 2) rfl ?_); refine box_event ?hg (N := 2) ?hd (cs := #[.int .i64 a0_0, .int .i64 a0_1, .int .i64 a0_2, .int .i64 a0_3, .int .i64 a0_4]) (t := 29) ?hr ?_; (case hd => rfl); (case hg => rfl); (case hr => first | (go_simp; done) | (go_simp; rfl)); intro gb371 hg w8 hbox hb; have n0_ := Aside0.mk (below_step (Rgn.bq HB.out) hb); have n1_ := Aside0.mk (hbox); have n2_ := Aside0.mk ((by rw [hg]; exact (below_size (Rgn.bq HB.out)) : w.heap.size ≤ gb371)); have n3_ := Aside0.mk ((by rw [hg]; exact (below_size (Rgn.bq HB.out)) : w.heap.size ≤ gb371)); clear HB; have HB := n0_; have BK371 := n1_; have GW371 := n2_; have GE371 := n3_; clear n0_ n1_ n2_ n3_; clear hb hbox hg) | ((with_reducible refine gate_dst (N := 3) rfl ?_); refine box_event ?hg (N := 3) ?hd (cs := #[.int .i64 a1_0, .slice A1_1 l1_1.length c1_1, .slice A1_2 l1_2.length c1_2]) (t := 34) ?hr ?_; (case hd => rfl); (case hg => rfl); (case hr => first | (go_simp; done) | (go_simp; rfl)); intro gb372 hg w9 hbox hb; have n0_ := Aside0.mk (Rgn.bb BK371.out hb); have n1_ := Aside0.mk (below_step (Rgn.bq HB.out) hb); have n2_ := Aside0.mk (hbox); have n3_ := Aside0.mk ((by rw [hg]; exact (below_size (Rgn.bq HB.out)) : w.heap.size ≤ gb372)); have n4_ := Aside0.mk ((by rw [hg]; exact (below_size (Rgn.bq HB.out)) : w.heap.size ≤ gb372)); have n5_ := Aside0.mk ((by rw [hg]; exact Nat.ne_of_lt (blk_lt (g := gb371) (o := .cells #[.int .i64 a0_0, .int .i64 a0_1, .int .i64 a0_2, .int .i64 a0_3, .int .i64 a0_4] 29 (0, 0)) (Rgn.kb BK371.out)) : gb371 ≠ gb372)); have n6_ := Aside0.mk ((by rw [hg]; exact Nat.ne_of_gt (blk_lt (g := gb371) (o := .cells #[.int .i64 a0_0, .int .i64 a0_1, .int .i64 a0_2, .int .i64 a0_3, .int .i64 a0_4] 29 (0, 0)) (Rgn.kb BK371.out)) : gb372 ≠ gb371)); clear BK371; clear HB; have BK371 := n0_; have HB := n1_; have BK372 := n2_; have GW372 := n3_; have GE372 := n4_; have NB371_372 := n5_; have NB372_371 := n6_; clear n0_ n1_ n2_ n3_ n4_ n5_ n6_; clear hb hbox hg) | ((with_reducible refine gate_dst (N := 4) rfl ?_); refine box_event ?hg (N := 4) ?hd (cs := #[.int .i64 0, .int .i64 0, .int .i64 0, .int .i64 0, .int .i64 0]) (t := 29) ?hr ?_; (case hd => rfl); (case hg => rfl); (case hr => first | (go_simp; done) | (go_simp; rfl)); intro gb373 hg w10 hbox hb; have n0_ := Aside0.mk (Rgn.bb BK371.out hb); have n1_ := Aside0.mk (Rgn.bb BK372.out hb); have n2_ := Aside0.mk (below_step (Rgn.bq HB.out) hb); have n3_ := Aside0.mk (hbox); have n4_ := Aside0.mk ((by rw [hg]; exact (below_size (Rgn.bq HB.out)) : w.heap.size ≤ gb373)); have n5_ := Aside0.mk ((by rw [hg]; exact (below_size (Rgn.bq HB.out)) : w.heap.size ≤ gb373)); have n6_ := Aside0.mk ((by rw [hg]; exact Nat.ne_of_lt (blk_lt (g := gb371) (o := .cells #[.int .i64 a0_0, .int .i64 a0_1, .int .i64 a0_2, .int .i64 a0_3, .int .i64 a0_4] 29 (0, 0)) (Rgn.kb BK371.out)) : gb371 ≠ gb373)); have n7_ := Aside0.mk ((by rw [hg]; exact Nat.ne_of_gt (blk_lt (g := gb371) (o := .cells #[.int .i64 a0_0, .int .i64 a0_1, .int .i64 a0_2, .int .i64 a0_3, .int .i64 a0_4] 29 (0, 0)) (Rgn.kb BK371.out)) : gb373 ≠ gb371)); have n8_ := Aside0.mk ((by rw [hg]; exact Nat.ne_of_lt (blk_lt (g := gb372) (o := .cells #[.int .i64 a1_0, .slice A1_1 l1_1.length c1_1, .slice A1_2 l1_2.length c1_2] 34 (0, 0)) (Rgn.kb BK372.out)) : gb372 ≠ gb373)); have n9_ := Aside0.mk ((by rw [hg]; exact Nat.ne_of_gt (blk_lt (g := gb372) (o := .cells #[.int .i64 a1_0, .slice A1_1 l1_1.length c1_1, .slice A1_2 l1_2.length c1_2] 34 (0, 0)) (Rgn.kb BK372.out)) : gb373 ≠ gb372)); clear BK371; clear BK372; clear HB; have BK371 := n0_; have BK372 := n1_; have HB := n2_; have BK373 := n3_; have GW373 := n4_; have GE373 := n5_; have NB371_373 := n6_; have NB373_371 := n7_; have NB372_373 := n8_; have NB373_372 := n9_; clear n0_ n1_ n2_ n3_ n4_ n5_ n6_ n7_ n8_ n9_; clear hb hbox hg; have hnb11 := NB371_372.out; have hnc11 := NB372_371.out; have hnb12 := NB371_373.out; have hnc12 := NB373_371.out; have hcz13_0 : w10.cell? ⟨gb371, 0, none⟩ = some (.int .i64 a0_0) := (blk_cell BK371.out 0).trans rfl; have hcz13_1 : w10.cell? ⟨gb371, 1, none⟩ = some (.int .i64 a0_1) := (blk_cell BK371.out 1).trans rfl; have hcz13_2 : w10.cell? ⟨gb371, 2, none⟩ = some (.int .i64 a0_2) := (blk_cell BK371.out 2).trans rfl; have hcz13_3 : w10.cell? ⟨gb371, 3, none⟩ = some (.int .i64 a0_3) := (blk_cell BK371.out 3).trans rfl; have hcz13_4 : w10.cell? ⟨gb371, 4, none⟩ = some (.int .i64 a0_4) := (blk_cell BK371.out 4).trans rfl; have hfz13_0 := blk_frozen BK371.out 0; have hfz13_1 := blk_frozen BK371.out 1; have hfz13_2 := blk_frozen BK371.out 2; have hfz13_3 := blk_frozen BK371.out 3; have hfz13_4 := blk_frozen BK371.out 4; have hnb14 := NB372_373.out; have hnc14 := NB373_372.out; have hcz15_0 : w10.cell? ⟨gb372, 0, none⟩ = some (.int .i64 a1_0) := (blk_cell BK372.out 0).trans rfl; have hcz15_1 : w10.cell? ⟨gb372, 1, none⟩ = some (.slice A1_1 l1_1.length c1_1) := (blk_cell BK372.out 1).trans rfl; have hcz15_2 : w10.cell? ⟨gb372, 2, none⟩ = some (.slice A1_2 l1_2.length c1_2) := (blk_cell BK372.out 2).trans rfl; have hfz15_0 := blk_frozen BK372.out 0; have hfz15_1 := blk_frozen BK372.out 1; have hfz15_2 := blk_frozen BK372.out 2) | ((with_reducible refine gate_callee (f := 23) rfl ?_); refine Rgn.gl (some 9) Try.func23 #[.agg #[.int .i64 a0_0, .int .i64 a0_1, .int .i64 a0_2, .int .i64 a0_3, .int .i64 a0_4], .agg #[.int .i64 a1_0, .slice A1_1 l1_1.length c1_1, .slice A1_2 l1_2.length c1_2]] ?_; (with_reducible refine (spec_l4Takes.calls k a0_0 a0_1 a0_2 a0_3 a0_4 a1_0 _ _ l1_1 _ _ l1_2 true _ ?side1 ?side2 ?side3 ?side4 A3.out).mono ?_); (case side1 => exact Rgn.cq (Kd.C_below HR1_1.out HB.out)); (case side2 => exact HC1_1.out); (case side3 => exact Rgn.cq (Kd.C_below HR1_2.out HB.out)); (case side4 => exact HC1_2.out); rintro e w16 ⟨rfl, hb⟩; refine ⟨_, rfl, ?_⟩; have n0_ := Aside0.mk (Rgn.bb BK371.out hb); have n1_ := Aside0.mk (Rgn.bb BK372.out hb); have n2_ := Aside0.mk (Rgn.bb BK373.out hb); have n3_ := Aside0.mk (below_step (Rgn.bq HB.out) hb); clear BK371; clear BK372; clear BK373; clear HB; have BK371 := n0_; have BK372 := n1_; have BK373 := n2_; have HB := n3_; clear n0_ n1_ n2_ n3_; (try clear hb); (try clear hb2); (try clear hk); (try clear hi); have hcz17_0 : w16.cell? ⟨gb372, 0, none⟩ = some (.int .i64 a1_0) := (blk_cell BK372.out 0).trans rfl; have hcz17_1 : w16.cell? ⟨gb372, 1, none⟩ = some (.slice A1_1 l1_1.length c1_1) := (blk_cell BK372.out 1).trans rfl; have hcz17_2 : w16.cell? ⟨gb372, 2, none⟩ = some (.slice A1_2 l1_2.length c1_2) := (blk_cell BK372.out 2).trans rfl; have hfz17_0 := blk_frozen BK372.out 0; have hfz17_1 := blk_frozen BK372.out 1; have hfz17_2 := blk_frozen BK372.out 2) | ((with_reducible refine gate_callee (f := 24) rfl ?_); refine Rgn.gl (some 13) Try.func24 #[.agg #[.int .i64 a1_0, .slice A1_1 l1_1.length c1_1, .slice A1_2 l1_2.length c1_2]] ?_; (with_reducible refine (spec_TxnLength.calls k a1_0 _ _ l1_1 _ _ l1_2 t375 _ ?side1 ?side2 ?side3 ?side4 A5.out).mono ?_); (case side1 => exact Rgn.cq (Kd.C_below HR1_1.out HB.out)); (case side2 => exact HC1_1.out); (case side3 => exact Rgn.cq (Kd.C_below HR1_2.out HB.out)); (case side4 => exact HC1_2.out); rintro e w18 ⟨rfl, hb⟩; refine ⟨_, rfl, ?_⟩; have n0_ := Aside0.mk (Rgn.bb BK371.out hb); have n1_ := Aside0.mk (Rgn.bb BK372.out hb); have n2_ := Aside0.mk (Rgn.bb BK373.out hb); have n3_ := Aside0.mk (below_step (Rgn.bq HB.out) hb); clear BK371; clear BK372; clear BK373; clear HB; have BK371 := n0_; have BK372 := n1_; have BK373 := n2_; have HB := n3_; clear n0_ n1_ n2_ n3_; (try clear hb); (try clear hb2); (try clear hk); (try clear hi); have hcz19_0 : w18.cell? ⟨gb371, 0, none⟩ = some (.int .i64 a0_0) := (blk_cell BK371.out 0).trans rfl; have hcz19_1 : w18.cell? ⟨gb371, 1, none⟩ = some (.int .i64 a0_1) := (blk_cell BK371.out 1).trans rfl; have hcz19_2 : w18.cell? ⟨gb371, 2, none⟩ = some (.int .i64 a0_2) := (blk_cell BK371.out 2).trans rfl; have hcz19_3 : w18.cell? ⟨gb371, 3, none⟩ = some (.int .i64 a0_3) := (blk_cell BK371.out 3).trans rfl; have hcz19_4 : w18.cell? ⟨gb371, 4, none⟩ = some (.int .i64 a0_4) := (blk_cell BK371.out 4).trans rfl; have hfz19_0 := blk_frozen BK371.out 0; have hfz19_1 := blk_frozen BK371.out 1; have hfz19_2 := blk_frozen BK371.out 2; have hfz19_3 := blk_frozen BK371.out 3; have hfz19_4 := blk_frozen BK371.out 4) | ((with_reducible refine gate_dst (N := 6) rfl ?_); refine box_event ?hg (N := 6) ?hd (cs := #[.int .i64 0, .int .i64 0, .int .i64 0, .int .i64 0, .int .i64 0]) (t := 29) ?hr ?_; (case hd => rfl); (case hg => rfl); (case hr => first | (go_simp; done) | (go_simp; rfl)); intro gb376 hg w20 hbox hb; have n0_ := Aside0.mk (Rgn.bb BK371.out hb); have n1_ := Aside0.mk (Rgn.bb BK372.out hb); have n2_ := Aside0.mk (Rgn.bb BK373.out hb); have n3_ := Aside0.mk (below_step (Rgn.bq HB.out) hb); have n4_ := Aside0.mk (hbox); have n5_ := Aside0.mk ((by rw [hg]; exact (below_size (Rgn.bq HB.out)) : w.heap.size ≤ gb376)); have n6_ := Aside0.mk ((by rw [hg]; exact (below_size (Rgn.bq HB.out)) : w.heap.size ≤ gb376)); have n7_ := Aside0.mk ((by rw [hg]; exact Nat.ne_of_lt (blk_lt (g := gb371) (o := .cells #[.int .i64 a0_0, .int .i64 a0_1, .int .i64 a0_2, .int .i64 a0_3, .int .i64 a0_4] 29 (0, 0)) (Rgn.kb BK371.out)) : gb371 ≠ gb376)); have n8_ := Aside0.mk ((by rw [hg]; exact Nat.ne_of_gt (blk_lt (g := gb371) (o := .cells #[.int .i64 a0_0, .int .i64 a0_1, .int .i64 a0_2, .int .i64 a0_3, .int .i64 a0_4] 29 (0, 0)) (Rgn.kb BK371.out)) : gb376 ≠ gb371)); have n9_ := Aside0.mk ((by rw [hg]; exact Nat.ne_of_lt (blk_lt (g := gb372) (o := .cells #[.int .i64 a1_0, .slice A1_1 l1_1.length c1_1, .slice A1_2 l1_2.length c1_2] 34 (0, 0)) (Rgn.kb BK372.out)) : gb372 ≠ gb376)); have n10_ := Aside0.mk ((by rw [hg]; exact Nat.ne_of_gt (blk_lt (g := gb372) (o := .cells #[.int .i64 a1_0, .slice A1_1 l1_1.length c1_1, .slice A1_2 l1_2.length c1_2] 34 (0, 0)) (Rgn.kb BK372.out)) : gb376 ≠ gb372)); have n11_ := Aside0.mk ((by rw [hg]; exact Nat.ne_of_lt (blk_lt (g := gb373) (o := .cells #[.int .i64 0, .int .i64 0, .int .i64 0, .int .i64 0, .int .i64 0] 29 (0, 0)) (Rgn.kb BK373.out)) : gb373 ≠ gb376)); have n12_ := Aside0.mk ((by rw [hg]; exact Nat.ne_of_gt (blk_lt (g := gb373) (o := .cells #[.int .i64 0, .int .i64 0, .int .i64 0, .int .i64 0, .int .i64 0] 29 (0, 0)) (Rgn.kb BK373.out)) : gb376 ≠ gb373)); clear BK371; clear BK372; clear BK373; clear HB; have BK371 := n0_; have BK372 := n1_; have BK373 := n2_; have HB := n3_; have BK376 := n4_; have GW376 := n5_; have GE376 := n6_; have NB371_376 := n7_; have NB376_371 := n8_; have NB372_376 := n9_; have NB376_372 := n10_; have NB373_376 := n11_; have NB376_373 := n12_; clear n0_ n1_ n2_ n3_ n4_ n5_ n6_ n7_ n8_ n9_ n10_ n11_ n12_; clear hb hbox hg; have hnb21 := NB376_371.out; have hnc21 := NB371_376.out; have hnb22 := NB376_372.out; have hnc22 := NB372_376.out; have hnb23 := NB376_373.out; have hnc23 := NB373_376.out; have hcz24_0 : w20.cell? ⟨gb376, 0, none⟩ = some (.int .i64 0) := (blk_cell BK376.out 0).trans rfl; have hcz24_1 : w20.cell? ⟨gb376, 1, none⟩ = some (.int .i64 0) := (blk_cell BK376.out 1).trans rfl; have hcz24_2 : w20.cell? ⟨gb376, 2, none⟩ = some (.int .i64 0) := (blk_cell BK376.out 2).trans rfl; have hcz24_3 : w20.cell? ⟨gb376, 3, none⟩ = some (.int .i64 0) := (blk_cell BK376.out 3).trans rfl; have hcz24_4 : w20.cell? ⟨gb376, 4, none⟩ = some (.int .i64 0) := (blk_cell BK376.out 4).trans rfl; have hfz24_0 := blk_frozen BK376.out 0; have hfz24_1 := blk_frozen BK376.out 1; have hfz24_2 := blk_frozen BK376.out 2; have hfz24_3 := blk_frozen BK376.out 3; have hfz24_4 := blk_frozen BK376.out 4; have hcz25_0 : w20.cell? ⟨gb371, 0, none⟩ = some (.int .i64 a0_0) := (blk_cell BK371.out 0).trans rfl; have hcz25_1 : w20.cell? ⟨gb371, 1, none⟩ = some (.int .i64 a0_1) := (blk_cell BK371.out 1).trans rfl; have hcz25_2 : w20.cell? ⟨gb371, 2, none⟩ = some (.int .i64 a0_2) := (blk_cell BK371.out 2).trans rfl; have hcz25_3 : w20.cell? ⟨gb371, 3, none⟩ = some (.int .i64 a0_3) := (blk_cell BK371.out 3).trans rfl; have hcz25_4 : w20.cell? ⟨gb371, 4, none⟩ = some (.int .i64 a0_4) := (blk_cell BK371.out 4).trans rfl; have hfz25_0 := blk_frozen BK371.out 0; have hfz25_1 := blk_frozen BK371.out 1; have hfz25_2 := blk_frozen BK371.out 2; have hfz25_3 := blk_frozen BK371.out 3; have hfz25_4 := blk_frozen BK371.out 4) | ((with_reducible refine gate_callee (f := 25) rfl ?_); refine Rgn.gl (some 35) Try.func25 #[.int .i64 a0_0, .int .i64 a0_3, .int .i64 t375] ?_; (with_reducible refine (spec_l4Place.calls a0_0 a0_3 t375 t377 _ A7.out).mono ?_); rintro e wq ⟨rfl, hq⟩; have n0_ : wq.heap[gb376]? = some (.cells #[.int .i64 a0_0, .int .i64 a0_3, .int .i64 (wrap64 (a0_2 + 1)), .int .i64 a0_3, .int .i64 (wrap64 (a0_4 + t375))] 29 (0, 0)) := (by obtain ⟨nd, rfl⟩ := hq; (with_reducible repeat (first | refine blk_drewN ?_ _ | refine blk_drew ?_ | refine blk_alloc ?_ _)); refine blk_put (cs := #[.int .i64 a0_0, .int .i64 a0_3, .int .i64 (wrap64 (a0_2 + 1)), .int .i64 a0_3, .int .i64 a0_4]) ?_ 4 _ rfl; (with_reducible repeat (first | refine blk_drewN ?_ _ | refine blk_drew ?_ | refine blk_alloc ?_ _)); refine blk_put (cs := #[.int .i64 a0_0, .int .i64 a0_3, .int .i64 a0_2, .int .i64 a0_3, .int .i64 a0_4]) ?_ 2 _ rfl; (with_reducible repeat (first | refine blk_drewN ?_ _ | refine blk_drew ?_ | refine blk_alloc ?_ _)); refine blk_put (cs := #[.int .i64 a0_0, .int .i64 a0_1, .int .i64 a0_2, .int .i64 a0_3, .int .i64 a0_4]) ?_ 1 _ rfl; (with_reducible repeat (first | refine blk_drewN ?_ _ | refine blk_drew ?_ | refine blk_alloc ?_ _)); refine blk_put (cs := #[.int .i64 a0_0, .int .i64 a0_1, .int .i64 a0_2, .int .i64 a0_3, .int .i64 0]) ?_ 4 _ rfl; (with_reducible repeat (first | refine blk_drewN ?_ _ | refine blk_drew ?_ | refine blk_alloc ?_ _)); refine blk_put (cs := #[.int .i64 a0_0, .int .i64 a0_1, .int .i64 a0_2, .int .i64 0, .int .i64 0]) ?_ 3 _ rfl; (with_reducible repeat (first | refine blk_drewN ?_ _ | refine blk_drew ?_ | refine blk_alloc ?_ _)); refine blk_put (cs := #[.int .i64 a0_0, .int .i64 a0_1, .int .i64 0, .int .i64 0, .int .i64 0]) ?_ 2 _ rfl; (with_reducible repeat (first | refine blk_drewN ?_ _ | refine blk_drew ?_ | refine blk_alloc ?_ _)); refine blk_put (cs := #[.int .i64 a0_0, .int .i64 0, .int .i64 0, .int .i64 0, .int .i64 0]) ?_ 1 _ rfl; (with_reducible repeat (first | refine blk_drewN ?_ _ | refine blk_drew ?_ | refine blk_alloc ?_ _)); refine blk_put (cs := #[.int .i64 0, .int .i64 0, .int .i64 0, .int .i64 0, .int .i64 0]) ?_ 0 _ rfl; (with_reducible repeat (first | refine blk_drewN ?_ _ | refine blk_drew ?_ | refine blk_alloc ?_ _)); exact BK376.out); have n1_ : wq.heap[gb373]? = some (.cells #[.int .i64 0, .int .i64 0, .int .i64 0, .int .i64 0, .int .i64 0] 29 (0, 0)) := (by obtain ⟨nd, rfl⟩ := hq; (with_reducible repeat (first | refine blk_drewN ?_ _ | refine blk_drew ?_ | refine blk_alloc ?_ _ | refine blk_far ?_ NB373_376.out _)); exact BK373.out); have n2_ : Below w.heap.size w wq := (by obtain ⟨nd, rfl⟩ := hq; exact Rgn.bq HB.out); clear hq; clear BK376; clear BK373; clear HB; have BK376 := Aside0.mk n0_; have BK373 := Aside0.mk n1_; have HB := Aside0.mk n2_; clear n0_ n1_ n2_; refine ⟨_, rfl, ?_⟩; have hcy_0 : wq.cell? ⟨gb376, 0, none⟩ = some (.int .i64 a0_0) := (blk_cell BK376.out 0).trans rfl; have hfhcy_0 := blk_frozen BK376.out 0; have hcy_1 : wq.cell? ⟨gb376, 1, none⟩ = some (.int .i64 a0_3) := (blk_cell BK376.out 1).trans rfl; have hfhcy_1 := blk_frozen BK376.out 1; have hcy_2 : wq.cell? ⟨gb376, 2, none⟩ = some (.int .i64 (wrap64 (a0_2 + 1))) := (blk_cell BK376.out 2).trans rfl; have hfhcy_2 := blk_frozen BK376.out 2; have hcy_3 : wq.cell? ⟨gb376, 3, none⟩ = some (.int .i64 a0_3) := (blk_cell BK376.out 3).trans rfl; have hfhcy_3 := blk_frozen BK376.out 3; have hcy_4 : wq.cell? ⟨gb376, 4, none⟩ = some (.int .i64 (wrap64 (a0_4 + t375))) := (blk_cell BK376.out 4).trans rfl; have hfhcy_4 := blk_frozen BK376.out 4; have hcx_0 : wq.cell? ⟨gb373, 0, none⟩ = some (.int .i64 0) := (blk_cell BK373.out 0).trans rfl; have hfhcx_0 := blk_frozen BK373.out 0; have hcx_1 : wq.cell? ⟨gb373, 1, none⟩ = some (.int .i64 0) := (blk_cell BK373.out 1).trans rfl; have hfhcx_1 := blk_frozen BK373.out 1; have hcx_2 : wq.cell? ⟨gb373, 2, none⟩ = some (.int .i64 0) := (blk_cell BK373.out 2).trans rfl; have hfhcx_2 := blk_frozen BK373.out 2; have hcx_3 : wq.cell? ⟨gb373, 3, none⟩ = some (.int .i64 0) := (blk_cell BK373.out 3).trans rfl; have hfhcx_3 := blk_frozen BK373.out 3; have hcx_4 : wq.cell? ⟨gb373, 4, none⟩ = some (.int .i64 0) := (blk_cell BK373.out 4).trans rfl; have hfhcx_4 := blk_frozen BK373.out 4))
      refine bodyPost_ret (results_cell_row rfl _ _ gb373 29 #[.int .i64 a0_0, .int .i64 a0_3, .int .i64 (wrap64 (a0_2 + 1)), .int .i64 t377, .int .i64 (wrap64 (a0_4 + t375))] (0, 0) _ rfl (by (with_reducible repeat (first | refine blk_drewN ?_ _ | refine blk_drew ?_ | refine blk_alloc ?_ _)); refine blk_put (cs := #[.int .i64 a0_0, .int .i64 a0_3, .int .i64 (wrap64 (a0_2 + 1)), .int .i64 t377, .int .i64 0]) ?_ 4 _ rfl; (with_reducible repeat (first | refine blk_drewN ?_ _ | refine blk_drew ?_ | refine blk_alloc ?_ _)); refine blk_put (cs := #[.int .i64 a0_0, .int .i64 a0_3, .int .i64 (wrap64 (a0_2 + 1)), .int .i64 0, .int .i64 0]) ?_ 3 _ rfl; (with_reducible repeat (first | refine blk_drewN ?_ _ | refine blk_drew ?_ | refine blk_alloc ?_ _)); refine blk_put (cs := #[.int .i64 a0_0, .int .i64 a0_3, .int .i64 0, .int .i64 0, .int .i64 0]) ?_ 2 _ rfl; (with_reducible repeat (first | refine blk_drewN ?_ _ | refine blk_drew ?_ | refine blk_alloc ?_ _)); refine blk_put (cs := #[.int .i64 a0_0, .int .i64 0, .int .i64 0, .int .i64 0, .int .i64 0]) ?_ 1 _ rfl; (with_reducible repeat (first | refine blk_drewN ?_ _ | refine blk_drew ?_ | refine blk_alloc ?_ _)); refine blk_put (cs := #[.int .i64 0, .int .i64 0, .int .i64 0, .int .i64 0, .int .i64 0]) ?_ 0 _ rfl; (with_reducible repeat (first | refine blk_drewN ?_ _ | refine blk_drew ?_ | refine blk_alloc ?_ _)); refine blk_far ?_ NB373_376.out _; (with_reducible repeat (first | refine blk_drewN ?_ _ | refine blk_drew ?_ | refine blk_alloc ?_ _)); exact BK373.out) Try.underlying29 rfl (by kernel_rfl)) rfl ?_
      exact ⟨by first | rfl | (simp [errW_none, errW_some] <;> rfl) | (simp [*, errW_none, errW_some] <;> rfl), Rgn.bq HB.out⟩
    · rw [if_neg c6] at H
      have c6b0 : (a0_1 == 0) = false := beq_eq_false_iff_ne.mpr c6
      have c6b1 : (a0_1 != 0) = true := bne_iff_ne.mpr c6
      replace H := Option.bind_eq_some_iff.mp H
      obtain ⟨t378, A270, H⟩ := H
      replace H : (some (a0_0, a0_1, wrap64 (a0_2 + 1), t378, wrap64 (a0_4 + t375))) = some (r1, r2, r3, r4, r5) := H
      have A27 := Aside0.mk A270
      clear A270
      simp only [Option.some.injEq, Prod.mk.injEq] at H
      obtain ⟨rfl, rfl, rfl, rfl, rfl⟩ := H
      go_enter Try.func6, Try.ntmps6
      go_wp2_with (first | ((with_reducible refine gate_dst (N := 2) rfl ?_); refine box_event ?hg (N := 2) ?hd (cs := #[.int .i64 a0_0, .int .i64 a0_1, .int .i64 a0_2, .int .i64 a0_3, .int .i64 a0_4]) (t := 29) ?hr ?_; (case hd => rfl); (case hg => rfl); (case hr => first | (go_simp; done) | (go_simp; rfl)); intro gb371 hg w28 hbox hb; have n0_ := Aside0.mk (below_step (Rgn.bq HB.out) hb); have n1_ := Aside0.mk (hbox); have n2_ := Aside0.mk ((by rw [hg]; exact (below_size (Rgn.bq HB.out)) : w.heap.size ≤ gb371)); have n3_ := Aside0.mk ((by rw [hg]; exact (below_size (Rgn.bq HB.out)) : w.heap.size ≤ gb371)); clear HB; have HB := n0_; have BK371 := n1_; have GW371 := n2_; have GE371 := n3_; clear n0_ n1_ n2_ n3_; clear hb hbox hg) | ((with_reducible refine gate_dst (N := 3) rfl ?_); refine box_event ?hg (N := 3) ?hd (cs := #[.int .i64 a1_0, .slice A1_1 l1_1.length c1_1, .slice A1_2 l1_2.length c1_2]) (t := 34) ?hr ?_; (case hd => rfl); (case hg => rfl); (case hr => first | (go_simp; done) | (go_simp; rfl)); intro gb372 hg w29 hbox hb; have n0_ := Aside0.mk (Rgn.bb BK371.out hb); have n1_ := Aside0.mk (below_step (Rgn.bq HB.out) hb); have n2_ := Aside0.mk (hbox); have n3_ := Aside0.mk ((by rw [hg]; exact (below_size (Rgn.bq HB.out)) : w.heap.size ≤ gb372)); have n4_ := Aside0.mk ((by rw [hg]; exact (below_size (Rgn.bq HB.out)) : w.heap.size ≤ gb372)); have n5_ := Aside0.mk ((by rw [hg]; exact Nat.ne_of_lt (blk_lt (g := gb371) (o := .cells #[.int .i64 a0_0, .int .i64 a0_1, .int .i64 a0_2, .int .i64 a0_3, .int .i64 a0_4] 29 (0, 0)) (Rgn.kb BK371.out)) : gb371 ≠ gb372)); have n6_ := Aside0.mk ((by rw [hg]; exact Nat.ne_of_gt (blk_lt (g := gb371) (o := .cells #[.int .i64 a0_0, .int .i64 a0_1, .int .i64 a0_2, .int .i64 a0_3, .int .i64 a0_4] 29 (0, 0)) (Rgn.kb BK371.out)) : gb372 ≠ gb371)); clear BK371; clear HB; have BK371 := n0_; have HB := n1_; have BK372 := n2_; have GW372 := n3_; have GE372 := n4_; have NB371_372 := n5_; have NB372_371 := n6_; clear n0_ n1_ n2_ n3_ n4_ n5_ n6_; clear hb hbox hg) | ((with_reducible refine gate_dst (N := 4) rfl ?_); refine box_event ?hg (N := 4) ?hd (cs := #[.int .i64 0, .int .i64 0, .int .i64 0, .int .i64 0, .int .i64 0]) (t := 29) ?hr ?_; (case hd => rfl); (case hg => rfl); (case hr => first | (go_simp; done) | (go_simp; rfl)); intro gb373 hg w30 hbox hb; have n0_ := Aside0.mk (Rgn.bb BK371.out hb); have n1_ := Aside0.mk (Rgn.bb BK372.out hb); have n2_ := Aside0.mk (below_step (Rgn.bq HB.out) hb); have n3_ := Aside0.mk (hbox); have n4_ := Aside0.mk ((by rw [hg]; exact (below_size (Rgn.bq HB.out)) : w.heap.size ≤ gb373)); have n5_ := Aside0.mk ((by rw [hg]; exact (below_size (Rgn.bq HB.out)) : w.heap.size ≤ gb373)); have n6_ := Aside0.mk ((by rw [hg]; exact Nat.ne_of_lt (blk_lt (g := gb371) (o := .cells #[.int .i64 a0_0, .int .i64 a0_1, .int .i64 a0_2, .int .i64 a0_3, .int .i64 a0_4] 29 (0, 0)) (Rgn.kb BK371.out)) : gb371 ≠ gb373)); have n7_ := Aside0.mk ((by rw [hg]; exact Nat.ne_of_gt (blk_lt (g := gb371) (o := .cells #[.int .i64 a0_0, .int .i64 a0_1, .int .i64 a0_2, .int .i64 a0_3, .int .i64 a0_4] 29 (0, 0)) (Rgn.kb BK371.out)) : gb373 ≠ gb371)); have n8_ := Aside0.mk ((by rw [hg]; exact Nat.ne_of_lt (blk_lt (g := gb372) (o := .cells #[.int .i64 a1_0, .slice A1_1 l1_1.length c1_1, .slice A1_2 l1_2.length c1_2] 34 (0, 0)) (Rgn.kb BK372.out)) : gb372 ≠ gb373)); have n9_ := Aside0.mk ((by rw [hg]; exact Nat.ne_of_gt (blk_lt (g := gb372) (o := .cells #[.int .i64 a1_0, .slice A1_1 l1_1.length c1_1, .slice A1_2 l1_2.length c1_2] 34 (0, 0)) (Rgn.kb BK372.out)) : gb373 ≠ gb372)); clear BK371; clear BK372; clear HB; have BK371 := n0_; have BK372 := n1_; have HB := n2_; have BK373 := n3_; have GW373 := n4_; have GE373 := n5_; have NB371_373 := n6_; have NB373_371 := n7_; have NB372_373 := n8_; have NB373_372 := n9_; clear n0_ n1_ n2_ n3_ n4_ n5_ n6_ n7_ n8_ n9_; clear hb hbox hg; have hnb31 := NB371_372.out; have hnc31 := NB372_371.out; have hnb32 := NB371_373.out; have hnc32 := NB373_371.out; have hcz33_0 : w30.cell? ⟨gb371, 0, none⟩ = some (.int .i64 a0_0) := (blk_cell BK371.out 0).trans rfl; have hcz33_1 : w30.cell? ⟨gb371, 1, none⟩ = some (.int .i64 a0_1) := (blk_cell BK371.out 1).trans rfl; have hcz33_2 : w30.cell? ⟨gb371, 2, none⟩ = some (.int .i64 a0_2) := (blk_cell BK371.out 2).trans rfl; have hcz33_3 : w30.cell? ⟨gb371, 3, none⟩ = some (.int .i64 a0_3) := (blk_cell BK371.out 3).trans rfl; have hcz33_4 : w30.cell? ⟨gb371, 4, none⟩ = some (.int .i64 a0_4) := (blk_cell BK371.out 4).trans rfl; have hfz33_0 := blk_frozen BK371.out 0; have hfz33_1 := blk_frozen BK371.out 1; have hfz33_2 := blk_frozen BK371.out 2; have hfz33_3 := blk_frozen BK371.out 3; have hfz33_4 := blk_frozen BK371.out 4; have hnb34 := NB372_373.out; have hnc34 := NB373_372.out; have hcz35_0 : w30.cell? ⟨gb372, 0, none⟩ = some (.int .i64 a1_0) := (blk_cell BK372.out 0).trans rfl; have hcz35_1 : w30.cell? ⟨gb372, 1, none⟩ = some (.slice A1_1 l1_1.length c1_1) := (blk_cell BK372.out 1).trans rfl; have hcz35_2 : w30.cell? ⟨gb372, 2, none⟩ = some (.slice A1_2 l1_2.length c1_2) := (blk_cell BK372.out 2).trans rfl; have hfz35_0 := blk_frozen BK372.out 0; have hfz35_1 := blk_frozen BK372.out 1; have hfz35_2 := blk_frozen BK372.out 2) | ((with_reducible refine gate_callee (f := 23) rfl ?_); refine Rgn.gl (some 9) Try.func23 #[.agg #[.int .i64 a0_0, .int .i64 a0_1, .int .i64 a0_2, .int .i64 a0_3, .int .i64 a0_4], .agg #[.int .i64 a1_0, .slice A1_1 l1_1.length c1_1, .slice A1_2 l1_2.length c1_2]] ?_; (with_reducible refine (spec_l4Takes.calls k a0_0 a0_1 a0_2 a0_3 a0_4 a1_0 _ _ l1_1 _ _ l1_2 true _ ?side1 ?side2 ?side3 ?side4 A3.out).mono ?_); (case side1 => exact Rgn.cq (Kd.C_below HR1_1.out HB.out)); (case side2 => exact HC1_1.out); (case side3 => exact Rgn.cq (Kd.C_below HR1_2.out HB.out)); (case side4 => exact HC1_2.out); rintro e w36 ⟨rfl, hb⟩; refine ⟨_, rfl, ?_⟩; have n0_ := Aside0.mk (Rgn.bb BK371.out hb); have n1_ := Aside0.mk (Rgn.bb BK372.out hb); have n2_ := Aside0.mk (Rgn.bb BK373.out hb); have n3_ := Aside0.mk (below_step (Rgn.bq HB.out) hb); clear BK371; clear BK372; clear BK373; clear HB; have BK371 := n0_; have BK372 := n1_; have BK373 := n2_; have HB := n3_; clear n0_ n1_ n2_ n3_; (try clear hb); (try clear hb2); (try clear hk); (try clear hi); have hcz37_0 : w36.cell? ⟨gb372, 0, none⟩ = some (.int .i64 a1_0) := (blk_cell BK372.out 0).trans rfl; have hcz37_1 : w36.cell? ⟨gb372, 1, none⟩ = some (.slice A1_1 l1_1.length c1_1) := (blk_cell BK372.out 1).trans rfl; have hcz37_2 : w36.cell? ⟨gb372, 2, none⟩ = some (.slice A1_2 l1_2.length c1_2) := (blk_cell BK372.out 2).trans rfl; have hfz37_0 := blk_frozen BK372.out 0; have hfz37_1 := blk_frozen BK372.out 1; have hfz37_2 := blk_frozen BK372.out 2) | ((with_reducible refine gate_callee (f := 24) rfl ?_); refine Rgn.gl (some 13) Try.func24 #[.agg #[.int .i64 a1_0, .slice A1_1 l1_1.length c1_1, .slice A1_2 l1_2.length c1_2]] ?_; (with_reducible refine (spec_TxnLength.calls k a1_0 _ _ l1_1 _ _ l1_2 t375 _ ?side1 ?side2 ?side3 ?side4 A5.out).mono ?_); (case side1 => exact Rgn.cq (Kd.C_below HR1_1.out HB.out)); (case side2 => exact HC1_1.out); (case side3 => exact Rgn.cq (Kd.C_below HR1_2.out HB.out)); (case side4 => exact HC1_2.out); rintro e w38 ⟨rfl, hb⟩; refine ⟨_, rfl, ?_⟩; have n0_ := Aside0.mk (Rgn.bb BK371.out hb); have n1_ := Aside0.mk (Rgn.bb BK372.out hb); have n2_ := Aside0.mk (Rgn.bb BK373.out hb); have n3_ := Aside0.mk (below_step (Rgn.bq HB.out) hb); clear BK371; clear BK372; clear BK373; clear HB; have BK371 := n0_; have BK372 := n1_; have BK373 := n2_; have HB := n3_; clear n0_ n1_ n2_ n3_; (try clear hb); (try clear hb2); (try clear hk); (try clear hi); have hcz39_0 : w38.cell? ⟨gb371, 0, none⟩ = some (.int .i64 a0_0) := (blk_cell BK371.out 0).trans rfl; have hcz39_1 : w38.cell? ⟨gb371, 1, none⟩ = some (.int .i64 a0_1) := (blk_cell BK371.out 1).trans rfl; have hcz39_2 : w38.cell? ⟨gb371, 2, none⟩ = some (.int .i64 a0_2) := (blk_cell BK371.out 2).trans rfl; have hcz39_3 : w38.cell? ⟨gb371, 3, none⟩ = some (.int .i64 a0_3) := (blk_cell BK371.out 3).trans rfl; have hcz39_4 : w38.cell? ⟨gb371, 4, none⟩ = some (.int .i64 a0_4) := (blk_cell BK371.out 4).trans rfl; have hfz39_0 := blk_frozen BK371.out 0; have hfz39_1 := blk_frozen BK371.out 1; have hfz39_2 := blk_frozen BK371.out 2; have hfz39_3 := blk_frozen BK371.out 3; have hfz39_4 := blk_frozen BK371.out 4) | ((with_reducible refine gate_dst (N := 6) rfl ?_); refine box_event ?hg (N := 6) ?hd (cs := #[.int .i64 0, .int .i64 0, .int .i64 0, .int .i64 0, .int .i64 0]) (t := 29) ?hr ?_; (case hd => rfl); (case hg => rfl); (case hr => first | (go_simp; done) | (go_simp; rfl)); intro gb376 hg w40 hbox hb; have n0_ := Aside0.mk (Rgn.bb BK371.out hb); have n1_ := Aside0.mk (Rgn.bb BK372.out hb); have n2_ := Aside0.mk (Rgn.bb BK373.out hb); have n3_ := Aside0.mk (below_step (Rgn.bq HB.out) hb); have n4_ := Aside0.mk (hbox); have n5_ := Aside0.mk ((by rw [hg]; exact (below_size (Rgn.bq HB.out)) : w.heap.size ≤ gb376)); have n6_ := Aside0.mk ((by rw [hg]; exact (below_size (Rgn.bq HB.out)) : w.heap.size ≤ gb376)); have n7_ := Aside0.mk ((by rw [hg]; exact Nat.ne_of_lt (blk_lt (g := gb371) (o := .cells #[.int .i64 a0_0, .int .i64 a0_1, .int .i64 a0_2, .int .i64 a0_3, .int .i64 a0_4] 29 (0, 0)) (Rgn.kb BK371.out)) : gb371 ≠ gb376)); have n8_ := Aside0.mk ((by rw [hg]; exact Nat.ne_of_gt (blk_lt (g := gb371) (o := .cells #[.int .i64 a0_0, .int .i64 a0_1, .int .i64 a0_2, .int .i64 a0_3, .int .i64 a0_4] 29 (0, 0)) (Rgn.kb BK371.out)) : gb376 ≠ gb371)); have n9_ := Aside0.mk ((by rw [hg]; exact Nat.ne_of_lt (blk_lt (g := gb372) (o := .cells #[.int .i64 a1_0, .slice A1_1 l1_1.length c1_1, .slice A1_2 l1_2.length c1_2] 34 (0, 0)) (Rgn.kb BK372.out)) : gb372 ≠ gb376)); have n10_ := Aside0.mk ((by rw [hg]; exact Nat.ne_of_gt (blk_lt (g := gb372) (o := .cells #[.int .i64 a1_0, .slice A1_1 l1_1.length c1_1, .slice A1_2 l1_2.length c1_2] 34 (0, 0)) (Rgn.kb BK372.out)) : gb376 ≠ gb372)); have n11_ := Aside0.mk ((by rw [hg]; exact Nat.ne_of_lt (blk_lt (g := gb373) (o := .cells #[.int .i64 0, .int .i64 0, .int .i64 0, .int .i64 0, .int .i64 0] 29 (0, 0)) (Rgn.kb BK373.out)) : gb373 ≠ gb376)); have n12_ := Aside0.mk ((by rw [hg]; exact Nat.ne_of_gt (blk_lt (g := gb373) (o := .cells #[.int .i64 0, .int .i64 0, .int .i64 0, .int .i64 0, .int .i64 0] 29 (0, 0)) (Rgn.kb BK373.out)) : gb376 ≠ gb373)); clear BK371; clear BK372; clear BK373; clear HB; have BK371 := n0_; have BK372 := n1_; have BK373 := n2_; have HB := n3_; have BK376 := n4_; have GW376 := n5_; have GE376 := n6_; have NB371_376 := n7_; have NB376_371 := n8_; have NB372_376 := n9_; have NB376_372 := n10_; have NB373_376 := n11_; have NB376_373 := n12_; clear n0_ n1_ n2_ n3_ n4_ n5_ n6_ n7_ n8_ n9_ n10_ n11_ n12_; clear hb hbox hg; have hnb41 := NB376_371.out; have hnc41 := NB371_376.out; have hnb42 := NB376_372.out; have hnc42 := NB372_376.out; have hnb43 := NB376_373.out; have hnc43 := NB373_376.out; have hcz44_0 : w40.cell? ⟨gb376, 0, none⟩ = some (.int .i64 0) := (blk_cell BK376.out 0).trans rfl; have hcz44_1 : w40.cell? ⟨gb376, 1, none⟩ = some (.int .i64 0) := (blk_cell BK376.out 1).trans rfl; have hcz44_2 : w40.cell? ⟨gb376, 2, none⟩ = some (.int .i64 0) := (blk_cell BK376.out 2).trans rfl; have hcz44_3 : w40.cell? ⟨gb376, 3, none⟩ = some (.int .i64 0) := (blk_cell BK376.out 3).trans rfl; have hcz44_4 : w40.cell? ⟨gb376, 4, none⟩ = some (.int .i64 0) := (blk_cell BK376.out 4).trans rfl; have hfz44_0 := blk_frozen BK376.out 0; have hfz44_1 := blk_frozen BK376.out 1; have hfz44_2 := blk_frozen BK376.out 2; have hfz44_3 := blk_frozen BK376.out 3; have hfz44_4 := blk_frozen BK376.out 4; have hcz45_0 : w40.cell? ⟨gb371, 0, none⟩ = some (.int .i64 a0_0) := (blk_cell BK371.out 0).trans rfl; have hcz45_1 : w40.cell? ⟨gb371, 1, none⟩ = some (.int .i64 a0_1) := (blk_cell BK371.out 1).trans rfl; have hcz45_2 : w40.cell? ⟨gb371, 2, none⟩ = some (.int .i64 a0_2) := (blk_cell BK371.out 2).trans rfl; have hcz45_3 : w40.cell? ⟨gb371, 3, none⟩ = some (.int .i64 a0_3) := (blk_cell BK371.out 3).trans rfl; have hcz45_4 : w40.cell? ⟨gb371, 4, none⟩ = some (.int .i64 a0_4) := (blk_cell BK371.out 4).trans rfl; have hfz45_0 := blk_frozen BK371.out 0; have hfz45_1 := blk_frozen BK371.out 1; have hfz45_2 := blk_frozen BK371.out 2; have hfz45_3 := blk_frozen BK371.out 3; have hfz45_4 := blk_frozen BK371.out 4) | ((with_reducible refine gate_callee (f := 25) rfl ?_); refine Rgn.gl (some 35) Try.func25 #[.int .i64 a0_0, .int .i64 a0_3, .int .i64 t375] ?_; (with_reducible refine (spec_l4Place.calls a0_0 a0_3 t375 t378 _ A27.out).mono ?_); rintro e wq ⟨rfl, hq⟩; have n0_ : wq.heap[gb376]? = some (.cells #[.int .i64 a0_0, .int .i64 a0_1, .int .i64 (wrap64 (a0_2 + 1)), .int .i64 a0_3, .int .i64 (wrap64 (a0_4 + t375))] 29 (0, 0)) := (by obtain ⟨nd, rfl⟩ := hq; (with_reducible repeat (first | refine blk_drewN ?_ _ | refine blk_drew ?_ | refine blk_alloc ?_ _)); refine blk_put (cs := #[.int .i64 a0_0, .int .i64 a0_1, .int .i64 (wrap64 (a0_2 + 1)), .int .i64 a0_3, .int .i64 a0_4]) ?_ 4 _ rfl; (with_reducible repeat (first | refine blk_drewN ?_ _ | refine blk_drew ?_ | refine blk_alloc ?_ _)); refine blk_put (cs := #[.int .i64 a0_0, .int .i64 a0_1, .int .i64 a0_2, .int .i64 a0_3, .int .i64 a0_4]) ?_ 2 _ rfl; (with_reducible repeat (first | refine blk_drewN ?_ _ | refine blk_drew ?_ | refine blk_alloc ?_ _)); refine blk_put (cs := #[.int .i64 a0_0, .int .i64 a0_1, .int .i64 a0_2, .int .i64 a0_3, .int .i64 0]) ?_ 4 _ rfl; (with_reducible repeat (first | refine blk_drewN ?_ _ | refine blk_drew ?_ | refine blk_alloc ?_ _)); refine blk_put (cs := #[.int .i64 a0_0, .int .i64 a0_1, .int .i64 a0_2, .int .i64 0, .int .i64 0]) ?_ 3 _ rfl; (with_reducible repeat (first | refine blk_drewN ?_ _ | refine blk_drew ?_ | refine blk_alloc ?_ _)); refine blk_put (cs := #[.int .i64 a0_0, .int .i64 a0_1, .int .i64 0, .int .i64 0, .int .i64 0]) ?_ 2 _ rfl; (with_reducible repeat (first | refine blk_drewN ?_ _ | refine blk_drew ?_ | refine blk_alloc ?_ _)); refine blk_put (cs := #[.int .i64 a0_0, .int .i64 0, .int .i64 0, .int .i64 0, .int .i64 0]) ?_ 1 _ rfl; (with_reducible repeat (first | refine blk_drewN ?_ _ | refine blk_drew ?_ | refine blk_alloc ?_ _)); refine blk_put (cs := #[.int .i64 0, .int .i64 0, .int .i64 0, .int .i64 0, .int .i64 0]) ?_ 0 _ rfl; (with_reducible repeat (first | refine blk_drewN ?_ _ | refine blk_drew ?_ | refine blk_alloc ?_ _)); exact BK376.out); have n1_ : wq.heap[gb373]? = some (.cells #[.int .i64 0, .int .i64 0, .int .i64 0, .int .i64 0, .int .i64 0] 29 (0, 0)) := (by obtain ⟨nd, rfl⟩ := hq; (with_reducible repeat (first | refine blk_drewN ?_ _ | refine blk_drew ?_ | refine blk_alloc ?_ _ | refine blk_far ?_ NB373_376.out _)); exact BK373.out); have n2_ : Below w.heap.size w wq := (by obtain ⟨nd, rfl⟩ := hq; exact Rgn.bq HB.out); clear hq; clear BK376; clear BK373; clear HB; have BK376 := Aside0.mk n0_; have BK373 := Aside0.mk n1_; have HB := Aside0.mk n2_; clear n0_ n1_ n2_; refine ⟨_, rfl, ?_⟩; have hcy_0 : wq.cell? ⟨gb376, 0, none⟩ = some (.int .i64 a0_0) := (blk_cell BK376.out 0).trans rfl; have hfhcy_0 := blk_frozen BK376.out 0; have hcy_1 : wq.cell? ⟨gb376, 1, none⟩ = some (.int .i64 a0_1) := (blk_cell BK376.out 1).trans rfl; have hfhcy_1 := blk_frozen BK376.out 1; have hcy_2 : wq.cell? ⟨gb376, 2, none⟩ = some (.int .i64 (wrap64 (a0_2 + 1))) := (blk_cell BK376.out 2).trans rfl; have hfhcy_2 := blk_frozen BK376.out 2; have hcy_3 : wq.cell? ⟨gb376, 3, none⟩ = some (.int .i64 a0_3) := (blk_cell BK376.out 3).trans rfl; have hfhcy_3 := blk_frozen BK376.out 3; have hcy_4 : wq.cell? ⟨gb376, 4, none⟩ = some (.int .i64 (wrap64 (a0_4 + t375))) := (blk_cell BK376.out 4).trans rfl; have hfhcy_4 := blk_frozen BK376.out 4; have hcx_0 : wq.cell? ⟨gb373, 0, none⟩ = some (.int .i64 0) := (blk_cell BK373.out 0).trans rfl; have hfhcx_0 := blk_frozen BK373.out 0; have hcx_1 : wq.cell? ⟨gb373, 1, none⟩ = some (.int .i64 0) := (blk_cell BK373.out 1).trans rfl; have hfhcx_1 := blk_frozen BK373.out 1; have hcx_2 : wq.cell? ⟨gb373, 2, none⟩ = some (.int .i64 0) := (blk_cell BK373.out 2).trans rfl; have hfhcx_2 := blk_frozen BK373.out 2; have hcx_3 : wq.cell? ⟨gb373, 3, none⟩ = some (.int .i64 0) := (blk_cell BK373.out 3).trans rfl; have hfhcx_3 := blk_frozen BK373.out 3; have hcx_4 : wq.cell? ⟨gb373, 4, none⟩ = some (.int .i64 0) := (blk_cell BK373.out 4).trans rfl; have hfhcx_4 := blk_frozen BK373.out 4))
      refine bodyPost_ret (results_cell_row rfl _ _ gb373 29 #[.int .i64 a0_0, .int .i64 a0_1, .int .i64 (wrap64 (a0_2 + 1)), .int .i64 t378, .int .i64 (wrap64 (a0_4 + t375))] (0, 0) _ rfl (by (with_reducible repeat (first | refine blk_drewN ?_ _ | refine blk_drew ?_ | refine blk_alloc ?_ _)); refine blk_put (cs := #[.int .i64 a0_0, .int .i64 a0_1, .int .i64 (wrap64 (a0_2 + 1)), .int .i64 t378, .int .i64 0]) ?_ 4 _ rfl; (with_reducible repeat (first | refine blk_drewN ?_ _ | refine blk_drew ?_ | refine blk_alloc ?_ _)); refine blk_put (cs := #[.int .i64 a0_0, .int .i64 a0_1, .int .i64 (wrap64 (a0_2 + 1)), .int .i64 0, .int .i64 0]) ?_ 3 _ rfl; (with_reducible repeat (first | refine blk_drewN ?_ _ | refine blk_drew ?_ | refine blk_alloc ?_ _)); refine blk_put (cs := #[.int .i64 a0_0, .int .i64 a0_1, .int .i64 0, .int .i64 0, .int .i64 0]) ?_ 2 _ rfl; (with_reducible repeat (first | refine blk_drewN ?_ _ | refine blk_drew ?_ | refine blk_alloc ?_ _)); refine blk_put (cs := #[.int .i64 a0_0, .int .i64 0, .int .i64 0, .int .i64 0, .int .i64 0]) ?_ 1 _ rfl; (with_reducible repeat (first | refine blk_drewN ?_ _ | refine blk_drew ?_ | refine blk_alloc ?_ _)); refine blk_put (cs := #[.int .i64 0, .int .i64 0, .int .i64 0, .int .i64 0, .int .i64 0]) ?_ 0 _ rfl; (with_reducible repeat (first | refine blk_drewN ?_ _ | refine blk_drew ?_ | refine blk_alloc ?_ _)); refine blk_far ?_ NB373_376.out _; (with_reducible repeat (first | refine blk_drewN ?_ _ | refine blk_drew ?_ | refine blk_alloc ?_ _)); exact BK373.out) Try.underlying29 rfl (by kernel_rfl)) rfl ?_
      exact ⟨by first | rfl | (simp [errW_none, errW_some] <;> rfl) | (simp [*, errW_none, errW_some] <;> rfl), Rgn.bq HB.out⟩
  · replace c4 := Bool.eq_false_iff.mpr c4
    subst c4
    have H1 : (some (0, 0, 0, 0, 0)) = some (r1, r2, r3, r4, r5) := by rw [if_neg (show ¬ (false = true) by decide)] at H; exact H
    clear H
    have H := H1
    clear H1
    simp only [Option.some.injEq, Prod.mk.injEq] at H
    obtain ⟨rfl, rfl, rfl, rfl, rfl⟩ := H
    go_enter Try.func6, Try.ntmps6
    go_wp2_with (first | ((with_reducible refine gate_dst (N := 2) rfl ?_); refine box_event ?hg (N := 2) ?hd (cs := #[.int .i64 a0_0, .int .i64 a0_1, .int .i64 a0_2, .int .i64 a0_3, .int .i64 a0_4]) (t := 29) ?hr ?_; (case hd => rfl); (case hg => rfl); (case hr => first | (go_simp; done) | (go_simp; rfl)); intro gb371 hg w47 hbox hb; have n0_ := Aside0.mk (below_step (Rgn.bq HB.out) hb); have n1_ := Aside0.mk (hbox); have n2_ := Aside0.mk ((by rw [hg]; exact (below_size (Rgn.bq HB.out)) : w.heap.size ≤ gb371)); have n3_ := Aside0.mk ((by rw [hg]; exact (below_size (Rgn.bq HB.out)) : w.heap.size ≤ gb371)); clear HB; have HB := n0_; have BK371 := n1_; have GW371 := n2_; have GE371 := n3_; clear n0_ n1_ n2_ n3_; clear hb hbox hg) | ((with_reducible refine gate_dst (N := 3) rfl ?_); refine box_event ?hg (N := 3) ?hd (cs := #[.int .i64 a1_0, .slice A1_1 l1_1.length c1_1, .slice A1_2 l1_2.length c1_2]) (t := 34) ?hr ?_; (case hd => rfl); (case hg => rfl); (case hr => first | (go_simp; done) | (go_simp; rfl)); intro gb372 hg w48 hbox hb; have n0_ := Aside0.mk (Rgn.bb BK371.out hb); have n1_ := Aside0.mk (below_step (Rgn.bq HB.out) hb); have n2_ := Aside0.mk (hbox); have n3_ := Aside0.mk ((by rw [hg]; exact (below_size (Rgn.bq HB.out)) : w.heap.size ≤ gb372)); have n4_ := Aside0.mk ((by rw [hg]; exact (below_size (Rgn.bq HB.out)) : w.heap.size ≤ gb372)); have n5_ := Aside0.mk ((by rw [hg]; exact Nat.ne_of_lt (blk_lt (g := gb371) (o := .cells #[.int .i64 a0_0, .int .i64 a0_1, .int .i64 a0_2, .int .i64 a0_3, .int .i64 a0_4] 29 (0, 0)) (Rgn.kb BK371.out)) : gb371 ≠ gb372)); have n6_ := Aside0.mk ((by rw [hg]; exact Nat.ne_of_gt (blk_lt (g := gb371) (o := .cells #[.int .i64 a0_0, .int .i64 a0_1, .int .i64 a0_2, .int .i64 a0_3, .int .i64 a0_4] 29 (0, 0)) (Rgn.kb BK371.out)) : gb372 ≠ gb371)); clear BK371; clear HB; have BK371 := n0_; have HB := n1_; have BK372 := n2_; have GW372 := n3_; have GE372 := n4_; have NB371_372 := n5_; have NB372_371 := n6_; clear n0_ n1_ n2_ n3_ n4_ n5_ n6_; clear hb hbox hg) | ((with_reducible refine gate_dst (N := 4) rfl ?_); refine box_event ?hg (N := 4) ?hd (cs := #[.int .i64 0, .int .i64 0, .int .i64 0, .int .i64 0, .int .i64 0]) (t := 29) ?hr ?_; (case hd => rfl); (case hg => rfl); (case hr => first | (go_simp; done) | (go_simp; rfl)); intro gb373 hg w49 hbox hb; have n0_ := Aside0.mk (Rgn.bb BK371.out hb); have n1_ := Aside0.mk (Rgn.bb BK372.out hb); have n2_ := Aside0.mk (below_step (Rgn.bq HB.out) hb); have n3_ := Aside0.mk (hbox); have n4_ := Aside0.mk ((by rw [hg]; exact (below_size (Rgn.bq HB.out)) : w.heap.size ≤ gb373)); have n5_ := Aside0.mk ((by rw [hg]; exact (below_size (Rgn.bq HB.out)) : w.heap.size ≤ gb373)); have n6_ := Aside0.mk ((by rw [hg]; exact Nat.ne_of_lt (blk_lt (g := gb371) (o := .cells #[.int .i64 a0_0, .int .i64 a0_1, .int .i64 a0_2, .int .i64 a0_3, .int .i64 a0_4] 29 (0, 0)) (Rgn.kb BK371.out)) : gb371 ≠ gb373)); have n7_ := Aside0.mk ((by rw [hg]; exact Nat.ne_of_gt (blk_lt (g := gb371) (o := .cells #[.int .i64 a0_0, .int .i64 a0_1, .int .i64 a0_2, .int .i64 a0_3, .int .i64 a0_4] 29 (0, 0)) (Rgn.kb BK371.out)) : gb373 ≠ gb371)); have n8_ := Aside0.mk ((by rw [hg]; exact Nat.ne_of_lt (blk_lt (g := gb372) (o := .cells #[.int .i64 a1_0, .slice A1_1 l1_1.length c1_1, .slice A1_2 l1_2.length c1_2] 34 (0, 0)) (Rgn.kb BK372.out)) : gb372 ≠ gb373)); have n9_ := Aside0.mk ((by rw [hg]; exact Nat.ne_of_gt (blk_lt (g := gb372) (o := .cells #[.int .i64 a1_0, .slice A1_1 l1_1.length c1_1, .slice A1_2 l1_2.length c1_2] 34 (0, 0)) (Rgn.kb BK372.out)) : gb373 ≠ gb372)); clear BK371; clear BK372; clear HB; have BK371 := n0_; have BK372 := n1_; have HB := n2_; have BK373 := n3_; have GW373 := n4_; have GE373 := n5_; have NB371_373 := n6_; have NB373_371 := n7_; have NB372_373 := n8_; have NB373_372 := n9_; clear n0_ n1_ n2_ n3_ n4_ n5_ n6_ n7_ n8_ n9_; clear hb hbox hg; have hnb50 := NB371_372.out; have hnc50 := NB372_371.out; have hnb51 := NB371_373.out; have hnc51 := NB373_371.out; have hcz52_0 : w49.cell? ⟨gb371, 0, none⟩ = some (.int .i64 a0_0) := (blk_cell BK371.out 0).trans rfl; have hcz52_1 : w49.cell? ⟨gb371, 1, none⟩ = some (.int .i64 a0_1) := (blk_cell BK371.out 1).trans rfl; have hcz52_2 : w49.cell? ⟨gb371, 2, none⟩ = some (.int .i64 a0_2) := (blk_cell BK371.out 2).trans rfl; have hcz52_3 : w49.cell? ⟨gb371, 3, none⟩ = some (.int .i64 a0_3) := (blk_cell BK371.out 3).trans rfl; have hcz52_4 : w49.cell? ⟨gb371, 4, none⟩ = some (.int .i64 a0_4) := (blk_cell BK371.out 4).trans rfl; have hfz52_0 := blk_frozen BK371.out 0; have hfz52_1 := blk_frozen BK371.out 1; have hfz52_2 := blk_frozen BK371.out 2; have hfz52_3 := blk_frozen BK371.out 3; have hfz52_4 := blk_frozen BK371.out 4; have hnb53 := NB372_373.out; have hnc53 := NB373_372.out; have hcz54_0 : w49.cell? ⟨gb372, 0, none⟩ = some (.int .i64 a1_0) := (blk_cell BK372.out 0).trans rfl; have hcz54_1 : w49.cell? ⟨gb372, 1, none⟩ = some (.slice A1_1 l1_1.length c1_1) := (blk_cell BK372.out 1).trans rfl; have hcz54_2 : w49.cell? ⟨gb372, 2, none⟩ = some (.slice A1_2 l1_2.length c1_2) := (blk_cell BK372.out 2).trans rfl; have hfz54_0 := blk_frozen BK372.out 0; have hfz54_1 := blk_frozen BK372.out 1; have hfz54_2 := blk_frozen BK372.out 2) | ((with_reducible refine gate_callee (f := 23) rfl ?_); refine Rgn.gl (some 9) Try.func23 #[.agg #[.int .i64 a0_0, .int .i64 a0_1, .int .i64 a0_2, .int .i64 a0_3, .int .i64 a0_4], .agg #[.int .i64 a1_0, .slice A1_1 l1_1.length c1_1, .slice A1_2 l1_2.length c1_2]] ?_; (with_reducible refine (spec_l4Takes.calls k a0_0 a0_1 a0_2 a0_3 a0_4 a1_0 _ _ l1_1 _ _ l1_2 false _ ?side1 ?side2 ?side3 ?side4 A3.out).mono ?_); (case side1 => exact Rgn.cq (Kd.C_below HR1_1.out HB.out)); (case side2 => exact HC1_1.out); (case side3 => exact Rgn.cq (Kd.C_below HR1_2.out HB.out)); (case side4 => exact HC1_2.out); rintro e w55 ⟨rfl, hb⟩; refine ⟨_, rfl, ?_⟩; have n0_ := Aside0.mk (Rgn.bb BK371.out hb); have n1_ := Aside0.mk (Rgn.bb BK372.out hb); have n2_ := Aside0.mk (Rgn.bb BK373.out hb); have n3_ := Aside0.mk (below_step (Rgn.bq HB.out) hb); clear BK371; clear BK372; clear BK373; clear HB; have BK371 := n0_; have BK372 := n1_; have BK373 := n2_; have HB := n3_; clear n0_ n1_ n2_ n3_; (try clear hb); (try clear hb2); (try clear hk); (try clear hi); have hcz56_0 : w55.cell? ⟨gb373, 0, none⟩ = some (.int .i64 0) := (blk_cell BK373.out 0).trans rfl; have hcz56_1 : w55.cell? ⟨gb373, 1, none⟩ = some (.int .i64 0) := (blk_cell BK373.out 1).trans rfl; have hcz56_2 : w55.cell? ⟨gb373, 2, none⟩ = some (.int .i64 0) := (blk_cell BK373.out 2).trans rfl; have hcz56_3 : w55.cell? ⟨gb373, 3, none⟩ = some (.int .i64 0) := (blk_cell BK373.out 3).trans rfl; have hcz56_4 : w55.cell? ⟨gb373, 4, none⟩ = some (.int .i64 0) := (blk_cell BK373.out 4).trans rfl; have hfz56_0 := blk_frozen BK373.out 0; have hfz56_1 := blk_frozen BK373.out 1; have hfz56_2 := blk_frozen BK373.out 2; have hfz56_3 := blk_frozen BK373.out 3; have hfz56_4 := blk_frozen BK373.out 4))
    refine bodyPost_ret (results_cell_row rfl _ _ gb373 29 #[.int .i64 0, .int .i64 0, .int .i64 0, .int .i64 0, .int .i64 0] (0, 0) _ rfl (by (with_reducible repeat (first | refine blk_drewN ?_ _ | refine blk_drew ?_ | refine blk_alloc ?_ _)); refine blk_put (cs := #[.int .i64 0, .int .i64 0, .int .i64 0, .int .i64 0, .int .i64 0]) ?_ 4 _ rfl; (with_reducible repeat (first | refine blk_drewN ?_ _ | refine blk_drew ?_ | refine blk_alloc ?_ _)); refine blk_put (cs := #[.int .i64 0, .int .i64 0, .int .i64 0, .int .i64 0, .int .i64 0]) ?_ 3 _ rfl; (with_reducible repeat (first | refine blk_drewN ?_ _ | refine blk_drew ?_ | refine blk_alloc ?_ _)); refine blk_put (cs := #[.int .i64 0, .int .i64 0, .int .i64 0, .int .i64 0, .int .i64 0]) ?_ 2 _ rfl; (with_reducible repeat (first | refine blk_drewN ?_ _ | refine blk_drew ?_ | refine blk_alloc ?_ _)); refine blk_put (cs := #[.int .i64 0, .int .i64 0, .int .i64 0, .int .i64 0, .int .i64 0]) ?_ 1 _ rfl; (with_reducible repeat (first | refine blk_drewN ?_ _ | refine blk_drew ?_ | refine blk_alloc ?_ _)); refine blk_put (cs := #[.int .i64 0, .int .i64 0, .int .i64 0, .int .i64 0, .int .i64 0]) ?_ 0 _ rfl; (with_reducible repeat (first | refine blk_drewN ?_ _ | refine blk_drew ?_ | refine blk_alloc ?_ _)); exact BK373.out) Try.underlying29 rfl (by kernel_rfl)) rfl ?_
    exact ⟨by first | rfl | (simp [errW_none, errW_some] <;> rfl) | (simp [*, errW_none, errW_some] <;> rfl), Rgn.bq HB.out⟩

end Go.Proofs.Ytkehfdadplpaeaa.PFnExactLogNext
