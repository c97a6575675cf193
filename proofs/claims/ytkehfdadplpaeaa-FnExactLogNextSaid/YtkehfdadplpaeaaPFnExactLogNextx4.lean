-- written by a program of this session (wip/src/print2.py)
import Derived.Test.YtkehfdadplpaeaaPFnExactLogNextx0
import Derived.Test.YtkehfdadplpaeaaPFnExactLogNextx1
import Derived.Test.YtkehfdadplpaeaaPFnExactLogNextx2
import Derived.Test.YtkehfdadplpaeaaPFnExactLogNextx3
namespace Go.Proofs.Ytkehfdadplpaeaa.PFnExactLogNext
open Go.RowKit Go.Proofs.YtkehfdadplpaeaaW.PrintWords Go.Proofs.YtkehfdadplpaeaaW.PrintLast Go.Proofs.YtkehfdadplpaeaaW.PrintMore
attribute [local go_sem] max2_int min2_int max_two min_two max_three min_three max_four min_four   -- for this text's walks alone
set_option linter.unusedVariables false
set_option linter.unusedSimpArgs false

/-! ### spec_EncodeDescriptor: function 67 -/
mutual
def spec_EncodeDescriptor.j0 : Nat → Int → Bool → Int → List (S101) → Option (List Int)
  | 0, _, _, _, _ => none
  | k + 1, x3, x23, x243000, x243001 => if x23 = true then (some (([] : List Int))) else ((spec_l3Head.f k 2 x3 x243000).bind fun t247 => (spec_EncodeDescriptor.l0 k x3 t247 0 x243000 x243001))
def spec_EncodeDescriptor.l0 : Nat → Int → List Int → Int → Int → List (S101) → Option (List Int)
  | 0, _, _, _, _, _ => none
  | k + 1, x3, x5, x6, x243000, x243001 => if x6 < x3 then (if 0 ≤ x6 then (if x6 < (x243001.length : Int) then ((spec_l3GoodBlock.f ((rd_T101 x243001 x6).f0)).bind fun t254 => (if t254 = true then (if x6 > 0 then (if 0 ≤ (wrap64 (x6 - 1)) then (if (wrap64 (x6 - 1)) < (x243001.length : Int) then (spec_EncodeDescriptor.j2 k x3 x5 x6 (decide (((rd_T101 x243001 (wrap64 (x6 - 1))).f0) ≥ ((rd_T101 x243001 x6).f0))) x243000 x243001) else (none)) else (none)) else (spec_EncodeDescriptor.j2 k x3 x5 x6 false x243000 x243001)) else (spec_EncodeDescriptor.j2 k x3 x5 x6 true x243000 x243001))) else (none)) else (none)) else ((spec_l3Pad.f x5).bind fun t250 => (some t250))
def spec_EncodeDescriptor.j2 : Nat → Int → List Int → Int → Bool → Int → List (S101) → Option (List Int)
  | 0, _, _, _, _, _, _ => none
  | k + 1, x3, x5, x6, x62, x243000, x243001 => if x62 = true then (some (([] : List Int))) else (if 0 ≤ x6 then (if x6 < (x243001.length : Int) then ((spec_PutNumber.f k ((rd_T101 x243001 x6).f0) 2).bind fun t261 => (if x5.length + t261.length < 140737488355328 then ((some (x5 ++ t261 : List Int)).bind fun y264 => (if (rd_T101 x243001 x6).f1 = true then (if y264.length < 140737488355328 then (spec_EncodeDescriptor.l0 k x3 (y264 ++ [1]) (wrap64 (x6 + 1)) x243000 x243001) else (none)) else (if y264.length < 140737488355328 then (spec_EncodeDescriptor.l0 k x3 (y264 ++ [0]) (wrap64 (x6 + 1)) x243000 x243001) else (none)))) else (none))) else (none)) else (none))
end
def spec_EncodeDescriptor.f (k : Nat) (a0_0 : Int) (l0_1 : List (S101)) : Option (List Int) := (spec_l3GoodSeq.f a0_0).bind fun t243 => (if t243 = true then (if (l0_1.length : Int) < 1 then (spec_EncodeDescriptor.j0 k (l0_1.length : Int) true a0_0 l0_1) else (spec_EncodeDescriptor.j0 k (l0_1.length : Int) (decide ((l0_1.length : Int) > 17)) a0_0 l0_1)) else (spec_EncodeDescriptor.j0 k (l0_1.length : Int) true a0_0 l0_1))
theorem spec_EncodeDescriptor.mono_l : ∀ k, (∀ y0 y1 y2 y3, LeO (spec_EncodeDescriptor.j0 k y0 y1 y2 y3) (spec_EncodeDescriptor.j0 (k + 1) y0 y1 y2 y3)) ∧ (∀ y0 y1 y2 y3 y4, LeO (spec_EncodeDescriptor.l0 k y0 y1 y2 y3 y4) (spec_EncodeDescriptor.l0 (k + 1) y0 y1 y2 y3 y4)) ∧ (∀ y0 y1 y2 y3 y4 y5, LeO (spec_EncodeDescriptor.j2 k y0 y1 y2 y3 y4 y5) (spec_EncodeDescriptor.j2 (k + 1) y0 y1 y2 y3 y4 y5))
  | 0 => ⟨fun _ _ _ _ r h => by simp [spec_EncodeDescriptor.j0] at h, fun _ _ _ _ _ r h => by simp [spec_EncodeDescriptor.l0] at h, fun _ _ _ _ _ _ r h => by simp [spec_EncodeDescriptor.j2] at h⟩
  | k + 1 => by
    obtain ⟨ih0, ih1, ih2⟩ := spec_EncodeDescriptor.mono_l k
    refine ⟨?_, ?_, ?_⟩
    · intro y0 y1 y2 y3
      unfold spec_EncodeDescriptor.j0
      repeat' first
      | (with_reducible exact ih0 _ _ _ _)
      | (with_reducible exact ih1 _ _ _ _ _)
      | (with_reducible exact ih2 _ _ _ _ _ _)
      | (with_reducible exact spec_PutNumber.mono _ _ _)
      | (with_reducible exact spec_l3Head.mono _ _ _ _)
      | (with_reducible exact LeO.refl _)
      | (with_reducible exact LeO.none _)
      | (with_reducible refine LeO.ite ?_ ?_)
      | (with_reducible refine LeO.bind ?_ (fun _ => ?_))
      | exact ih0 _ _ _ _
      | exact ih1 _ _ _ _ _
      | exact ih2 _ _ _ _ _ _
      | exact spec_PutNumber.mono _ _ _
      | exact spec_l3Head.mono _ _ _ _
      | exact LeO.none _
      | refine LeO.ite ?_ ?_
      | refine LeO.bind ?_ (fun _ => ?_)
    · intro y0 y1 y2 y3 y4
      unfold spec_EncodeDescriptor.l0
      repeat' first
      | (with_reducible exact ih0 _ _ _ _)
      | (with_reducible exact ih1 _ _ _ _ _)
      | (with_reducible exact ih2 _ _ _ _ _ _)
      | (with_reducible exact spec_PutNumber.mono _ _ _)
      | (with_reducible exact spec_l3Head.mono _ _ _ _)
      | (with_reducible exact LeO.refl _)
      | (with_reducible exact LeO.none _)
      | (with_reducible refine LeO.ite ?_ ?_)
      | (with_reducible refine LeO.bind ?_ (fun _ => ?_))
      | exact ih0 _ _ _ _
      | exact ih1 _ _ _ _ _
      | exact ih2 _ _ _ _ _ _
      | exact spec_PutNumber.mono _ _ _
      | exact spec_l3Head.mono _ _ _ _
      | exact LeO.none _
      | refine LeO.ite ?_ ?_
      | refine LeO.bind ?_ (fun _ => ?_)
    · intro y0 y1 y2 y3 y4 y5
      unfold spec_EncodeDescriptor.j2
      repeat' first
      | (with_reducible exact ih0 _ _ _ _)
      | (with_reducible exact ih1 _ _ _ _ _)
      | (with_reducible exact ih2 _ _ _ _ _ _)
      | (with_reducible exact spec_PutNumber.mono _ _ _)
      | (with_reducible exact spec_l3Head.mono _ _ _ _)
      | (with_reducible exact LeO.refl _)
      | (with_reducible exact LeO.none _)
      | (with_reducible refine LeO.ite ?_ ?_)
      | (with_reducible refine LeO.bind ?_ (fun _ => ?_))
      | exact ih0 _ _ _ _
      | exact ih1 _ _ _ _ _
      | exact ih2 _ _ _ _ _ _
      | exact spec_PutNumber.mono _ _ _
      | exact spec_l3Head.mono _ _ _ _
      | exact LeO.none _
      | refine LeO.ite ?_ ?_
      | refine LeO.bind ?_ (fun _ => ?_)
theorem spec_EncodeDescriptor.mono : ∀ a0 a1 k, LeO (spec_EncodeDescriptor.f k a0 a1) (spec_EncodeDescriptor.f (k + 1) a0 a1) := by
  intro a0 a1 k
  obtain ⟨ih0, ih1, ih2⟩ := spec_EncodeDescriptor.mono_l k
  unfold spec_EncodeDescriptor.f
  repeat' first
      | (with_reducible exact ih0 _ _ _ _)
      | (with_reducible exact ih1 _ _ _ _ _)
      | (with_reducible exact ih2 _ _ _ _ _ _)
      | (with_reducible exact spec_PutNumber.mono _ _ _)
      | (with_reducible exact spec_l3Head.mono _ _ _ _)
      | (with_reducible exact LeO.refl _)
      | (with_reducible exact LeO.none _)
      | (with_reducible refine LeO.ite ?_ ?_)
      | (with_reducible refine LeO.bind ?_ (fun _ => ?_))
      | exact ih0 _ _ _ _
      | exact ih1 _ _ _ _ _
      | exact ih2 _ _ _ _ _ _
      | exact spec_PutNumber.mono _ _ _
      | exact spec_l3Head.mono _ _ _ _
      | exact LeO.none _
      | refine LeO.ite ?_ ?_
      | refine LeO.bind ?_ (fun _ => ?_)
set_option maxHeartbeats 8000000 in
set_option maxRecDepth 100000 in
theorem spec_EncodeDescriptor.calls (k : Nat) (a0_0 : Int) (A0_1 : Option Addr) (c0_1 : Nat) (l0_1 : List (S101)) (r : List Int) (w : World) (hr0_1 : Kd.C k101 w A0_1 l0_1.length l0_1) (hc0_1 : l0_1.length ≤ c0_1) (h : spec_EncodeDescriptor.f k a0_0 l0_1 = some r) :
    Calls Try.prog 67 #[.agg #[.int .i64 a0_0, .slice A0_1 l0_1.length c0_1]] w fun e w' => ∃ v0_ : Value, e = .returned (v0_) ∧ Kd.R (Kd.int .u8) 5 w' w.heap.size (fun _ => True) v0_ r ∧ Below w.heap.size w w' := by
  have hu96 := Try.underlying96
  have HR0_1 := Aside0.mk hr0_1
  have HC0_1 := Aside0.mk hc0_1
  clear hr0_1 hc0_1
  have HB := Aside0.mk (Below.refl w.heap.size w)
  have H : ((spec_l3GoodSeq.f a0_0).bind fun t243 => (if t243 = true then (if (l0_1.length : Int) < 1 then (spec_EncodeDescriptor.j0 k (l0_1.length : Int) true a0_0 l0_1) else (spec_EncodeDescriptor.j0 k (l0_1.length : Int) (decide ((l0_1.length : Int) > 17)) a0_0 l0_1)) else (spec_EncodeDescriptor.j0 k (l0_1.length : Int) true a0_0 l0_1))) = some r := h
  clear h
  replace H := Option.bind_eq_some_iff.mp H
  obtain ⟨t243, A20, H⟩ := H
  replace H : (if t243 = true then (if (l0_1.length : Int) < 1 then (spec_EncodeDescriptor.j0 k (l0_1.length : Int) true a0_0 l0_1) else (spec_EncodeDescriptor.j0 k (l0_1.length : Int) (decide ((l0_1.length : Int) > 17)) a0_0 l0_1)) else (spec_EncodeDescriptor.j0 k (l0_1.length : Int) true a0_0 l0_1)) = some r := H
  have A2 := Aside0.mk A20
  clear A20
  have HC3 := Aside0.mk H
  clear H
  go_enter Try.func67, Try.ntmps67
  go_upto_region 3 with (first | ((with_reducible refine gate_dst (N := 1) rfl ?_); refine box_event ?hg (N := 1) ?hd (cs := #[.int .i64 a0_0, .slice A0_1 l0_1.length c0_1]) (t := 96) ?hr ?_; (case hd => rfl); (case hg => rfl); (case hr => first | (go_simp; done) | (go_simp; rfl)); intro gb242 hg w4 hbox hb; have n0_ := Aside0.mk (below_step (Rgn.bq HB.out) hb); have n1_ := Aside0.mk (hbox); have n2_ := Aside0.mk ((by rw [hg]; exact (below_size (Rgn.bq HB.out)) : w.heap.size ≤ gb242)); have n3_ := Aside0.mk ((by rw [hg]; exact (below_size (Rgn.bq HB.out)) : w.heap.size ≤ gb242)); clear HB; have HB := n0_; have BK242 := n1_; have GW242 := n2_; have GE242 := n3_; clear n0_ n1_ n2_ n3_; clear hb hbox hg; have hcz5_0 : w4.cell? ⟨gb242, 0, none⟩ = some (.int .i64 a0_0) := (blk_cell BK242.out 0).trans rfl; have hcz5_1 : w4.cell? ⟨gb242, 1, none⟩ = some (.slice A0_1 l0_1.length c0_1) := (blk_cell BK242.out 1).trans rfl; have hfz5_0 := blk_frozen BK242.out 0; have hfz5_1 := blk_frozen BK242.out 1) | (go_at_call 51; (with_reducible refine (spec_l3GoodSeq.calls a0_0 t243 _ A2.out).mono ?_); rintro e w' ⟨rfl, ⟨nd, rfl⟩⟩; (try first | exact ⟨rfl, _, World.drewN_drewN _ _ _⟩ | exact ⟨rfl, _, Eq.trans (World.drewN_drewN _ _ _) (congrArg (World.drewN _) (Nat.add_assoc _ _ _))⟩)))
  repeat (go_quiet (first | ((with_reducible refine gate_dst (N := 1) rfl ?_); refine box_event ?hg (N := 1) ?hd (cs := #[.int .i64 a0_0, .slice A0_1 l0_1.length c0_1]) (t := 96) ?hr ?_; (case hd => rfl); (case hg => rfl); (case hr => first | (go_simp; done) | (go_simp; rfl)); intro gb242 hg w4 hbox hb; have n0_ := Aside0.mk (below_step (Rgn.bq HB.out) hb); have n1_ := Aside0.mk (hbox); have n2_ := Aside0.mk ((by rw [hg]; exact (below_size (Rgn.bq HB.out)) : w.heap.size ≤ gb242)); have n3_ := Aside0.mk ((by rw [hg]; exact (below_size (Rgn.bq HB.out)) : w.heap.size ≤ gb242)); clear HB; have HB := n0_; have BK242 := n1_; have GW242 := n2_; have GE242 := n3_; clear n0_ n1_ n2_ n3_; clear hb hbox hg; have hcz5_0 : w4.cell? ⟨gb242, 0, none⟩ = some (.int .i64 a0_0) := (blk_cell BK242.out 0).trans rfl; have hcz5_1 : w4.cell? ⟨gb242, 1, none⟩ = some (.slice A0_1 l0_1.length c0_1) := (blk_cell BK242.out 1).trans rfl; have hfz5_0 := blk_frozen BK242.out 0; have hfz5_1 := blk_frozen BK242.out 1) | (go_at_call 51; (with_reducible refine (spec_l3GoodSeq.calls a0_0 t243 _ A2.out).mono ?_); rintro e w' ⟨rfl, ⟨nd, rfl⟩⟩; (try first | exact ⟨rfl, _, World.drewN_drewN _ _ _⟩ | exact ⟨rfl, _, Eq.trans (World.drewN_drewN _ _ _) (congrArg (World.drewN _) (Nat.add_assoc _ _ _))⟩))); go_upto_region 3 with (first | ((with_reducible refine gate_dst (N := 1) rfl ?_); refine box_event ?hg (N := 1) ?hd (cs := #[.int .i64 a0_0, .slice A0_1 l0_1.length c0_1]) (t := 96) ?hr ?_; (case hd => rfl); (case hg => rfl); (case hr => first | (go_simp; done) | (go_simp; rfl)); intro gb242 hg w4 hbox hb; have n0_ := Aside0.mk (below_step (Rgn.bq HB.out) hb); have n1_ := Aside0.mk (hbox); have n2_ := Aside0.mk ((by rw [hg]; exact (below_size (Rgn.bq HB.out)) : w.heap.size ≤ gb242)); have n3_ := Aside0.mk ((by rw [hg]; exact (below_size (Rgn.bq HB.out)) : w.heap.size ≤ gb242)); clear HB; have HB := n0_; have BK242 := n1_; have GW242 := n2_; have GE242 := n3_; clear n0_ n1_ n2_ n3_; clear hb hbox hg; have hcz5_0 : w4.cell? ⟨gb242, 0, none⟩ = some (.int .i64 a0_0) := (blk_cell BK242.out 0).trans rfl; have hcz5_1 : w4.cell? ⟨gb242, 1, none⟩ = some (.slice A0_1 l0_1.length c0_1) := (blk_cell BK242.out 1).trans rfl; have hfz5_0 := blk_frozen BK242.out 0; have hfz5_1 := blk_frozen BK242.out 1) | (go_at_call 51; (with_reducible refine (spec_l3GoodSeq.calls a0_0 t243 _ A2.out).mono ?_); rintro e w' ⟨rfl, ⟨nd, rfl⟩⟩; (try first | exact ⟨rfl, _, World.drewN_drewN _ _ _⟩ | exact ⟨rfl, _, Eq.trans (World.drewN_drewN _ _ _) (congrArg (World.drewN _) (Nat.add_assoc _ _ _))⟩))))
  (try simp only [Act.put, List.setIfInBounds_toArray, List.set_cons_zero, List.set_cons_succ])
  go_cut [23] (fun v23 wc => ∃ (kq : Nat) (x23_2 : Bool), v23 = .bool x23_2 ∧ Aside0 (spec_EncodeDescriptor.j0 kq (l0_1.length : Int) x23_2 a0_0 l0_1 = some r) ∧ Aside0 (kq ≤ k) ∧ Aside0 (wc.heap[gb242]? = some (.cells #[.int .i64 a0_0, (.slice A0_1 l0_1.length c0_1)] 96 (0, 0))) ∧ Aside0 (Below w.heap.size w wc))
  case first =>
    have H := HC3.out
    clear HC3
    by_cases c6 : t243 = true
    · subst c6
      have H1 : (if (l0_1.length : Int) < 1 then (spec_EncodeDescriptor.j0 k (l0_1.length : Int) true a0_0 l0_1) else (spec_EncodeDescriptor.j0 k (l0_1.length : Int) (decide ((l0_1.length : Int) > 17)) a0_0 l0_1)) = some r := by rw [if_pos rfl] at H; exact H
      clear H
      have H := H1
      clear H1
      by_cases c7 : (l0_1.length : Int) < 1
      · rw [if_pos c7] at H
        have c7b0 : decide ((l0_1.length : Int) < 1) = true := decide_eq_true c7
        have c7b1 : decide (l0_1.length < 1) = true := decide_eq_true (by omega)
        clear c7
        (first | rw [c7b0] | (simp only [i64_w, i32_w]; rw [c7b0]) | skip)
        have H' := Aside0.mk H
        clear H
        go_wp2
        repeat (go_quiet (fail); try go_wp2)
        go_meet
        case rel => exact ⟨_, (true), (by first | rfl | (simp; done) | (simp [*]; done)), H', ⟨by first | omega | exact Nat.le_refl _⟩, ⟨Rgn.kb BK242.out⟩, ⟨Rgn.bq HB.out⟩⟩
      · rw [if_neg c7] at H
        have c7b0 : decide ((l0_1.length : Int) < 1) = false := decide_eq_false c7
        have c7b1 : decide (l0_1.length < 1) = false := decide_eq_false (by omega)
        clear c7
        (first | rw [c7b0] | (simp only [i64_w, i32_w]; rw [c7b0]) | skip)
        have H' := Aside0.mk H
        clear H
        go_wp2
        repeat (go_quiet (fail); try go_wp2)
        go_meet
        case rel => exact ⟨_, (decide ((l0_1.length : Int) > 17)), (by first | rfl | (simp; done) | (simp [*]; done)), H', ⟨by first | omega | exact Nat.le_refl _⟩, ⟨Rgn.kb BK242.out⟩, ⟨Rgn.bq HB.out⟩⟩
    · replace c6 := Bool.eq_false_iff.mpr c6
      subst c6
      have H1 : (spec_EncodeDescriptor.j0 k (l0_1.length : Int) true a0_0 l0_1) = some r := by rw [if_neg (show ¬ (false = true) by decide)] at H; exact H
      clear H
      have H := H1
      clear H1
      have H' := Aside0.mk H
      clear H
      go_wp2
      repeat (go_quiet (fail); try go_wp2)
      go_meet
      case rel => exact ⟨_, (true), (by first | rfl | (simp; done) | (simp [*]; done)), H', ⟨by first | omega | exact Nat.le_refl _⟩, ⟨Rgn.kb BK242.out⟩, ⟨Rgn.bq HB.out⟩⟩
  case rest =>
    clear HC3
    try clear p2
    try clear c6
    try clear c7
    try clear c7b0
    try clear c7b1
    try clear hcz5_0
    try clear hcz5_1
    try clear hfz5_0
    try clear hfz5_1
    obtain ⟨kq, x23_2, rfl, HA, HJ2, BK242, HB⟩ := hcut
    cases kq with
    | zero => exact absurd HA.out (by simp [spec_EncodeDescriptor.j0])
    | succ kj2 =>
      have H := HA.out
      clear HA
      simp only [spec_EncodeDescriptor.j0] at H
      by_cases c8 : x23_2 = true
      · subst c8
        have H1 : (some (([] : List Int))) = some r := by rw [if_pos rfl] at H; exact H
        clear H
        have H := H1
        clear H1
        obtain ⟨y244, hy244⟩ : ∃ y_ : List Int, y_ = (([] : List Int)) := ⟨_, rfl⟩
        replace H : (some y244) = some r := by first | (rw [hy244]; with_reducible exact H) | (have H2_ := (Option.bind_some _ _).symm.trans H; rw [hy244]; with_reducible exact H2_) | (have H2_ := (Option.bind_some _ _).symm.trans H; with_reducible exact H2_) | with_reducible exact H | (rw [hy244]; exact H) | exact H
        have Ny244 := Aside0.mk hy244
        clear hy244
        obtain rfl := Option.some.inj H
        go_wp2_with (first | ((with_reducible refine gate_dst (N := 24) rfl ?_); refine Kd.R_lit (Kd.int .u8) _ 5 ?hg (N := 24) ?hd (xs := ([] : List Int)) (inner := []) (ok := fun _ => True) (okp := fun _ => True) ?hr ?hp (fun _ hk => hk) trivial (Below.refl _ _) (Nat.le_refl _) (by simp) ?_; (case hd => rfl); (case hg => rfl); (case hr => first | (go_simp; done) | (go_simp; rfl)); (case hp => exact (Reps.none _ _)); intro v245 w9 ho10 hb hg_ hnew_; clear hg_ hnew_; (first | rw [← Ny244.out] at ho10 | (simp only [Int.reduceToNat] at ho10; rw [← Ny244.out] at ho10)); have n0_ := Aside0.mk (Kd.R_lower ho10 (below_size (Rgn.bq HB.out))); have n1_ := Aside0.mk (Rgn.bb BK242.out hb); have n2_ := Aside0.mk (below_step (Rgn.bq HB.out) hb); clear BK242; clear HB; have HO246 := n0_; have BK242 := n1_; have HB := n2_; clear n0_ n1_ n2_; clear hb ho10))
        repeat (go_quiet (first | ((with_reducible refine gate_dst (N := 24) rfl ?_); refine Kd.R_lit (Kd.int .u8) _ 5 ?hg (N := 24) ?hd (xs := ([] : List Int)) (inner := []) (ok := fun _ => True) (okp := fun _ => True) ?hr ?hp (fun _ hk => hk) trivial (Below.refl _ _) (Nat.le_refl _) (by simp) ?_; (case hd => rfl); (case hg => rfl); (case hr => first | (go_simp; done) | (go_simp; rfl)); (case hp => exact (Reps.none _ _)); intro v245 w9 ho10 hb hg_ hnew_; clear hg_ hnew_; (first | rw [← Ny244.out] at ho10 | (simp only [Int.reduceToNat] at ho10; rw [← Ny244.out] at ho10)); have n0_ := Aside0.mk (Kd.R_lower ho10 (below_size (Rgn.bq HB.out))); have n1_ := Aside0.mk (Rgn.bb BK242.out hb); have n2_ := Aside0.mk (below_step (Rgn.bq HB.out) hb); clear BK242; clear HB; have HO246 := n0_; have BK242 := n1_; have HB := n2_; clear n0_ n1_ n2_; clear hb ho10)); try go_wp2_with (first | ((with_reducible refine gate_dst (N := 24) rfl ?_); refine Kd.R_lit (Kd.int .u8) _ 5 ?hg (N := 24) ?hd (xs := ([] : List Int)) (inner := []) (ok := fun _ => True) (okp := fun _ => True) ?hr ?hp (fun _ hk => hk) trivial (Below.refl _ _) (Nat.le_refl _) (by simp) ?_; (case hd => rfl); (case hg => rfl); (case hr => first | (go_simp; done) | (go_simp; rfl)); (case hp => exact (Reps.none _ _)); intro v245 w9 ho10 hb hg_ hnew_; clear hg_ hnew_; (first | rw [← Ny244.out] at ho10 | (simp only [Int.reduceToNat] at ho10; rw [← Ny244.out] at ho10)); have n0_ := Aside0.mk (Kd.R_lower ho10 (below_size (Rgn.bq HB.out))); have n1_ := Aside0.mk (Rgn.bb BK242.out hb); have n2_ := Aside0.mk (below_step (Rgn.bq HB.out) hb); clear BK242; clear HB; have HO246 := n0_; have BK242 := n1_; have HB := n2_; clear n0_ n1_ n2_; clear hb ho10)))
        go_ret
        exact ⟨_, by first | rfl | (simp [errW_none, errW_some] <;> rfl) | (simp [*, errW_none, errW_some] <;> rfl), Rgn.rq HO246.out, Rgn.bq HB.out⟩
      · replace c8 := Bool.eq_false_iff.mpr c8
        subst c8
        have H1 : ((spec_l3Head.f kj2 2 (l0_1.length : Int) a0_0).bind fun t247 => (spec_EncodeDescriptor.l0 kj2 (l0_1.length : Int) t247 0 a0_0 l0_1)) = some r := by rw [if_neg (show ¬ (false = true) by decide)] at H; exact H
        clear H
        have H := H1
        clear H1
        replace H := Option.bind_eq_some_iff.mp H
        obtain ⟨t247, A110, H⟩ := H
        replace H : (spec_EncodeDescriptor.l0 kj2 (l0_1.length : Int) t247 0 a0_0 l0_1) = some r := H
        have A11 := Aside0.mk A110
        clear A110
        have H' := Aside0.mk H
        clear H
        have hcz12_0 : wc.cell? ⟨gb242, 0, none⟩ = some (.int .i64 a0_0) := (blk_cell BK242.out 0).trans rfl
        have hcz12_1 : wc.cell? ⟨gb242, 1, none⟩ = some (.slice A0_1 l0_1.length c0_1) := (blk_cell BK242.out 1).trans rfl
        have hfz12_0 := blk_frozen BK242.out 0
        have hfz12_1 := blk_frozen BK242.out 1
        go_wp2_with (first | (go_at_call 70; (with_reducible refine (spec_l3Head.calls kj2 2 (l0_1.length : Int) a0_0 t247 _ A11.out).mono ?_); rintro e w13 ⟨v248, rfl, ho0, hb⟩; have n0_ := Aside0.mk (Kd.R_lower ho0 (below_size (Rgn.bq HB.out))); have n1_ := Aside0.mk (Rgn.bb BK242.out hb); have n2_ := Aside0.mk (below_step (Rgn.bq HB.out) hb); clear BK242; clear HB; have HO249 := n0_; have BK242 := n1_; have HB := n2_; clear n0_ n1_ n2_; (try clear hb); (try clear hb2); (try clear hk); (try clear hi); (try clear ho0)))
        repeat (go_quiet (first | (go_at_call 70; (with_reducible refine (spec_l3Head.calls kj2 2 (l0_1.length : Int) a0_0 t247 _ A11.out).mono ?_); rintro e w13 ⟨v248, rfl, ho0, hb⟩; have n0_ := Aside0.mk (Kd.R_lower ho0 (below_size (Rgn.bq HB.out))); have n1_ := Aside0.mk (Rgn.bb BK242.out hb); have n2_ := Aside0.mk (below_step (Rgn.bq HB.out) hb); clear BK242; clear HB; have HO249 := n0_; have BK242 := n1_; have HB := n2_; clear n0_ n1_ n2_; (try clear hb); (try clear hb2); (try clear hk); (try clear hi); (try clear ho0))); try go_wp2_with (first | (go_at_call 70; (with_reducible refine (spec_l3Head.calls kj2 2 (l0_1.length : Int) a0_0 t247 _ A11.out).mono ?_); rintro e w13 ⟨v248, rfl, ho0, hb⟩; have n0_ := Aside0.mk (Kd.R_lower ho0 (below_size (Rgn.bq HB.out))); have n1_ := Aside0.mk (Rgn.bb BK242.out hb); have n2_ := Aside0.mk (below_step (Rgn.bq HB.out) hb); clear BK242; clear HB; have HO249 := n0_; have BK242 := n1_; have HB := n2_; clear n0_ n1_ n2_; (try clear hb); (try clear hb2); (try clear hk); (try clear hi); (try clear ho0))))
        go_loopg [5, 6] kj2 (fun kq v5 v6 w' => ∃ (x5_2 : List Int) (x6_2 : Int), v6 = .int .i64 x6_2 ∧ Aside0 (spec_EncodeDescriptor.l0 kq (l0_1.length : Int) x5_2 x6_2 a0_0 l0_1 = some r) ∧ Aside0 (kq ≤ kj2) ∧ Aside0 (Kd.R (Kd.int .u8) 5 w' w.heap.size (fun _ => True) v5 x5_2) ∧ Aside0 (w'.heap[gb242]? = some (.cells #[.int .i64 a0_0, (.slice A0_1 l0_1.length c0_1)] 96 (0, 0))) ∧ Aside0 (Below w.heap.size w w'))
        case atStart => exact ⟨(t247), (0), (by first | rfl | (simp; done) | (simp [*]; done)), H', ⟨Nat.le_refl _⟩, ⟨Rgn.rq HO249.out⟩, ⟨Rgn.kb BK242.out⟩, ⟨Rgn.bq HB.out⟩⟩
        case round =>
          clear H'
          try clear p2
          try clear c6
          try clear c7
          try clear c7b0
          try clear c7b1
          try clear c8
          try clear hcz12_0
          try clear hcz12_1
          try clear hcz5_0
          try clear hcz5_1
          try clear hfz12_0
          try clear hfz12_1
          try clear hfz5_0
          try clear hfz5_1
          try clear p2
          obtain ⟨x5_2, x6_2, rfl, HA, HK2, HO_5, BK242, HB⟩ := hrel
          cases gk with
          | zero => exact absurd HA.out (by simp [spec_EncodeDescriptor.l0])
          | succ k2 =>
            have H := HA.out
            clear HA
            simp only [spec_EncodeDescriptor.l0] at H
            by_cases c14 : x6_2 < (l0_1.length : Int)
            · rw [if_pos c14] at H
              have c14b0 : decide (x6_2 < (l0_1.length : Int)) = true := decide_eq_true c14
              clear c14
              by_cases c15 : 0 ≤ x6_2
              · rw [if_pos c15] at H
                have c15b0 : decide (0 ≤ x6_2) = true := decide_eq_true c15
                clear c15
                by_cases c16 : x6_2 < (l0_1.length : Int)
                · rw [if_pos c16] at H
                  have c16b0 : decide (x6_2 < (l0_1.length : Int)) = true := decide_eq_true c16
                  clear c16
                  replace H := Option.bind_eq_some_iff.mp H
                  obtain ⟨t254, A170, H⟩ := H
                  replace H : (if t254 = true then (if x6_2 > 0 then (if 0 ≤ (wrap64 (x6_2 - 1)) then (if (wrap64 (x6_2 - 1)) < (l0_1.length : Int) then (spec_EncodeDescriptor.j2 k2 (l0_1.length : Int) x5_2 x6_2 (decide (((rd_T101 l0_1 (wrap64 (x6_2 - 1))).f0) ≥ ((rd_T101 l0_1 x6_2).f0))) a0_0 l0_1) else (none)) else (none)) else (spec_EncodeDescriptor.j2 k2 (l0_1.length : Int) x5_2 x6_2 false a0_0 l0_1)) else (spec_EncodeDescriptor.j2 k2 (l0_1.length : Int) x5_2 x6_2 true a0_0 l0_1)) = some r := H
                  have A17 := Aside0.mk A170
                  clear A170
                  have HC18 := Aside0.mk H
                  clear H
                  have hcz19_0 : wr.cell? ⟨gb242, 0, none⟩ = some (.int .i64 a0_0) := (blk_cell BK242.out 0).trans rfl
                  have hcz19_1 : wr.cell? ⟨gb242, 1, none⟩ = some (.slice A0_1 l0_1.length c0_1) := (blk_cell BK242.out 1).trans rfl
                  have hfz19_0 := blk_frozen BK242.out 0
                  have hfz19_1 := blk_frozen BK242.out 1
                  have p253 : 0 ≤ (x6_2 : Int) := of_decide_eq_true (by first | (with_reducible assumption) | assumption)
                  have q253 : x6_2 < (l0_1.length : Int) := of_decide_eq_true (by first | (with_reducible assumption) | assumption)
                  obtain ⟨ad253, e253, hx253_0, hx253_1⟩ := at_T101 HR0_1.out x6_2 p253 q253
                  cases e253
                  replace hx253_0 := (HB.out.cell (World.block_lt_of_cell? w _ hx253_0)).trans hx253_0
                  replace hx253_1 := (HB.out.cell (World.block_lt_of_cell? w _ hx253_1)).trans hx253_1
                  replace p253 := eq_true p253
                  replace q253 := eq_true q253
                  go_upto_region 10 with (first | (go_at_call 64; (with_reducible refine (spec_l3GoodBlock.calls ((rd_T101 l0_1 x6_2).f0) t254 _ A17.out).mono ?_); rintro e w' ⟨rfl, ⟨nd, rfl⟩⟩; (try first | exact ⟨rfl, _, World.drewN_drewN _ _ _⟩ | exact ⟨rfl, _, Eq.trans (World.drewN_drewN _ _ _) (congrArg (World.drewN _) (Nat.add_assoc _ _ _))⟩)))
                  repeat (go_quiet (first | (go_at_call 64; (with_reducible refine (spec_l3GoodBlock.calls ((rd_T101 l0_1 x6_2).f0) t254 _ A17.out).mono ?_); rintro e w' ⟨rfl, ⟨nd, rfl⟩⟩; (try first | exact ⟨rfl, _, World.drewN_drewN _ _ _⟩ | exact ⟨rfl, _, Eq.trans (World.drewN_drewN _ _ _) (congrArg (World.drewN _) (Nat.add_assoc _ _ _))⟩))); go_upto_region 10 with (first | (go_at_call 64; (with_reducible refine (spec_l3GoodBlock.calls ((rd_T101 l0_1 x6_2).f0) t254 _ A17.out).mono ?_); rintro e w' ⟨rfl, ⟨nd, rfl⟩⟩; (try first | exact ⟨rfl, _, World.drewN_drewN _ _ _⟩ | exact ⟨rfl, _, Eq.trans (World.drewN_drewN _ _ _) (congrArg (World.drewN _) (Nat.add_assoc _ _ _))⟩))))
                  (try simp only [Act.put, List.setIfInBounds_toArray, List.set_cons_zero, List.set_cons_succ])
                  go_cut [62] (fun v62 wc => ∃ (kq : Nat) (x62_17 : Bool), v62 = .bool x62_17 ∧ Aside0 (spec_EncodeDescriptor.j2 kq (l0_1.length : Int) x5_2 x6_2 x62_17 a0_0 l0_1 = some r) ∧ Aside0 (kq ≤ k2) ∧ Aside0 (Kd.R (Kd.int .u8) 5 wc w.heap.size (fun _ => True) u5 x5_2) ∧ Aside0 (wc.heap[gb242]? = some (.cells #[.int .i64 a0_0, (.slice (some ad253) l0_1.length c0_1)] 96 (0, 0))) ∧ Aside0 (Below w.heap.size w wc))
                  case first =>
                    have H := HC18.out
                    clear HC18
                    by_cases c20 : t254 = true
                    · subst c20
                      have H1 : (if x6_2 > 0 then (if 0 ≤ (wrap64 (x6_2 - 1)) then (if (wrap64 (x6_2 - 1)) < (l0_1.length : Int) then (spec_EncodeDescriptor.j2 k2 (l0_1.length : Int) x5_2 x6_2 (decide (((rd_T101 l0_1 (wrap64 (x6_2 - 1))).f0) ≥ ((rd_T101 l0_1 x6_2).f0))) a0_0 l0_1) else (none)) else (none)) else (spec_EncodeDescriptor.j2 k2 (l0_1.length : Int) x5_2 x6_2 false a0_0 l0_1)) = some r := by rw [if_pos rfl] at H; exact H
                      clear H
                      have H := H1
                      clear H1
                      by_cases c21 : x6_2 > 0
                      · rw [if_pos c21] at H
                        have c21b0 : decide (0 < x6_2) = true := decide_eq_true c21
                        clear c21
                        (first | rw [c21b0] | (simp only [i64_w, i32_w]; rw [c21b0]) | skip)
                        obtain ⟨ji22, hji22⟩ : ∃ j_ : Int, (wrap64 (x6_2 - 1)) = j_ := ⟨_, rfl⟩
                        replace H : (if 0 ≤ (ji22) then (if (ji22) < (l0_1.length : Int) then (spec_EncodeDescriptor.j2 k2 (l0_1.length : Int) x5_2 x6_2 (decide (((rd_T101 l0_1 (ji22)).f0) ≥ ((rd_T101 l0_1 x6_2).f0))) a0_0 l0_1) else (none)) else (none)) = some r := by first | (rw [hji22] at H; exact H) | (simp only [hji22] at H ⊢; exact H)
                        have hji22w : (IntKind.i64.wrap (x6_2 - 1)) = ji22 := (i64_w _).trans hji22
                        by_cases c23 : 0 ≤ (ji22)
                        · rw [if_pos c23] at H
                          have c23b0 : decide (0 ≤ (ji22)) = true := decide_eq_true c23
                          clear c23
                          by_cases c24 : (ji22) < (l0_1.length : Int)
                          · rw [if_pos c24] at H
                            have c24b0 : decide ((ji22) < (l0_1.length : Int)) = true := decide_eq_true c24
                            clear c24
                            have H' := Aside0.mk H
                            clear H
                            have hcz25_0 : wr.cell? ⟨gb242, 0, none⟩ = some (.int .i64 a0_0) := (blk_cell BK242.out 0).trans rfl
                            have hcz25_1 : wr.cell? ⟨gb242, 1, none⟩ = some (.slice (some ad253) l0_1.length c0_1) := (blk_cell BK242.out 1).trans rfl
                            have hfz25_0 := blk_frozen BK242.out 0
                            have hfz25_1 := blk_frozen BK242.out 1
                            have p255 : 0 ≤ ((ji22) : Int) := of_decide_eq_true (by first | (with_reducible assumption) | assumption)
                            have q255 : (ji22) < (l0_1.length : Int) := of_decide_eq_true (by first | (with_reducible assumption) | assumption)
                            obtain ⟨ad255, e255, hx255_0, hx255_1⟩ := at_T101 HR0_1.out (ji22) p255 q255
                            obtain rfl : ad253 = ad255 := (by injection e255)
                            replace hx255_0 := (HB.out.cell (World.block_lt_of_cell? w _ hx255_0)).trans hx255_0
                            replace hx255_1 := (HB.out.cell (World.block_lt_of_cell? w _ hx255_1)).trans hx255_1
                            replace p255 := eq_true p255
                            replace q255 := eq_true q255
                            have p256 : 0 ≤ (x6_2 : Int) := of_decide_eq_true (by first | (with_reducible assumption) | assumption)
                            have q256 : x6_2 < (l0_1.length : Int) := of_decide_eq_true (by first | (with_reducible assumption) | assumption)
                            obtain ⟨ad256, e256, hx256_0, hx256_1⟩ := at_T101 HR0_1.out x6_2 p256 q256
                            obtain rfl : ad253 = ad256 := (by injection e256)
                            replace hx256_0 := (HB.out.cell (World.block_lt_of_cell? w _ hx256_0)).trans hx256_0
                            replace hx256_1 := (HB.out.cell (World.block_lt_of_cell? w _ hx256_1)).trans hx256_1
                            replace p256 := eq_true p256
                            replace q256 := eq_true q256
                            go_wp2
                            repeat (go_quiet (fail); try go_wp2)
                            go_meet
                            case rel => exact ⟨_, (decide (((rd_T101 l0_1 (ji22)).f0) ≥ ((rd_T101 l0_1 x6_2).f0))), (by first | rfl | (simp; done) | (simp only [← hji22] <;> (first | rfl | simp)) | (simp [*]; done)), H', ⟨by have := HJ2.out; have := HK2.out; first | omega | exact Nat.le_refl _⟩, ⟨Rgn.rq HO_5.out⟩, ⟨Rgn.kb BK242.out⟩, ⟨Rgn.bq HB.out⟩⟩
                          · rw [if_neg c24] at H
                            exact absurd H (by simp)
                        · rw [if_neg c23] at H
                          exact absurd H (by simp)
                      · rw [if_neg c21] at H
                        have c21b0 : decide (0 < x6_2) = false := decide_eq_false c21
                        clear c21
                        (first | rw [c21b0] | (simp only [i64_w, i32_w]; rw [c21b0]) | skip)
                        have H' := Aside0.mk H
                        clear H
                        go_wp2
                        repeat (go_quiet (fail); try go_wp2)
                        go_meet
                        case rel => exact ⟨_, (false), (by first | rfl | (simp; done) | (simp [*]; done)), H', ⟨by have := HJ2.out; have := HK2.out; first | omega | exact Nat.le_refl _⟩, ⟨Rgn.rq HO_5.out⟩, ⟨Rgn.kb BK242.out⟩, ⟨Rgn.bq HB.out⟩⟩
                    · replace c20 := Bool.eq_false_iff.mpr c20
                      subst c20
                      have H1 : (spec_EncodeDescriptor.j2 k2 (l0_1.length : Int) x5_2 x6_2 true a0_0 l0_1) = some r := by rw [if_neg (show ¬ (false = true) by decide)] at H; exact H
                      clear H
                      have H := H1
                      clear H1
                      have H' := Aside0.mk H
                      clear H
                      go_wp2
                      repeat (go_quiet (fail); try go_wp2)
                      go_meet
                      case rel => exact ⟨_, (true), (by first | rfl | (simp; done) | (simp [*]; done)), H', ⟨by have := HJ2.out; have := HK2.out; first | omega | exact Nat.le_refl _⟩, ⟨Rgn.rq HO_5.out⟩, ⟨Rgn.kb BK242.out⟩, ⟨Rgn.bq HB.out⟩⟩
                  case rest =>
                    clear HC18
                    try clear c1
                    try clear c2
                    try clear p2
                    try clear q2
                    try clear hx2
                    try clear c6
                    try clear p6
                    try clear c7
                    try clear c7b0
                    try clear c7b1
                    try clear c8
                    try clear c14
                    try clear c14b0
                    try clear c15
                    try clear c15b0
                    try clear c16
                    try clear c16b0
                    try clear c20
                    try clear c21
                    try clear c21b0
                    try clear c23
                    try clear c23b0
                    try clear c24
                    try clear c24b0
                    try clear p25
                    try clear q25
                    try clear hx25
                    try clear hcz12_0
                    try clear hcz12_1
                    try clear hcz19_0
                    try clear hcz19_1
                    try clear hcz25_0
                    try clear hcz25_1
                    try clear hcz5_0
                    try clear hcz5_1
                    try clear hfz12_0
                    try clear hfz12_1
                    try clear hfz19_0
                    try clear hfz19_1
                    try clear hfz25_0
                    try clear hfz25_1
                    try clear hfz5_0
                    try clear hfz5_1
                    try clear hx253_0
                    try clear hx253_1
                    try clear hx255_0
                    try clear hx255_1
                    try clear hx256_0
                    try clear hx256_1
                    try clear p2
                    try clear p253
                    try clear p255
                    try clear p256
                    try clear q253
                    try clear q255
                    try clear q256
                    obtain ⟨kq, x62_17, rfl, HA, HJ17, HO_5, BK242, HB⟩ := hcut
                    cases kq with
                    | zero => exact absurd HA.out (by simp [spec_EncodeDescriptor.j2])
                    | succ kj17 =>
                      have H := HA.out
                      clear HA
                      simp only [spec_EncodeDescriptor.j2] at H
                      by_cases c26 : x62_17 = true
                      · subst c26
                        have H1 : (some (([] : List Int))) = some r := by rw [if_pos rfl] at H; exact H
                        clear H
                        have H := H1
                        clear H1
                        obtain ⟨y257, hy257⟩ : ∃ y_ : List Int, y_ = (([] : List Int)) := ⟨_, rfl⟩
                        replace H : (some y257) = some r := by first | (rw [hy257]; with_reducible exact H) | (have H2_ := (Option.bind_some _ _).symm.trans H; rw [hy257]; with_reducible exact H2_) | (have H2_ := (Option.bind_some _ _).symm.trans H; with_reducible exact H2_) | with_reducible exact H | (rw [hy257]; exact H) | exact H
                        have Ny257 := Aside0.mk hy257
                        clear hy257
                        obtain rfl := Option.some.inj H
                        go_wp2_with (first | ((with_reducible refine gate_dst (N := 63) rfl ?_); refine Kd.R_lit (Kd.int .u8) _ 5 ?hg (N := 63) ?hd (xs := ([] : List Int)) (inner := []) (ok := fun _ => True) (okp := fun _ => True) ?hr ?hp (fun _ hk => hk) trivial (Below.refl _ _) (Nat.le_refl _) (by simp) ?_; (case hd => rfl); (case hg => rfl); (case hr => first | (go_simp; done) | (go_simp; rfl)); (case hp => exact (Reps.none _ _)); intro v258 w27 ho28 hb hg_ hnew_; clear hg_ hnew_; (first | rw [← Ny257.out] at ho28 | (simp only [Int.reduceToNat] at ho28; rw [← Ny257.out] at ho28)); have n0_ := Aside0.mk (Kd.R_elder' (Rgn.rq HO_5.out) (Kd.R_base ho28) hb); have n1_ := Aside0.mk (Kd.R_lower (Kd.R_new' ho28 (Kd.R_lt (Rgn.rq HO_5.out))) (below_size (Rgn.bq HB.out))); have n2_ := Aside0.mk (Rgn.bb BK242.out hb); have n3_ := Aside0.mk (below_step (Rgn.bq HB.out) hb); clear HO_5; clear BK242; clear HB; have HO_5 := n0_; have HO259 := n1_; have BK242 := n2_; have HB := n3_; clear n0_ n1_ n2_ n3_; clear hb ho28))
                        repeat (go_quiet (first | ((with_reducible refine gate_dst (N := 63) rfl ?_); refine Kd.R_lit (Kd.int .u8) _ 5 ?hg (N := 63) ?hd (xs := ([] : List Int)) (inner := []) (ok := fun _ => True) (okp := fun _ => True) ?hr ?hp (fun _ hk => hk) trivial (Below.refl _ _) (Nat.le_refl _) (by simp) ?_; (case hd => rfl); (case hg => rfl); (case hr => first | (go_simp; done) | (go_simp; rfl)); (case hp => exact (Reps.none _ _)); intro v258 w27 ho28 hb hg_ hnew_; clear hg_ hnew_; (first | rw [← Ny257.out] at ho28 | (simp only [Int.reduceToNat] at ho28; rw [← Ny257.out] at ho28)); have n0_ := Aside0.mk (Kd.R_elder' (Rgn.rq HO_5.out) (Kd.R_base ho28) hb); have n1_ := Aside0.mk (Kd.R_lower (Kd.R_new' ho28 (Kd.R_lt (Rgn.rq HO_5.out))) (below_size (Rgn.bq HB.out))); have n2_ := Aside0.mk (Rgn.bb BK242.out hb); have n3_ := Aside0.mk (below_step (Rgn.bq HB.out) hb); clear HO_5; clear BK242; clear HB; have HO_5 := n0_; have HO259 := n1_; have BK242 := n2_; have HB := n3_; clear n0_ n1_ n2_ n3_; clear hb ho28)); try go_wp2_with (first | ((with_reducible refine gate_dst (N := 63) rfl ?_); refine Kd.R_lit (Kd.int .u8) _ 5 ?hg (N := 63) ?hd (xs := ([] : List Int)) (inner := []) (ok := fun _ => True) (okp := fun _ => True) ?hr ?hp (fun _ hk => hk) trivial (Below.refl _ _) (Nat.le_refl _) (by simp) ?_; (case hd => rfl); (case hg => rfl); (case hr => first | (go_simp; done) | (go_simp; rfl)); (case hp => exact (Reps.none _ _)); intro v258 w27 ho28 hb hg_ hnew_; clear hg_ hnew_; (first | rw [← Ny257.out] at ho28 | (simp only [Int.reduceToNat] at ho28; rw [← Ny257.out] at ho28)); have n0_ := Aside0.mk (Kd.R_elder' (Rgn.rq HO_5.out) (Kd.R_base ho28) hb); have n1_ := Aside0.mk (Kd.R_lower (Kd.R_new' ho28 (Kd.R_lt (Rgn.rq HO_5.out))) (below_size (Rgn.bq HB.out))); have n2_ := Aside0.mk (Rgn.bb BK242.out hb); have n3_ := Aside0.mk (below_step (Rgn.bq HB.out) hb); clear HO_5; clear BK242; clear HB; have HO_5 := n0_; have HO259 := n1_; have BK242 := n2_; have HB := n3_; clear n0_ n1_ n2_ n3_; clear hb ho28)))
                        go_ret
                        exact ⟨_, by first | rfl | (simp [errW_none, errW_some] <;> rfl) | (simp [*, errW_none, errW_some] <;> rfl), by (with_reducible repeat (first | apply Kd.R_alloc | apply Kd.R_drewN | apply Kd.R_drew)); exact Kd.R_mono HO259.out (fun _ hk => trivial), Rgn.bq HB.out⟩
                      · replace c26 := Bool.eq_false_iff.mpr c26
                        subst c26
                        have H1 : (if 0 ≤ x6_2 then (if x6_2 < (l0_1.length : Int) then ((spec_PutNumber.f kj17 ((rd_T101 l0_1 x6_2).f0) 2).bind fun t261 => (if x5_2.length + t261.length < 140737488355328 then ((some (x5_2 ++ t261 : List Int)).bind fun y264 => (if (rd_T101 l0_1 x6_2).f1 = true then (if y264.length < 140737488355328 then (spec_EncodeDescriptor.l0 kj17 (l0_1.length : Int) (y264 ++ [1]) (wrap64 (x6_2 + 1)) a0_0 l0_1) else (none)) else (if y264.length < 140737488355328 then (spec_EncodeDescriptor.l0 kj17 (l0_1.length : Int) (y264 ++ [0]) (wrap64 (x6_2 + 1)) a0_0 l0_1) else (none)))) else (none))) else (none)) else (none)) = some r := by rw [if_neg (show ¬ (false = true) by decide)] at H; exact H
                        clear H
                        have H := H1
                        clear H1
                        by_cases c29 : 0 ≤ x6_2
                        · rw [if_pos c29] at H
                          have c29b0 : decide (0 ≤ x6_2) = true := decide_eq_true c29
                          clear c29
                          by_cases c30 : x6_2 < (l0_1.length : Int)
                          · rw [if_pos c30] at H
                            have c30b0 : decide (x6_2 < (l0_1.length : Int)) = true := decide_eq_true c30
                            clear c30
                            replace H := Option.bind_eq_some_iff.mp H
                            obtain ⟨t261, A310, H⟩ := H
                            replace H : (if x5_2.length + t261.length < 140737488355328 then ((some (x5_2 ++ t261 : List Int)).bind fun y264 => (if (rd_T101 l0_1 x6_2).f1 = true then (if y264.length < 140737488355328 then (spec_EncodeDescriptor.l0 kj17 (l0_1.length : Int) (y264 ++ [1]) (wrap64 (x6_2 + 1)) a0_0 l0_1) else (none)) else (if y264.length < 140737488355328 then (spec_EncodeDescriptor.l0 kj17 (l0_1.length : Int) (y264 ++ [0]) (wrap64 (x6_2 + 1)) a0_0 l0_1) else (none)))) else (none)) = some r := H
                            have A31 := Aside0.mk A310
                            clear A310
                            by_cases c32 : x5_2.length + t261.length < 140737488355328
                            · rw [if_pos c32] at H
                              have LMc32 := Aside0.mk c32
                              clear c32
                              obtain ⟨y264, hy264⟩ : ∃ y_ : List Int, y_ = (x5_2 ++ t261) := ⟨_, rfl⟩
                              replace H : (if (rd_T101 l0_1 x6_2).f1 = true then (if y264.length < 140737488355328 then (spec_EncodeDescriptor.l0 kj17 (l0_1.length : Int) (y264 ++ [1]) (wrap64 (x6_2 + 1)) a0_0 l0_1) else (none)) else (if y264.length < 140737488355328 then (spec_EncodeDescriptor.l0 kj17 (l0_1.length : Int) (y264 ++ [0]) (wrap64 (x6_2 + 1)) a0_0 l0_1) else (none))) = some r := by first | (rw [hy264]; with_reducible exact H) | (have H2_ := (Option.bind_some _ _).symm.trans H; rw [hy264]; with_reducible exact H2_) | (have H2_ := (Option.bind_some _ _).symm.trans H; with_reducible exact H2_) | with_reducible exact H | (rw [hy264]; exact H) | exact H
                              have Ny264 := Aside0.mk hy264
                              clear hy264
                              obtain ⟨bq33, hbq33⟩ : ∃ b_ : Bool, b_ = ((rd_T101 l0_1 x6_2).f1) := ⟨_, rfl⟩
                              replace H : (if bq33 = true then (if y264.length < 140737488355328 then (spec_EncodeDescriptor.l0 kj17 (l0_1.length : Int) (y264 ++ [1]) (wrap64 (x6_2 + 1)) a0_0 l0_1) else (none)) else (if y264.length < 140737488355328 then (spec_EncodeDescriptor.l0 kj17 (l0_1.length : Int) (y264 ++ [0]) (wrap64 (x6_2 + 1)) a0_0 l0_1) else (none))) = some r := by rw [← hbq33] at H; exact H
                              have Nbq33 := Aside0.mk hbq33
                              clear hbq33
                              by_cases c34 : bq33 = true
                              · subst c34
                                have H1 : (if y264.length < 140737488355328 then (spec_EncodeDescriptor.l0 kj17 (l0_1.length : Int) (y264 ++ [1]) (wrap64 (x6_2 + 1)) a0_0 l0_1) else (none)) = some r := by rw [if_pos rfl] at H; exact H
                                clear H
                                have H := H1
                                clear H1
                                by_cases c35 : y264.length < 140737488355328
                                · rw [if_pos c35] at H
                                  have LMc35 := Aside0.mk c35
                                  clear c35
                                  obtain ⟨y268, hy268⟩ : ∃ y_ : List Int, y_ = (y264 ++ [1]) := ⟨_, rfl⟩
                                  replace H : (spec_EncodeDescriptor.l0 kj17 (l0_1.length : Int) y268 (wrap64 (x6_2 + 1)) a0_0 l0_1) = some r := by first | (rw [hy268]; with_reducible exact H) | (have H2_ := (Option.bind_some _ _).symm.trans H; rw [hy268]; with_reducible exact H2_) | (have H2_ := (Option.bind_some _ _).symm.trans H; with_reducible exact H2_) | with_reducible exact H | (rw [hy268]; exact H) | exact H
                                  have Ny268 := Aside0.mk hy268
                                  clear hy268
                                  have H' := Aside0.mk H
                                  clear H
                                  have hcz36_0 : wc.cell? ⟨gb242, 0, none⟩ = some (.int .i64 a0_0) := (blk_cell BK242.out 0).trans rfl
                                  have hcz36_1 : wc.cell? ⟨gb242, 1, none⟩ = some (.slice (some ad253) l0_1.length c0_1) := (blk_cell BK242.out 1).trans rfl
                                  have hfz36_0 := blk_frozen BK242.out 0
                                  have hfz36_1 := blk_frozen BK242.out 1
                                  have p260 : 0 ≤ (x6_2 : Int) := of_decide_eq_true (by first | (with_reducible assumption) | assumption)
                                  have q260 : x6_2 < (l0_1.length : Int) := of_decide_eq_true (by first | (with_reducible assumption) | assumption)
                                  obtain ⟨ad260, e260, hx260_0, hx260_1⟩ := at_T101 HR0_1.out x6_2 p260 q260
                                  (try rw [← Nbq33.out] at hx260_1)
                                  obtain rfl : ad253 = ad260 := (by injection e260)
                                  replace hx260_0 := (HB.out.cell (World.block_lt_of_cell? w _ hx260_0)).trans hx260_0
                                  replace hx260_1 := (HB.out.cell (World.block_lt_of_cell? w _ hx260_1)).trans hx260_1
                                  replace p260 := eq_true p260
                                  replace q260 := eq_true q260
                                  go_wp2_with (first | (go_at_call 71; (with_reducible refine (spec_PutNumber.calls kj17 ((rd_T101 l0_1 x6_2).f0) 2 t261 _ A31.out).mono ?_); rintro e w37 ⟨v262, rfl, ho0, hb⟩; have n0_ := Aside0.mk (Kd.R_elder' (Rgn.rq HO_5.out) (Kd.R_base ho0) hb); have n1_ := Aside0.mk (Kd.R_lower (Kd.R_new' ho0 (Kd.R_lt (Rgn.rq HO_5.out))) (below_size (Rgn.bq HB.out))); have n2_ := Aside0.mk (Rgn.bb BK242.out hb); have n3_ := Aside0.mk (below_step (Rgn.bq HB.out) hb); clear HO_5; clear BK242; clear HB; have HO_5 := n0_; have HO263 := n1_; have BK242 := n2_; have HB := n3_; clear n0_ n1_ n2_ n3_; (try clear hb); (try clear hb2); (try clear hk); (try clear hi); (try clear ho0); obtain ⟨Ao39, co39, eo39⟩ := Kd.R_slice HO263.out; subst eo39) | ((with_reducible refine gate_builtin (b := .append) (xs := #[.tmp 64, .tmp 71]) rfl ?_); at_builtin; refine Kd.R_append_rows (Kd.int .u8) (w0 := w) w.heap.size rfl (.tmp 64) (.tmp 71) 59 5 (.int .u8 0) 1 rfl Try.underlying59 info5 rfl (by decide) (by omega) u5 x5_2 t261 _ _ _ (fun k_ => some k_ ≠ (.slice Ao39 t261.length co39 : Value).ownBlock) (fun _ => False) rfl rfl ?aO ?aR (fun _ _ h => h) (fun _ h => h.elim) ?aF ?aB ?aS ?aL ?_; (case aR => exact Rgn.cq (Kd.R_reads' HO263.out).2.2); (case aB => exact (Rgn.bq HB.out)); (case aF => exact (fun k_ hk => Kd.fresh' (Kd.R_lt (Rgn.rq HO263.out)) k_ hk)); (case aO => exact (by (with_reducible repeat (first | apply Kd.R_alloc | apply Kd.R_drewN | apply Kd.R_drew)); exact Kd.R_mono HO_5.out (fun _ hk => hk.2))); (case aS => exact (below_size (Rgn.bq HB.out))); (case aL => have := LMc32.out; omega); intro v265 w38 ho hb hg hat; rw [← Ny264.out] at ho; have n0_ := Aside0.mk (blk_grown (g := gb242) (o := .cells #[.int .i64 a0_0, .slice (some ad253) l0_1.length c0_1] 96 (0, 0)) (Rgn.kb BK242.out) hg (Kd.R_ne HO_5.out BK242.out (by decide))); have n1_ := Aside0.mk (Kd.R_after (ok := (fun _ => True)) (Rgn.rq HO263.out) hg hat); have n2_ := Aside0.mk (hb); have n3_ := Aside0.mk (ho); clear BK242; clear HO263; clear HB; clear HO_5; have BK242 := n0_; have HO263 := n1_; have HB := n2_; have HO266 := n3_; clear n0_ n1_ n2_ n3_; clear ho hb hg hat; have hcz40_0 : w38.cell? ⟨gb242, 0, none⟩ = some (.int .i64 a0_0) := (blk_cell BK242.out 0).trans rfl; have hcz40_1 : w38.cell? ⟨gb242, 1, none⟩ = some (.slice (some ad253) l0_1.length c0_1) := (blk_cell BK242.out 1).trans rfl; have hfz40_0 := blk_frozen BK242.out 0; have hfz40_1 := blk_frozen BK242.out 1; have p267 : 0 ≤ (x6_2 : Int) := of_decide_eq_true (by first | (with_reducible assumption) | assumption); have q267 : x6_2 < (l0_1.length : Int) := of_decide_eq_true (by first | (with_reducible assumption) | assumption); obtain ⟨ad267, e267, hx267_0, hx267_1⟩ := at_T101 HR0_1.out x6_2 p267 q267; (try rw [← Nbq33.out] at hx267_1); obtain rfl : ad253 = ad267 := (by injection e267); replace hx267_0 := (HB.out.cell (World.block_lt_of_cell? w _ hx267_0)).trans hx267_0; replace hx267_1 := (HB.out.cell (World.block_lt_of_cell? w _ hx267_1)).trans hx267_1; replace p267 := eq_true p267; replace q267 := eq_true q267) | ((with_reducible refine gate_builtin (b := .append) (xs := #[.tmp 79, .tmp 80]) rfl ?_); at_builtin; refine Kd.R_append (Kd.int .u8) (w0 := w) w.heap.size rfl (.tmp 79) (.tmp 80) 59 5 (.int .u8 0) 1 rfl Try.underlying59 info5 rfl (by decide) (by omega) v265 y264 1 [.int .u8 1] (fun k_ => some k_ ≠ (.slice Ao39 t261.length co39 : Value).ownBlock) (fun _ => False) rfl rfl ?aP (fun _ hk => hk.elim) ?aF ?aO ?aB ?aS ?aL ?_; (case aP => exact rfl); (case aB => exact (Rgn.bq HB.out)); (case aF => exact (fun k_ hk => Kd.fresh' (Kd.R_lt (Rgn.rq HO263.out)) k_ hk)); (case aO => exact (Rgn.rq HO266.out)); (case aS => exact (below_size (Rgn.bq HB.out))); (case aL => have := LMc35.out; omega); intro v269 w41 ho hb hg hat; rw [← Ny268.out] at ho; have n0_ := Aside0.mk (blk_grown (g := gb242) (o := .cells #[.int .i64 a0_0, .slice (some ad253) l0_1.length c0_1] 96 (0, 0)) (Rgn.kb BK242.out) hg (Kd.R_ne HO266.out BK242.out (by decide))); have n1_ := Aside0.mk (Kd.R_after (ok := (fun _ => True)) (Rgn.rq HO263.out) hg hat); have n2_ := Aside0.mk (hb); have n3_ := Aside0.mk (ho); clear BK242; clear HO263; clear HB; clear HO266; have BK242 := n0_; have HO263 := n1_; have HB := n2_; have HO270 := n3_; clear n0_ n1_ n2_ n3_; clear ho hb hg hat))
                                  repeat (go_quiet (first | (go_at_call 71; (with_reducible refine (spec_PutNumber.calls kj17 ((rd_T101 l0_1 x6_2).f0) 2 t261 _ A31.out).mono ?_); rintro e w37 ⟨v262, rfl, ho0, hb⟩; have n0_ := Aside0.mk (Kd.R_elder' (Rgn.rq HO_5.out) (Kd.R_base ho0) hb); have n1_ := Aside0.mk (Kd.R_lower (Kd.R_new' ho0 (Kd.R_lt (Rgn.rq HO_5.out))) (below_size (Rgn.bq HB.out))); have n2_ := Aside0.mk (Rgn.bb BK242.out hb); have n3_ := Aside0.mk (below_step (Rgn.bq HB.out) hb); clear HO_5; clear BK242; clear HB; have HO_5 := n0_; have HO263 := n1_; have BK242 := n2_; have HB := n3_; clear n0_ n1_ n2_ n3_; (try clear hb); (try clear hb2); (try clear hk); (try clear hi); (try clear ho0); obtain ⟨Ao39, co39, eo39⟩ := Kd.R_slice HO263.out; subst eo39) | ((with_reducible refine gate_builtin (b := .append) (xs := #[.tmp 64, .tmp 71]) rfl ?_); at_builtin; refine Kd.R_append_rows (Kd.int .u8) (w0 := w) w.heap.size rfl (.tmp 64) (.tmp 71) 59 5 (.int .u8 0) 1 rfl Try.underlying59 info5 rfl (by decide) (by omega) u5 x5_2 t261 _ _ _ (fun k_ => some k_ ≠ (.slice Ao39 t261.length co39 : Value).ownBlock) (fun _ => False) rfl rfl ?aO ?aR (fun _ _ h => h) (fun _ h => h.elim) ?aF ?aB ?aS ?aL ?_; (case aR => exact Rgn.cq (Kd.R_reads' HO263.out).2.2); (case aB => exact (Rgn.bq HB.out)); (case aF => exact (fun k_ hk => Kd.fresh' (Kd.R_lt (Rgn.rq HO263.out)) k_ hk)); (case aO => exact (by (with_reducible repeat (first | apply Kd.R_alloc | apply Kd.R_drewN | apply Kd.R_drew)); exact Kd.R_mono HO_5.out (fun _ hk => hk.2))); (case aS => exact (below_size (Rgn.bq HB.out))); (case aL => have := LMc32.out; omega); intro v265 w38 ho hb hg hat; rw [← Ny264.out] at ho; have n0_ := Aside0.mk (blk_grown (g := gb242) (o := .cells #[.int .i64 a0_0, .slice (some ad253) l0_1.length c0_1] 96 (0, 0)) (Rgn.kb BK242.out) hg (Kd.R_ne HO_5.out BK242.out (by decide))); have n1_ := Aside0.mk (Kd.R_after (ok := (fun _ => True)) (Rgn.rq HO263.out) hg hat); have n2_ := Aside0.mk (hb); have n3_ := Aside0.mk (ho); clear BK242; clear HO263; clear HB; clear HO_5; have BK242 := n0_; have HO263 := n1_; have HB := n2_; have HO266 := n3_; clear n0_ n1_ n2_ n3_; clear ho hb hg hat; have hcz40_0 : w38.cell? ⟨gb242, 0, none⟩ = some (.int .i64 a0_0) := (blk_cell BK242.out 0).trans rfl; have hcz40_1 : w38.cell? ⟨gb242, 1, none⟩ = some (.slice (some ad253) l0_1.length c0_1) := (blk_cell BK242.out 1).trans rfl; have hfz40_0 := blk_frozen BK242.out 0; have hfz40_1 := blk_frozen BK242.out 1; have p267 : 0 ≤ (x6_2 : Int) := of_decide_eq_true (by first | (with_reducible assumption) | assumption); have q267 : x6_2 < (l0_1.length : Int) := of_decide_eq_true (by first | (with_reducible assumption) | assumption); obtain ⟨ad267, e267, hx267_0, hx267_1⟩ := at_T101 HR0_1.out x6_2 p267 q267; (try rw [← Nbq33.out] at hx267_1); obtain rfl : ad253 = ad267 := (by injection e267); replace hx267_0 := (HB.out.cell (World.block_lt_of_cell? w _ hx267_0)).trans hx267_0; replace hx267_1 := (HB.out.cell (World.block_lt_of_cell? w _ hx267_1)).trans hx267_1; replace p267 := eq_true p267; replace q267 := eq_true q267) | ((with_reducible refine gate_builtin (b := .append) (xs := #[.tmp 79, .tmp 80]) rfl ?_); at_builtin; refine Kd.R_append (Kd.int .u8) (w0 := w) w.heap.size rfl (.tmp 79) (.tmp 80) 59 5 (.int .u8 0) 1 rfl Try.underlying59 info5 rfl (by decide) (by omega) v265 y264 1 [.int .u8 1] (fun k_ => some k_ ≠ (.slice Ao39 t261.length co39 : Value).ownBlock) (fun _ => False) rfl rfl ?aP (fun _ hk => hk.elim) ?aF ?aO ?aB ?aS ?aL ?_; (case aP => exact rfl); (case aB => exact (Rgn.bq HB.out)); (case aF => exact (fun k_ hk => Kd.fresh' (Kd.R_lt (Rgn.rq HO263.out)) k_ hk)); (case aO => exact (Rgn.rq HO266.out)); (case aS => exact (below_size (Rgn.bq HB.out))); (case aL => have := LMc35.out; omega); intro v269 w41 ho hb hg hat; rw [← Ny268.out] at ho; have n0_ := Aside0.mk (blk_grown (g := gb242) (o := .cells #[.int .i64 a0_0, .slice (some ad253) l0_1.length c0_1] 96 (0, 0)) (Rgn.kb BK242.out) hg (Kd.R_ne HO266.out BK242.out (by decide))); have n1_ := Aside0.mk (Kd.R_after (ok := (fun _ => True)) (Rgn.rq HO263.out) hg hat); have n2_ := Aside0.mk (hb); have n3_ := Aside0.mk (ho); clear BK242; clear HO263; clear HB; clear HO266; have BK242 := n0_; have HO263 := n1_; have HB := n2_; have HO270 := n3_; clear n0_ n1_ n2_ n3_; clear ho hb hg hat)); try go_wp2_with (first | (go_at_call 71; (with_reducible refine (spec_PutNumber.calls kj17 ((rd_T101 l0_1 x6_2).f0) 2 t261 _ A31.out).mono ?_); rintro e w37 ⟨v262, rfl, ho0, hb⟩; have n0_ := Aside0.mk (Kd.R_elder' (Rgn.rq HO_5.out) (Kd.R_base ho0) hb); have n1_ := Aside0.mk (Kd.R_lower (Kd.R_new' ho0 (Kd.R_lt (Rgn.rq HO_5.out))) (below_size (Rgn.bq HB.out))); have n2_ := Aside0.mk (Rgn.bb BK242.out hb); have n3_ := Aside0.mk (below_step (Rgn.bq HB.out) hb); clear HO_5; clear BK242; clear HB; have HO_5 := n0_; have HO263 := n1_; have BK242 := n2_; have HB := n3_; clear n0_ n1_ n2_ n3_; (try clear hb); (try clear hb2); (try clear hk); (try clear hi); (try clear ho0); obtain ⟨Ao39, co39, eo39⟩ := Kd.R_slice HO263.out; subst eo39) | ((with_reducible refine gate_builtin (b := .append) (xs := #[.tmp 64, .tmp 71]) rfl ?_); at_builtin; refine Kd.R_append_rows (Kd.int .u8) (w0 := w) w.heap.size rfl (.tmp 64) (.tmp 71) 59 5 (.int .u8 0) 1 rfl Try.underlying59 info5 rfl (by decide) (by omega) u5 x5_2 t261 _ _ _ (fun k_ => some k_ ≠ (.slice Ao39 t261.length co39 : Value).ownBlock) (fun _ => False) rfl rfl ?aO ?aR (fun _ _ h => h) (fun _ h => h.elim) ?aF ?aB ?aS ?aL ?_; (case aR => exact Rgn.cq (Kd.R_reads' HO263.out).2.2); (case aB => exact (Rgn.bq HB.out)); (case aF => exact (fun k_ hk => Kd.fresh' (Kd.R_lt (Rgn.rq HO263.out)) k_ hk)); (case aO => exact (by (with_reducible repeat (first | apply Kd.R_alloc | apply Kd.R_drewN | apply Kd.R_drew)); exact Kd.R_mono HO_5.out (fun _ hk => hk.2))); (case aS => exact (below_size (Rgn.bq HB.out))); (case aL => have := LMc32.out; omega); intro v265 w38 ho hb hg hat; rw [← Ny264.out] at ho; have n0_ := Aside0.mk (blk_grown (g := gb242) (o := .cells #[.int .i64 a0_0, .slice (some ad253) l0_1.length c0_1] 96 (0, 0)) (Rgn.kb BK242.out) hg (Kd.R_ne HO_5.out BK242.out (by decide))); have n1_ := Aside0.mk (Kd.R_after (ok := (fun _ => True)) (Rgn.rq HO263.out) hg hat); have n2_ := Aside0.mk (hb); have n3_ := Aside0.mk (ho); clear BK242; clear HO263; clear HB; clear HO_5; have BK242 := n0_; have HO263 := n1_; have HB := n2_; have HO266 := n3_; clear n0_ n1_ n2_ n3_; clear ho hb hg hat; have hcz40_0 : w38.cell? ⟨gb242, 0, none⟩ = some (.int .i64 a0_0) := (blk_cell BK242.out 0).trans rfl; have hcz40_1 : w38.cell? ⟨gb242, 1, none⟩ = some (.slice (some ad253) l0_1.length c0_1) := (blk_cell BK242.out 1).trans rfl; have hfz40_0 := blk_frozen BK242.out 0; have hfz40_1 := blk_frozen BK242.out 1; have p267 : 0 ≤ (x6_2 : Int) := of_decide_eq_true (by first | (with_reducible assumption) | assumption); have q267 : x6_2 < (l0_1.length : Int) := of_decide_eq_true (by first | (with_reducible assumption) | assumption); obtain ⟨ad267, e267, hx267_0, hx267_1⟩ := at_T101 HR0_1.out x6_2 p267 q267; (try rw [← Nbq33.out] at hx267_1); obtain rfl : ad253 = ad267 := (by injection e267); replace hx267_0 := (HB.out.cell (World.block_lt_of_cell? w _ hx267_0)).trans hx267_0; replace hx267_1 := (HB.out.cell (World.block_lt_of_cell? w _ hx267_1)).trans hx267_1; replace p267 := eq_true p267; replace q267 := eq_true q267) | ((with_reducible refine gate_builtin (b := .append) (xs := #[.tmp 79, .tmp 80]) rfl ?_); at_builtin; refine Kd.R_append (Kd.int .u8) (w0 := w) w.heap.size rfl (.tmp 79) (.tmp 80) 59 5 (.int .u8 0) 1 rfl Try.underlying59 info5 rfl (by decide) (by omega) v265 y264 1 [.int .u8 1] (fun k_ => some k_ ≠ (.slice Ao39 t261.length co39 : Value).ownBlock) (fun _ => False) rfl rfl ?aP (fun _ hk => hk.elim) ?aF ?aO ?aB ?aS ?aL ?_; (case aP => exact rfl); (case aB => exact (Rgn.bq HB.out)); (case aF => exact (fun k_ hk => Kd.fresh' (Kd.R_lt (Rgn.rq HO263.out)) k_ hk)); (case aO => exact (Rgn.rq HO266.out)); (case aS => exact (below_size (Rgn.bq HB.out))); (case aL => have := LMc35.out; omega); intro v269 w41 ho hb hg hat; rw [← Ny268.out] at ho; have n0_ := Aside0.mk (blk_grown (g := gb242) (o := .cells #[.int .i64 a0_0, .slice (some ad253) l0_1.length c0_1] 96 (0, 0)) (Rgn.kb BK242.out) hg (Kd.R_ne HO266.out BK242.out (by decide))); have n1_ := Aside0.mk (Kd.R_after (ok := (fun _ => True)) (Rgn.rq HO263.out) hg hat); have n2_ := Aside0.mk (hb); have n3_ := Aside0.mk (ho); clear BK242; clear HO263; clear HB; clear HO266; have BK242 := n0_; have HO263 := n1_; have HB := n2_; have HO270 := n3_; clear n0_ n1_ n2_ n3_; clear ho hb hg hat)))
                                  go_roundg kj17
                                  case measure => have := HJ2.out; have := HK2.out; have := HJ17.out; omega
                                  case rel => exact ⟨(y268), (wrap64 (x6_2 + 1)), (by first | rfl | (simp; done) | (simp [*]; done)), H', ⟨by have := HJ2.out; have := HK2.out; have := HJ17.out; omega⟩, ⟨by (with_reducible repeat (first | apply Kd.R_alloc | apply Kd.R_drewN | apply Kd.R_drew)); exact Kd.R_mono HO270.out (fun _ hk => trivial)⟩, ⟨Rgn.kb BK242.out⟩, ⟨Rgn.bq HB.out⟩⟩
                                · rw [if_neg c35] at H
                                  exact absurd H (by simp)
                              · replace c34 := Bool.eq_false_iff.mpr c34
                                subst c34
                                have H1 : (if y264.length < 140737488355328 then (spec_EncodeDescriptor.l0 kj17 (l0_1.length : Int) (y264 ++ [0]) (wrap64 (x6_2 + 1)) a0_0 l0_1) else (none)) = some r := by rw [if_neg (show ¬ (false = true) by decide)] at H; exact H
                                clear H
                                have H := H1
                                clear H1
                                by_cases c42 : y264.length < 140737488355328
                                · rw [if_pos c42] at H
                                  have LMc42 := Aside0.mk c42
                                  clear c42
                                  obtain ⟨y271, hy271⟩ : ∃ y_ : List Int, y_ = (y264 ++ [0]) := ⟨_, rfl⟩
                                  replace H : (spec_EncodeDescriptor.l0 kj17 (l0_1.length : Int) y271 (wrap64 (x6_2 + 1)) a0_0 l0_1) = some r := by first | (rw [hy271]; with_reducible exact H) | (have H2_ := (Option.bind_some _ _).symm.trans H; rw [hy271]; with_reducible exact H2_) | (have H2_ := (Option.bind_some _ _).symm.trans H; with_reducible exact H2_) | with_reducible exact H | (rw [hy271]; exact H) | exact H
                                  have Ny271 := Aside0.mk hy271
                                  clear hy271
                                  have H' := Aside0.mk H
                                  clear H
                                  have hcz43_0 : wc.cell? ⟨gb242, 0, none⟩ = some (.int .i64 a0_0) := (blk_cell BK242.out 0).trans rfl
                                  have hcz43_1 : wc.cell? ⟨gb242, 1, none⟩ = some (.slice (some ad253) l0_1.length c0_1) := (blk_cell BK242.out 1).trans rfl
                                  have hfz43_0 := blk_frozen BK242.out 0
                                  have hfz43_1 := blk_frozen BK242.out 1
                                  have p260 : 0 ≤ (x6_2 : Int) := of_decide_eq_true (by first | (with_reducible assumption) | assumption)
                                  have q260 : x6_2 < (l0_1.length : Int) := of_decide_eq_true (by first | (with_reducible assumption) | assumption)
                                  obtain ⟨ad260, e260, hx260_0, hx260_1⟩ := at_T101 HR0_1.out x6_2 p260 q260
                                  (try rw [← Nbq33.out] at hx260_1)
                                  obtain rfl : ad253 = ad260 := (by injection e260)
                                  replace hx260_0 := (HB.out.cell (World.block_lt_of_cell? w _ hx260_0)).trans hx260_0
                                  replace hx260_1 := (HB.out.cell (World.block_lt_of_cell? w _ hx260_1)).trans hx260_1
                                  replace p260 := eq_true p260
                                  replace q260 := eq_true q260
                                  go_wp2_with (first | (go_at_call 71; (with_reducible refine (spec_PutNumber.calls kj17 ((rd_T101 l0_1 x6_2).f0) 2 t261 _ A31.out).mono ?_); rintro e w44 ⟨v262, rfl, ho0, hb⟩; have n0_ := Aside0.mk (Kd.R_elder' (Rgn.rq HO_5.out) (Kd.R_base ho0) hb); have n1_ := Aside0.mk (Kd.R_lower (Kd.R_new' ho0 (Kd.R_lt (Rgn.rq HO_5.out))) (below_size (Rgn.bq HB.out))); have n2_ := Aside0.mk (Rgn.bb BK242.out hb); have n3_ := Aside0.mk (below_step (Rgn.bq HB.out) hb); clear HO_5; clear BK242; clear HB; have HO_5 := n0_; have HO263 := n1_; have BK242 := n2_; have HB := n3_; clear n0_ n1_ n2_ n3_; (try clear hb); (try clear hb2); (try clear hk); (try clear hi); (try clear ho0); obtain ⟨Ao46, co46, eo46⟩ := Kd.R_slice HO263.out; subst eo46) | ((with_reducible refine gate_builtin (b := .append) (xs := #[.tmp 64, .tmp 71]) rfl ?_); at_builtin; refine Kd.R_append_rows (Kd.int .u8) (w0 := w) w.heap.size rfl (.tmp 64) (.tmp 71) 59 5 (.int .u8 0) 1 rfl Try.underlying59 info5 rfl (by decide) (by omega) u5 x5_2 t261 _ _ _ (fun k_ => some k_ ≠ (.slice Ao46 t261.length co46 : Value).ownBlock) (fun _ => False) rfl rfl ?aO ?aR (fun _ _ h => h) (fun _ h => h.elim) ?aF ?aB ?aS ?aL ?_; (case aR => exact Rgn.cq (Kd.R_reads' HO263.out).2.2); (case aB => exact (Rgn.bq HB.out)); (case aF => exact (fun k_ hk => Kd.fresh' (Kd.R_lt (Rgn.rq HO263.out)) k_ hk)); (case aO => exact (by (with_reducible repeat (first | apply Kd.R_alloc | apply Kd.R_drewN | apply Kd.R_drew)); exact Kd.R_mono HO_5.out (fun _ hk => hk.2))); (case aS => exact (below_size (Rgn.bq HB.out))); (case aL => have := LMc32.out; omega); intro v265 w45 ho hb hg hat; rw [← Ny264.out] at ho; have n0_ := Aside0.mk (blk_grown (g := gb242) (o := .cells #[.int .i64 a0_0, .slice (some ad253) l0_1.length c0_1] 96 (0, 0)) (Rgn.kb BK242.out) hg (Kd.R_ne HO_5.out BK242.out (by decide))); have n1_ := Aside0.mk (Kd.R_after (ok := (fun _ => True)) (Rgn.rq HO263.out) hg hat); have n2_ := Aside0.mk (hb); have n3_ := Aside0.mk (ho); clear BK242; clear HO263; clear HB; clear HO_5; have BK242 := n0_; have HO263 := n1_; have HB := n2_; have HO266 := n3_; clear n0_ n1_ n2_ n3_; clear ho hb hg hat; have hcz47_0 : w45.cell? ⟨gb242, 0, none⟩ = some (.int .i64 a0_0) := (blk_cell BK242.out 0).trans rfl; have hcz47_1 : w45.cell? ⟨gb242, 1, none⟩ = some (.slice (some ad253) l0_1.length c0_1) := (blk_cell BK242.out 1).trans rfl; have hfz47_0 := blk_frozen BK242.out 0; have hfz47_1 := blk_frozen BK242.out 1; have p267 : 0 ≤ (x6_2 : Int) := of_decide_eq_true (by first | (with_reducible assumption) | assumption); have q267 : x6_2 < (l0_1.length : Int) := of_decide_eq_true (by first | (with_reducible assumption) | assumption); obtain ⟨ad267, e267, hx267_0, hx267_1⟩ := at_T101 HR0_1.out x6_2 p267 q267; (try rw [← Nbq33.out] at hx267_1); obtain rfl : ad253 = ad267 := (by injection e267); replace hx267_0 := (HB.out.cell (World.block_lt_of_cell? w _ hx267_0)).trans hx267_0; replace hx267_1 := (HB.out.cell (World.block_lt_of_cell? w _ hx267_1)).trans hx267_1; replace p267 := eq_true p267; replace q267 := eq_true q267) | ((with_reducible refine gate_builtin (b := .append) (xs := #[.tmp 82, .tmp 83]) rfl ?_); at_builtin; refine Kd.R_append (Kd.int .u8) (w0 := w) w.heap.size rfl (.tmp 82) (.tmp 83) 59 5 (.int .u8 0) 1 rfl Try.underlying59 info5 rfl (by decide) (by omega) v265 y264 0 [.int .u8 0] (fun k_ => some k_ ≠ (.slice Ao46 t261.length co46 : Value).ownBlock) (fun _ => False) rfl rfl ?aP (fun _ hk => hk.elim) ?aF ?aO ?aB ?aS ?aL ?_; (case aP => exact rfl); (case aB => exact (Rgn.bq HB.out)); (case aF => exact (fun k_ hk => Kd.fresh' (Kd.R_lt (Rgn.rq HO263.out)) k_ hk)); (case aO => exact (Rgn.rq HO266.out)); (case aS => exact (below_size (Rgn.bq HB.out))); (case aL => have := LMc42.out; omega); intro v272 w48 ho hb hg hat; rw [← Ny271.out] at ho; have n0_ := Aside0.mk (blk_grown (g := gb242) (o := .cells #[.int .i64 a0_0, .slice (some ad253) l0_1.length c0_1] 96 (0, 0)) (Rgn.kb BK242.out) hg (Kd.R_ne HO266.out BK242.out (by decide))); have n1_ := Aside0.mk (Kd.R_after (ok := (fun _ => True)) (Rgn.rq HO263.out) hg hat); have n2_ := Aside0.mk (hb); have n3_ := Aside0.mk (ho); clear BK242; clear HO263; clear HB; clear HO266; have BK242 := n0_; have HO263 := n1_; have HB := n2_; have HO273 := n3_; clear n0_ n1_ n2_ n3_; clear ho hb hg hat))
                                  repeat (go_quiet (first | (go_at_call 71; (with_reducible refine (spec_PutNumber.calls kj17 ((rd_T101 l0_1 x6_2).f0) 2 t261 _ A31.out).mono ?_); rintro e w44 ⟨v262, rfl, ho0, hb⟩; have n0_ := Aside0.mk (Kd.R_elder' (Rgn.rq HO_5.out) (Kd.R_base ho0) hb); have n1_ := Aside0.mk (Kd.R_lower (Kd.R_new' ho0 (Kd.R_lt (Rgn.rq HO_5.out))) (below_size (Rgn.bq HB.out))); have n2_ := Aside0.mk (Rgn.bb BK242.out hb); have n3_ := Aside0.mk (below_step (Rgn.bq HB.out) hb); clear HO_5; clear BK242; clear HB; have HO_5 := n0_; have HO263 := n1_; have BK242 := n2_; have HB := n3_; clear n0_ n1_ n2_ n3_; (try clear hb); (try clear hb2); (try clear hk); (try clear hi); (try clear ho0); obtain ⟨Ao46, co46, eo46⟩ := Kd.R_slice HO263.out; subst eo46) | ((with_reducible refine gate_builtin (b := .append) (xs := #[.tmp 64, .tmp 71]) rfl ?_); at_builtin; refine Kd.R_append_rows (Kd.int .u8) (w0 := w) w.heap.size rfl (.tmp 64) (.tmp 71) 59 5 (.int .u8 0) 1 rfl Try.underlying59 info5 rfl (by decide) (by omega) u5 x5_2 t261 _ _ _ (fun k_ => some k_ ≠ (.slice Ao46 t261.length co46 : Value).ownBlock) (fun _ => False) rfl rfl ?aO ?aR (fun _ _ h => h) (fun _ h => h.elim) ?aF ?aB ?aS ?aL ?_; (case aR => exact Rgn.cq (Kd.R_reads' HO263.out).2.2); (case aB => exact (Rgn.bq HB.out)); (case aF => exact (fun k_ hk => Kd.fresh' (Kd.R_lt (Rgn.rq HO263.out)) k_ hk)); (case aO => exact (by (with_reducible repeat (first | apply Kd.R_alloc | apply Kd.R_drewN | apply Kd.R_drew)); exact Kd.R_mono HO_5.out (fun _ hk => hk.2))); (case aS => exact (below_size (Rgn.bq HB.out))); (case aL => have := LMc32.out; omega); intro v265 w45 ho hb hg hat; rw [← Ny264.out] at ho; have n0_ := Aside0.mk (blk_grown (g := gb242) (o := .cells #[.int .i64 a0_0, .slice (some ad253) l0_1.length c0_1] 96 (0, 0)) (Rgn.kb BK242.out) hg (Kd.R_ne HO_5.out BK242.out (by decide))); have n1_ := Aside0.mk (Kd.R_after (ok := (fun _ => True)) (Rgn.rq HO263.out) hg hat); have n2_ := Aside0.mk (hb); have n3_ := Aside0.mk (ho); clear BK242; clear HO263; clear HB; clear HO_5; have BK242 := n0_; have HO263 := n1_; have HB := n2_; have HO266 := n3_; clear n0_ n1_ n2_ n3_; clear ho hb hg hat; have hcz47_0 : w45.cell? ⟨gb242, 0, none⟩ = some (.int .i64 a0_0) := (blk_cell BK242.out 0).trans rfl; have hcz47_1 : w45.cell? ⟨gb242, 1, none⟩ = some (.slice (some ad253) l0_1.length c0_1) := (blk_cell BK242.out 1).trans rfl; have hfz47_0 := blk_frozen BK242.out 0; have hfz47_1 := blk_frozen BK242.out 1; have p267 : 0 ≤ (x6_2 : Int) := of_decide_eq_true (by first | (with_reducible assumption) | assumption); have q267 : x6_2 < (l0_1.length : Int) := of_decide_eq_true (by first | (with_reducible assumption) | assumption); obtain ⟨ad267, e267, hx267_0, hx267_1⟩ := at_T101 HR0_1.out x6_2 p267 q267; (try rw [← Nbq33.out] at hx267_1); obtain rfl : ad253 = ad267 := (by injection e267); replace hx267_0 := (HB.out.cell (World.block_lt_of_cell? w _ hx267_0)).trans hx267_0; replace hx267_1 := (HB.out.cell (World.block_lt_of_cell? w _ hx267_1)).trans hx267_1; replace p267 := eq_true p267; replace q267 := eq_true q267) | ((with_reducible refine gate_builtin (b := .append) (xs := #[.tmp 82, .tmp 83]) rfl ?_); at_builtin; refine Kd.R_append (Kd.int .u8) (w0 := w) w.heap.size rfl (.tmp 82) (.tmp 83) 59 5 (.int .u8 0) 1 rfl Try.underlying59 info5 rfl (by decide) (by omega) v265 y264 0 [.int .u8 0] (fun k_ => some k_ ≠ (.slice Ao46 t261.length co46 : Value).ownBlock) (fun _ => False) rfl rfl ?aP (fun _ hk => hk.elim) ?aF ?aO ?aB ?aS ?aL ?_; (case aP => exact rfl); (case aB => exact (Rgn.bq HB.out)); (case aF => exact (fun k_ hk => Kd.fresh' (Kd.R_lt (Rgn.rq HO263.out)) k_ hk)); (case aO => exact (Rgn.rq HO266.out)); (case aS => exact (below_size (Rgn.bq HB.out))); (case aL => have := LMc42.out; omega); intro v272 w48 ho hb hg hat; rw [← Ny271.out] at ho; have n0_ := Aside0.mk (blk_grown (g := gb242) (o := .cells #[.int .i64 a0_0, .slice (some ad253) l0_1.length c0_1] 96 (0, 0)) (Rgn.kb BK242.out) hg (Kd.R_ne HO266.out BK242.out (by decide))); have n1_ := Aside0.mk (Kd.R_after (ok := (fun _ => True)) (Rgn.rq HO263.out) hg hat); have n2_ := Aside0.mk (hb); have n3_ := Aside0.mk (ho); clear BK242; clear HO263; clear HB; clear HO266; have BK242 := n0_; have HO263 := n1_; have HB := n2_; have HO273 := n3_; clear n0_ n1_ n2_ n3_; clear ho hb hg hat)); try go_wp2_with (first | (go_at_call 71; (with_reducible refine (spec_PutNumber.calls kj17 ((rd_T101 l0_1 x6_2).f0) 2 t261 _ A31.out).mono ?_); rintro e w44 ⟨v262, rfl, ho0, hb⟩; have n0_ := Aside0.mk (Kd.R_elder' (Rgn.rq HO_5.out) (Kd.R_base ho0) hb); have n1_ := Aside0.mk (Kd.R_lower (Kd.R_new' ho0 (Kd.R_lt (Rgn.rq HO_5.out))) (below_size (Rgn.bq HB.out))); have n2_ := Aside0.mk (Rgn.bb BK242.out hb); have n3_ := Aside0.mk (below_step (Rgn.bq HB.out) hb); clear HO_5; clear BK242; clear HB; have HO_5 := n0_; have HO263 := n1_; have BK242 := n2_; have HB := n3_; clear n0_ n1_ n2_ n3_; (try clear hb); (try clear hb2); (try clear hk); (try clear hi); (try clear ho0); obtain ⟨Ao46, co46, eo46⟩ := Kd.R_slice HO263.out; subst eo46) | ((with_reducible refine gate_builtin (b := .append) (xs := #[.tmp 64, .tmp 71]) rfl ?_); at_builtin; refine Kd.R_append_rows (Kd.int .u8) (w0 := w) w.heap.size rfl (.tmp 64) (.tmp 71) 59 5 (.int .u8 0) 1 rfl Try.underlying59 info5 rfl (by decide) (by omega) u5 x5_2 t261 _ _ _ (fun k_ => some k_ ≠ (.slice Ao46 t261.length co46 : Value).ownBlock) (fun _ => False) rfl rfl ?aO ?aR (fun _ _ h => h) (fun _ h => h.elim) ?aF ?aB ?aS ?aL ?_; (case aR => exact Rgn.cq (Kd.R_reads' HO263.out).2.2); (case aB => exact (Rgn.bq HB.out)); (case aF => exact (fun k_ hk => Kd.fresh' (Kd.R_lt (Rgn.rq HO263.out)) k_ hk)); (case aO => exact (by (with_reducible repeat (first | apply Kd.R_alloc | apply Kd.R_drewN | apply Kd.R_drew)); exact Kd.R_mono HO_5.out (fun _ hk => hk.2))); (case aS => exact (below_size (Rgn.bq HB.out))); (case aL => have := LMc32.out; omega); intro v265 w45 ho hb hg hat; rw [← Ny264.out] at ho; have n0_ := Aside0.mk (blk_grown (g := gb242) (o := .cells #[.int .i64 a0_0, .slice (some ad253) l0_1.length c0_1] 96 (0, 0)) (Rgn.kb BK242.out) hg (Kd.R_ne HO_5.out BK242.out (by decide))); have n1_ := Aside0.mk (Kd.R_after (ok := (fun _ => True)) (Rgn.rq HO263.out) hg hat); have n2_ := Aside0.mk (hb); have n3_ := Aside0.mk (ho); clear BK242; clear HO263; clear HB; clear HO_5; have BK242 := n0_; have HO263 := n1_; have HB := n2_; have HO266 := n3_; clear n0_ n1_ n2_ n3_; clear ho hb hg hat; have hcz47_0 : w45.cell? ⟨gb242, 0, none⟩ = some (.int .i64 a0_0) := (blk_cell BK242.out 0).trans rfl; have hcz47_1 : w45.cell? ⟨gb242, 1, none⟩ = some (.slice (some ad253) l0_1.length c0_1) := (blk_cell BK242.out 1).trans rfl; have hfz47_0 := blk_frozen BK242.out 0; have hfz47_1 := blk_frozen BK242.out 1; have p267 : 0 ≤ (x6_2 : Int) := of_decide_eq_true (by first | (with_reducible assumption) | assumption); have q267 : x6_2 < (l0_1.length : Int) := of_decide_eq_true (by first | (with_reducible assumption) | assumption); obtain ⟨ad267, e267, hx267_0, hx267_1⟩ := at_T101 HR0_1.out x6_2 p267 q267; (try rw [← Nbq33.out] at hx267_1); obtain rfl : ad253 = ad267 := (by injection e267); replace hx267_0 := (HB.out.cell (World.block_lt_of_cell? w _ hx267_0)).trans hx267_0; replace hx267_1 := (HB.out.cell (World.block_lt_of_cell? w _ hx267_1)).trans hx267_1; replace p267 := eq_true p267; replace q267 := eq_true q267) | ((with_reducible refine gate_builtin (b := .append) (xs := #[.tmp 82, .tmp 83]) rfl ?_); at_builtin; refine Kd.R_append (Kd.int .u8) (w0 := w) w.heap.size rfl (.tmp 82) (.tmp 83) 59 5 (.int .u8 0) 1 rfl Try.underlying59 info5 rfl (by decide) (by omega) v265 y264 0 [.int .u8 0] (fun k_ => some k_ ≠ (.slice Ao46 t261.length co46 : Value).ownBlock) (fun _ => False) rfl rfl ?aP (fun _ hk => hk.elim) ?aF ?aO ?aB ?aS ?aL ?_; (case aP => exact rfl); (case aB => exact (Rgn.bq HB.out)); (case aF => exact (fun k_ hk => Kd.fresh' (Kd.R_lt (Rgn.rq HO263.out)) k_ hk)); (case aO => exact (Rgn.rq HO266.out)); (case aS => exact (below_size (Rgn.bq HB.out))); (case aL => have := LMc42.out; omega); intro v272 w48 ho hb hg hat; rw [← Ny271.out] at ho; have n0_ := Aside0.mk (blk_grown (g := gb242) (o := .cells #[.int .i64 a0_0, .slice (some ad253) l0_1.length c0_1] 96 (0, 0)) (Rgn.kb BK242.out) hg (Kd.R_ne HO266.out BK242.out (by decide))); have n1_ := Aside0.mk (Kd.R_after (ok := (fun _ => True)) (Rgn.rq HO263.out) hg hat); have n2_ := Aside0.mk (hb); have n3_ := Aside0.mk (ho); clear BK242; clear HO263; clear HB; clear HO266; have BK242 := n0_; have HO263 := n1_; have HB := n2_; have HO273 := n3_; clear n0_ n1_ n2_ n3_; clear ho hb hg hat)))
                                  go_roundg kj17
                                  case measure => have := HJ2.out; have := HK2.out; have := HJ17.out; omega
                                  case rel => exact ⟨(y271), (wrap64 (x6_2 + 1)), (by first | rfl | (simp; done) | (simp [*]; done)), H', ⟨by have := HJ2.out; have := HK2.out; have := HJ17.out; omega⟩, ⟨by (with_reducible repeat (first | apply Kd.R_alloc | apply Kd.R_drewN | apply Kd.R_drew)); exact Kd.R_mono HO273.out (fun _ hk => trivial)⟩, ⟨Rgn.kb BK242.out⟩, ⟨Rgn.bq HB.out⟩⟩
                                · rw [if_neg c42] at H
                                  exact absurd H (by simp)
                            · rw [if_neg c32] at H
                              exact absurd H (by simp)
                          · rw [if_neg c30] at H
                            exact absurd H (by simp)
                        · rw [if_neg c29] at H
                          exact absurd H (by simp)
                · rw [if_neg c16] at H
                  exact absurd H (by simp)
              · rw [if_neg c15] at H
                exact absurd H (by simp)
            · rw [if_neg c14] at H
              have c14b0 : decide (x6_2 < (l0_1.length : Int)) = false := decide_eq_false c14
              clear c14
              replace H := Option.bind_eq_some_iff.mp H
              obtain ⟨t250, A490, H⟩ := H
              replace H : (some t250) = some r := H
              have A49 := Aside0.mk A490
              clear A490
              obtain rfl := Option.some.inj H
              obtain ⟨Ao50, co50, eo50⟩ := Kd.R_slice HO_5.out
              subst eo50
              go_wp2_with (first | (go_at_call 69; (with_reducible refine (spec_l3Pad.calls _ _ x5_2 t250 _ ?side1 ?side2 A49.out).mono ?_); (case side1 => exact Rgn.cq (Kd.R_reads' HO_5.out).2.2); (case side2 => exact (Kd.R_reads' HO_5.out).2.1); rintro e w51 ⟨v251, rfl, ho0, hb⟩; have n0_ := Aside0.mk (Kd.R_elder' (Rgn.rq HO_5.out) (Kd.R_base ho0) hb); have n1_ := Aside0.mk (Kd.R_lower (Kd.R_new' ho0 (Kd.R_lt (Rgn.rq HO_5.out))) (below_size (Rgn.bq HB.out))); have n2_ := Aside0.mk (Rgn.bb BK242.out hb); have n3_ := Aside0.mk (below_step (Rgn.bq HB.out) hb); clear HO_5; clear BK242; clear HB; have HO_5 := n0_; have HO252 := n1_; have BK242 := n2_; have HB := n3_; clear n0_ n1_ n2_ n3_; (try clear hb); (try clear hb2); (try clear hk); (try clear hi); (try clear ho0)))
              repeat (go_quiet (first | (go_at_call 69; (with_reducible refine (spec_l3Pad.calls _ _ x5_2 t250 _ ?side1 ?side2 A49.out).mono ?_); (case side1 => exact Rgn.cq (Kd.R_reads' HO_5.out).2.2); (case side2 => exact (Kd.R_reads' HO_5.out).2.1); rintro e w51 ⟨v251, rfl, ho0, hb⟩; have n0_ := Aside0.mk (Kd.R_elder' (Rgn.rq HO_5.out) (Kd.R_base ho0) hb); have n1_ := Aside0.mk (Kd.R_lower (Kd.R_new' ho0 (Kd.R_lt (Rgn.rq HO_5.out))) (below_size (Rgn.bq HB.out))); have n2_ := Aside0.mk (Rgn.bb BK242.out hb); have n3_ := Aside0.mk (below_step (Rgn.bq HB.out) hb); clear HO_5; clear BK242; clear HB; have HO_5 := n0_; have HO252 := n1_; have BK242 := n2_; have HB := n3_; clear n0_ n1_ n2_ n3_; (try clear hb); (try clear hb2); (try clear hk); (try clear hi); (try clear ho0))); try go_wp2_with (first | (go_at_call 69; (with_reducible refine (spec_l3Pad.calls _ _ x5_2 t250 _ ?side1 ?side2 A49.out).mono ?_); (case side1 => exact Rgn.cq (Kd.R_reads' HO_5.out).2.2); (case side2 => exact (Kd.R_reads' HO_5.out).2.1); rintro e w51 ⟨v251, rfl, ho0, hb⟩; have n0_ := Aside0.mk (Kd.R_elder' (Rgn.rq HO_5.out) (Kd.R_base ho0) hb); have n1_ := Aside0.mk (Kd.R_lower (Kd.R_new' ho0 (Kd.R_lt (Rgn.rq HO_5.out))) (below_size (Rgn.bq HB.out))); have n2_ := Aside0.mk (Rgn.bb BK242.out hb); have n3_ := Aside0.mk (below_step (Rgn.bq HB.out) hb); clear HO_5; clear BK242; clear HB; have HO_5 := n0_; have HO252 := n1_; have BK242 := n2_; have HB := n3_; clear n0_ n1_ n2_ n3_; (try clear hb); (try clear hb2); (try clear hk); (try clear hi); (try clear ho0))))
              go_ret
              exact ⟨_, by first | rfl | (simp [errW_none, errW_some] <;> rfl) | (simp [*, errW_none, errW_some] <;> rfl), by (with_reducible repeat (first | apply Kd.R_alloc | apply Kd.R_drewN | apply Kd.R_drew)); exact Kd.R_mono HO252.out (fun _ hk => trivial), Rgn.bq HB.out⟩

end Go.Proofs.Ytkehfdadplpaeaa.PFnExactLogNext
