-- written by a program of this session (wip/src/print2.py)
import Derived.Test.YtdhjhadcadcceaaPFnExactDiskWritex0
import Derived.Test.YtdhjhadcadcceaaPFnExactDiskWritex3
import Derived.Test.YtdhjhadcadcceaaPFnExactDiskWritex4
namespace Go.Proofs.Ytdhjhadcadcceaa.PFnExactDiskWrite
open Go.RowKit Go.Proofs.YtdhjhadcadcceaaW.PrintWords Go.Proofs.YtdhjhadcadcceaaW.PrintLast Go.Proofs.YtdhjhadcadcceaaW.PrintMore
attribute [local go_sem] max2_int min2_int max_two min_two max_three min_three max_four min_four   -- for this text's walks alone
set_option linter.unusedVariables false
set_option linter.unusedSimpArgs false

/-! ### spec_DiskWrite: function 35 -/
def spec_DiskWrite.j0 : Nat → Int → List Int → Bool → List Int → List (S62) → Option (List Int × (List (S62)))
  | 0, _, _, _, _, _ => none
  | k + 1, x1, x2, x31, x184000, x184001 => if x31 = true then (some (([] : List Int), ([] : List (S62)))) else ((spec_l1CopyDisk.f k x184000 x184001).bind fun bt187 => ((spec_l1Copy.f x2).bind fun t194 => (if bt187.2.length < 4398046511104 then (some (bt187.1, (bt187.2 ++ [(⟨x1, t194⟩ : S62)]))) else (none))))
def spec_DiskWrite.f (k : Nat) (l0_0 : List Int) (l0_1 : List (S62)) (a1 : Int) (l2 : List Int) : Option (List Int × (List (S62))) := (spec_ValidDisk.f k l0_0 l0_1).bind fun t185 => (if t185 = true then (if (l0_1.length : Int) = 600 then (spec_DiskWrite.j0 k a1 l2 true l0_0 l0_1) else (if a1 < 0 then (spec_DiskWrite.j0 k a1 l2 true l0_0 l0_1) else ((spec_l1Blocks.f l0_0 l0_1).bind fun t186 => (if a1 ≥ t186 then (spec_DiskWrite.j0 k a1 l2 true l0_0 l0_1) else (spec_DiskWrite.j0 k a1 l2 ((l2.length : Int) != 64) l0_0 l0_1))))) else (spec_DiskWrite.j0 k a1 l2 true l0_0 l0_1))
theorem spec_DiskWrite.mono_l : ∀ k, (∀ y0 y1 y2 y3 y4, LeO (spec_DiskWrite.j0 k y0 y1 y2 y3 y4) (spec_DiskWrite.j0 (k + 1) y0 y1 y2 y3 y4))
  | 0 => fun _ _ _ _ _ r h => by simp [spec_DiskWrite.j0] at h
  | k + 1 => by
    have ih0 := spec_DiskWrite.mono_l k
    · intro y0 y1 y2 y3 y4
      unfold spec_DiskWrite.j0
      repeat' first
      | (with_reducible exact ih0 _ _ _ _ _)
      | (with_reducible exact spec_ValidDisk.mono _ _ _)
      | (with_reducible exact spec_l1CopyDisk.mono _ _ _)
      | (with_reducible exact LeO.refl _)
      | (with_reducible exact LeO.none _)
      | (with_reducible refine LeO.ite ?_ ?_)
      | (with_reducible refine LeO.bind ?_ (fun _ => ?_))
      | exact ih0 _ _ _ _ _
      | exact spec_ValidDisk.mono _ _ _
      | exact spec_l1CopyDisk.mono _ _ _
      | exact LeO.none _
      | refine LeO.ite ?_ ?_
      | refine LeO.bind ?_ (fun _ => ?_)
theorem spec_DiskWrite.mono : ∀ a0 a1 a2 a3 k, LeO (spec_DiskWrite.f k a0 a1 a2 a3) (spec_DiskWrite.f (k + 1) a0 a1 a2 a3) := by
  intro a0 a1 a2 a3 k
  have ih0 := spec_DiskWrite.mono_l k
  unfold spec_DiskWrite.f
  repeat' first
      | (with_reducible exact ih0 _ _ _ _ _)
      | (with_reducible exact spec_ValidDisk.mono _ _ _)
      | (with_reducible exact spec_l1CopyDisk.mono _ _ _)
      | (with_reducible exact LeO.refl _)
      | (with_reducible exact LeO.none _)
      | (with_reducible refine LeO.ite ?_ ?_)
      | (with_reducible refine LeO.bind ?_ (fun _ => ?_))
      | exact ih0 _ _ _ _ _
      | exact spec_ValidDisk.mono _ _ _
      | exact spec_l1CopyDisk.mono _ _ _
      | exact LeO.none _
      | refine LeO.ite ?_ ?_
      | refine LeO.bind ?_ (fun _ => ?_)
def spec_DiskWrite.T4 : Bool × List (List Nat × List Nat) := (true, [([], []), ([0], [0]), ([], []), ([], []), ([3], [3]), ([2, 4], [2, 4]), ([5], [5]), ([1, 6, 4], [1, 6]), ([0, 1, 2, 3, 4, 5, 6, 7], []), ([8, 7, 7, 0, 1, 2, 3, 4, 5, 6, 7], [7, 8])])
def spec_DiskWrite.B4 : List Nat := [0, 1, 0, 0, 8, 28, 60, 127, 255, 511]
theorem spec_DiskWrite.tab4 : rtab .any (opsOf Try.f35 4) = spec_DiskWrite.T4 := by kernel_rfl
theorem spec_DiskWrite.bits4 : waitsOk spec_DiskWrite.T4.2 spec_DiskWrite.B4 = true := by kernel_rfl
set_option maxHeartbeats 8000000 in
set_option maxRecDepth 100000 in
theorem spec_DiskWrite.calls (k : Nat) (A0_0 : Option Addr) (c0_0 : Nat) (l0_0 : List Int) (A0_1 : Option Addr) (c0_1 : Nat) (l0_1 : List (S62)) (a1 : Int) (A2 : Option Addr) (c2 : Nat) (l2 : List Int) (r1 : List Int) (r2 : List (S62)) (w : World) (hr0_0 : Kd.C (Kd.int .u8) w A0_0 l0_0.length l0_0) (hc0_0 : l0_0.length ≤ c0_0) (hr0_1 : Kd.C k62 w A0_1 l0_1.length l0_1) (hc0_1 : l0_1.length ≤ c0_1) (hr2 : Kd.C (Kd.int .u8) w A2 l2.length l2) (hc2 : l2.length ≤ c2) (h : spec_DiskWrite.f k l0_0 l0_1 a1 l2 = some (r1, r2)) :
    Calls Try.prog 35 #[.agg #[.slice A0_0 l0_0.length c0_0, .slice A0_1 l0_1.length c0_1], .int .i64 a1, .slice A2 l2.length c2] w fun e w' => ∃ v0_ v1_ : Value, e = .returned (.agg #[v0_, v1_]) ∧ Kd.R (Kd.int .u8) 5 w' w.heap.size (fun _ => True) v0_ r1 ∧ Kd.S k62 62 w' w.heap.size (fun k_ => some k_ ≠ (v0_ : Value).ownBlock) v1_ r2 ∧ Below w.heap.size w w' := by
  have hu29 := Try.underlying29
  have hu62 := Try.underlying62
  have HR0_0 := Aside0.mk hr0_0
  have HC0_0 := Aside0.mk hc0_0
  clear hr0_0 hc0_0
  have HR0_1 := Aside0.mk hr0_1
  have HC0_1 := Aside0.mk hc0_1
  clear hr0_1 hc0_1
  have HR2 := Aside0.mk hr2
  have HC2 := Aside0.mk hc2
  clear hr2 hc2
  have HB := Aside0.mk (Below.refl w.heap.size w)
  have H : ((spec_ValidDisk.f k l0_0 l0_1).bind fun t185 => (if t185 = true then (if (l0_1.length : Int) = 600 then (spec_DiskWrite.j0 k a1 l2 true l0_0 l0_1) else (if a1 < 0 then (spec_DiskWrite.j0 k a1 l2 true l0_0 l0_1) else ((spec_l1Blocks.f l0_0 l0_1).bind fun t186 => (if a1 ≥ t186 then (spec_DiskWrite.j0 k a1 l2 true l0_0 l0_1) else (spec_DiskWrite.j0 k a1 l2 ((l2.length : Int) != 64) l0_0 l0_1))))) else (spec_DiskWrite.j0 k a1 l2 true l0_0 l0_1))) = some (r1, r2) := h
  clear h
  have HC4 := Aside0.mk H
  clear H
  go_enter Try.func35, Try.ntmps35
  go_upto_region 1 with (first | ((with_reducible refine gate_dst (N := 3) rfl ?_); (try (refine gate_guard (by rfl) ?_; dsimp only)); refine box_event ?hg (N := 3) ?hd (cs := #[.slice A0_0 l0_0.length c0_0, .slice A0_1 l0_1.length c0_1]) (t := 29) ?hr ?_; (case hd => rfl); (case hg => rfl); (case hr => first | (go_simp; done) | (go_simp; rfl)); intro gb183 hg w5 hbox hb; have n0_ := Aside0.mk (below_step (by repeat (first | (with_reducible first | exact HB.out | apply below_alloc | apply pw_below_drewN | apply below_drew1) | exact HB.out)) hb); have n1_ := Aside0.mk (hbox); have n2_ := Aside0.mk ((by rw [hg]; exact (below_size (by repeat (first | (with_reducible first | exact HB.out | apply below_alloc | apply pw_below_drewN | apply below_drew1) | exact HB.out))) : w.heap.size ≤ gb183)); have n3_ := Aside0.mk ((by rw [hg]; exact (below_size (by repeat (first | (with_reducible first | exact HB.out | apply below_alloc | apply pw_below_drewN | apply below_drew1) | exact HB.out))) : w.heap.size ≤ gb183)); clear HB; have HB := n0_; have BK183 := n1_; have GW183 := n2_; have GE183 := n3_; clear n0_ n1_ n2_ n3_; clear hb hbox hg) | ((with_reducible refine gate_dst (N := 6) rfl ?_); (try (refine gate_guard (by rfl) ?_; dsimp only)); refine box_event ?hg (N := 6) ?hd (cs := #[.slice none 0 0, .slice none 0 0]) (t := 29) ?hr ?_; (case hd => rfl); (case hg => rfl); (case hr => first | (go_simp; done) | (go_simp; rfl)); intro gb184 hg w6 hbox hb; have n0_ := Aside0.mk (blk_below (g := gb183) (o := .cells #[.slice A0_0 l0_0.length c0_0, .slice A0_1 l0_1.length c0_1] 29 (0, 0)) (by (with_reducible repeat (first | refine blk_drewN ?_ _ | refine blk_drew ?_ | refine blk_alloc ?_ _)); exact BK183.out) hb); have n1_ := Aside0.mk (below_step (by repeat (first | (with_reducible first | exact HB.out | apply below_alloc | apply pw_below_drewN | apply below_drew1 | refine below_set ?_ GE183.out) | exact HB.out)) hb); have n2_ := Aside0.mk (hbox); have n3_ := Aside0.mk ((by rw [hg]; exact (below_size (by repeat (first | (with_reducible first | exact HB.out | apply below_alloc | apply pw_below_drewN | apply below_drew1 | refine below_set ?_ GE183.out) | exact HB.out))) : w.heap.size ≤ gb184)); have n4_ := Aside0.mk ((by rw [hg]; exact (below_size (by repeat (first | (with_reducible first | exact HB.out | apply below_alloc | apply pw_below_drewN | apply below_drew1 | refine below_set ?_ GE183.out) | exact HB.out))) : w.heap.size ≤ gb184)); have n5_ := Aside0.mk ((by rw [hg]; exact Nat.ne_of_lt (blk_lt (g := gb183) (o := .cells #[.slice A0_0 l0_0.length c0_0, .slice A0_1 l0_1.length c0_1] 29 (0, 0)) (by (with_reducible repeat (first | refine blk_drewN ?_ _ | refine blk_drew ?_ | refine blk_alloc ?_ _)); exact BK183.out)) : gb183 ≠ gb184)); have n6_ := Aside0.mk ((by rw [hg]; exact Nat.ne_of_gt (blk_lt (g := gb183) (o := .cells #[.slice A0_0 l0_0.length c0_0, .slice A0_1 l0_1.length c0_1] 29 (0, 0)) (by (with_reducible repeat (first | refine blk_drewN ?_ _ | refine blk_drew ?_ | refine blk_alloc ?_ _)); exact BK183.out)) : gb184 ≠ gb183)); clear BK183; clear HB; have BK183 := n0_; have HB := n1_; have BK184 := n2_; have GW184 := n3_; have GE184 := n4_; have NB183_184 := n5_; have NB184_183 := n6_; clear n0_ n1_ n2_ n3_ n4_ n5_ n6_; clear hb hbox hg))
  (try simp only [Act.put, List.setIfInBounds_toArray, List.set_cons_zero, List.set_cons_succ])
  go_cut [31] (fun v31 wc => ∃ (kq : Nat) (x31_3 : Bool), v31 = .bool x31_3 ∧ Aside0 (spec_DiskWrite.j0 kq a1 l2 x31_3 l0_0 l0_1 = some (r1, r2)) ∧ Aside0 (kq ≤ k) ∧ Aside0 (wc.heap[gb183]? = some (.cells #[(.slice A0_0 l0_0.length c0_0), (.slice A0_1 l0_1.length c0_1)] 29 (0, 0))) ∧ Aside0 (wc.heap[gb184]? = some (.cells #[(.slice none 0 0), (.slice none 0 0)] 29 (0, 0))) ∧ Aside0 (Below w.heap.size w wc))
  case first =>
    have H := HC4.out
    clear HC4
    replace H := Option.bind_eq_some_iff.mp H
    obtain ⟨t185, A70, H⟩ := H
    replace H : (if t185 = true then (if (l0_1.length : Int) = 600 then (spec_DiskWrite.j0 k a1 l2 true l0_0 l0_1) else (if a1 < 0 then (spec_DiskWrite.j0 k a1 l2 true l0_0 l0_1) else ((spec_l1Blocks.f l0_0 l0_1).bind fun t186 => (if a1 ≥ t186 then (spec_DiskWrite.j0 k a1 l2 true l0_0 l0_1) else (spec_DiskWrite.j0 k a1 l2 ((l2.length : Int) != 64) l0_0 l0_1))))) else (spec_DiskWrite.j0 k a1 l2 true l0_0 l0_1)) = some (r1, r2) := H
    have A7 := Aside0.mk A70
    clear A70
    by_cases c8 : t185 = true
    · subst c8
      have H1 : (if (l0_1.length : Int) = 600 then (spec_DiskWrite.j0 k a1 l2 true l0_0 l0_1) else (if a1 < 0 then (spec_DiskWrite.j0 k a1 l2 true l0_0 l0_1) else ((spec_l1Blocks.f l0_0 l0_1).bind fun t186 => (if a1 ≥ t186 then (spec_DiskWrite.j0 k a1 l2 true l0_0 l0_1) else (spec_DiskWrite.j0 k a1 l2 ((l2.length : Int) != 64) l0_0 l0_1))))) = some (r1, r2) := by rw [if_pos rfl] at H; exact H
      clear H
      have H := H1
      clear H1
      by_cases c9 : (l0_1.length : Int) = 600
      · rw [if_pos c9] at H
        have c9b0 : ((l0_1.length : Int) == 600) = true := beq_iff_eq.mpr c9
        have c9b1 : ((l0_1.length : Int) != 600) = false := bne_eq_false_iff_eq.mpr c9
        clear c9
        (first | rw [c9b0] | (simp only [i64_w, i32_w]; rw [c9b0]) | skip)
        have H' := Aside0.mk H
        clear H
        have hnb10 := NB183_184.out
        have hnc10 := NB184_183.out
        have hcz11_0 : w6.cell? ⟨gb183, 0, none⟩ = some (.slice A0_0 l0_0.length c0_0) := (blk_cell BK183.out 0).trans rfl
        have hcz11_1 : w6.cell? ⟨gb183, 1, none⟩ = some (.slice A0_1 l0_1.length c0_1) := (blk_cell BK183.out 1).trans rfl
        have hfz11_0 := blk_frozen BK183.out 0
        have hfz11_1 := blk_frozen BK183.out 1
        go_wp2_with (first | ((with_reducible refine gate_callee (f := 26) rfl ?_); refine goesL_ (some 9) rfl rfl Try.func26 (by kernel_rfl) rfl #[.agg #[.slice A0_0 l0_0.length c0_0, .slice A0_1 l0_1.length c0_1]] rfl (by (try simp only [List.map_toArray, List.map_cons, List.map_nil]); first | done | rfl | (simp only [List.length_drop, List.length_take]; rfl)) ?_; (with_reducible refine (spec_ValidDisk.calls k _ _ l0_0 _ _ l0_1 true _ ?side1 ?side2 ?side3 ?side4 A7.out).mono ?_); (case side1 => repeat (first | exact (Kd.C_below HR0_0.out HB.out) | (with_reducible refine Kd.C_alloc ?_ _) | (with_reducible refine Kd.C_drewN ?_ _) | (with_reducible refine Kd.C_drew ?_))); (case side2 => exact HC0_0.out); (case side3 => repeat (first | exact (Kd.C_below HR0_1.out HB.out) | (with_reducible refine Kd.C_alloc ?_ _) | (with_reducible refine Kd.C_drewN ?_ _) | (with_reducible refine Kd.C_drew ?_))); (case side4 => exact HC0_1.out); rintro e w12 ⟨rfl, hb⟩; refine ⟨_, rfl, ?_⟩; have n0_ := Aside0.mk (blk_below (g := gb183) (o := .cells #[.slice A0_0 l0_0.length c0_0, .slice A0_1 l0_1.length c0_1] 29 (0, 0)) (by (with_reducible repeat (first | refine blk_drewN ?_ _ | refine blk_drew ?_ | refine blk_alloc ?_ _)); exact BK183.out) hb); have n1_ := Aside0.mk (blk_below (g := gb184) (o := .cells #[.slice none 0 0, .slice none 0 0] 29 (0, 0)) (by (with_reducible repeat (first | refine blk_drewN ?_ _ | refine blk_drew ?_ | refine blk_alloc ?_ _)); exact BK184.out) hb); have n2_ := Aside0.mk (below_step (by repeat (first | (with_reducible first | exact HB.out | apply below_alloc | apply pw_below_drewN | apply below_drew1 | refine below_set ?_ GE183.out | refine below_set ?_ GE184.out) | exact HB.out)) hb); clear BK183; clear BK184; clear HB; have BK183 := n0_; have BK184 := n1_; have HB := n2_; clear n0_ n1_ n2_; (try clear hb); (try clear hb2); (try clear hk); (try clear hi); have hcz13_0 : w12.cell? ⟨gb183, 0, none⟩ = some (.slice A0_0 l0_0.length c0_0) := (blk_cell BK183.out 0).trans rfl; have hcz13_1 : w12.cell? ⟨gb183, 1, none⟩ = some (.slice A0_1 l0_1.length c0_1) := (blk_cell BK183.out 1).trans rfl; have hfz13_0 := blk_frozen BK183.out 0; have hfz13_1 := blk_frozen BK183.out 1))
        go_meet
        case rel => exact ⟨_, (true), (by first | rfl | (simp; done) | (simp [*]; done)), H', ⟨by first | omega | exact Nat.le_refl _⟩, ⟨by (with_reducible repeat (first | refine blk_drewN ?_ _ | refine blk_drew ?_ | refine blk_alloc ?_ _)); exact BK183.out⟩, ⟨by (with_reducible repeat (first | refine blk_drewN ?_ _ | refine blk_drew ?_ | refine blk_alloc ?_ _)); exact BK184.out⟩, ⟨by repeat (first | (with_reducible first | exact HB.out | apply below_alloc | apply pw_below_drewN | apply below_drew1 | refine below_set ?_ GE183.out | refine below_set ?_ GE184.out) | exact HB.out)⟩⟩
      · rw [if_neg c9] at H
        have c9b0 : ((l0_1.length : Int) == 600) = false := beq_eq_false_iff_ne.mpr c9
        have c9b1 : ((l0_1.length : Int) != 600) = true := bne_iff_ne.mpr c9
        (first | rw [c9b0] | (simp only [i64_w, i32_w]; rw [c9b0]) | skip)
        by_cases c14 : a1 < 0
        · rw [if_pos c14] at H
          have c14b0 : decide (a1 < 0) = true := decide_eq_true c14
          clear c14
          have H' := Aside0.mk H
          clear H
          have hnb15 := NB183_184.out
          have hnc15 := NB184_183.out
          have hcz16_0 : w6.cell? ⟨gb183, 0, none⟩ = some (.slice A0_0 l0_0.length c0_0) := (blk_cell BK183.out 0).trans rfl
          have hcz16_1 : w6.cell? ⟨gb183, 1, none⟩ = some (.slice A0_1 l0_1.length c0_1) := (blk_cell BK183.out 1).trans rfl
          have hfz16_0 := blk_frozen BK183.out 0
          have hfz16_1 := blk_frozen BK183.out 1
          go_wp2_with (first | ((with_reducible refine gate_callee (f := 26) rfl ?_); refine goesL_ (some 9) rfl rfl Try.func26 (by kernel_rfl) rfl #[.agg #[.slice A0_0 l0_0.length c0_0, .slice A0_1 l0_1.length c0_1]] rfl (by (try simp only [List.map_toArray, List.map_cons, List.map_nil]); first | done | rfl | (simp only [List.length_drop, List.length_take]; rfl)) ?_; (with_reducible refine (spec_ValidDisk.calls k _ _ l0_0 _ _ l0_1 true _ ?side1 ?side2 ?side3 ?side4 A7.out).mono ?_); (case side1 => repeat (first | exact (Kd.C_below HR0_0.out HB.out) | (with_reducible refine Kd.C_alloc ?_ _) | (with_reducible refine Kd.C_drewN ?_ _) | (with_reducible refine Kd.C_drew ?_))); (case side2 => exact HC0_0.out); (case side3 => repeat (first | exact (Kd.C_below HR0_1.out HB.out) | (with_reducible refine Kd.C_alloc ?_ _) | (with_reducible refine Kd.C_drewN ?_ _) | (with_reducible refine Kd.C_drew ?_))); (case side4 => exact HC0_1.out); rintro e w17 ⟨rfl, hb⟩; refine ⟨_, rfl, ?_⟩; have n0_ := Aside0.mk (blk_below (g := gb183) (o := .cells #[.slice A0_0 l0_0.length c0_0, .slice A0_1 l0_1.length c0_1] 29 (0, 0)) (by (with_reducible repeat (first | refine blk_drewN ?_ _ | refine blk_drew ?_ | refine blk_alloc ?_ _)); exact BK183.out) hb); have n1_ := Aside0.mk (blk_below (g := gb184) (o := .cells #[.slice none 0 0, .slice none 0 0] 29 (0, 0)) (by (with_reducible repeat (first | refine blk_drewN ?_ _ | refine blk_drew ?_ | refine blk_alloc ?_ _)); exact BK184.out) hb); have n2_ := Aside0.mk (below_step (by repeat (first | (with_reducible first | exact HB.out | apply below_alloc | apply pw_below_drewN | apply below_drew1 | refine below_set ?_ GE183.out | refine below_set ?_ GE184.out) | exact HB.out)) hb); clear BK183; clear BK184; clear HB; have BK183 := n0_; have BK184 := n1_; have HB := n2_; clear n0_ n1_ n2_; (try clear hb); (try clear hb2); (try clear hk); (try clear hi); have hcz18_0 : w17.cell? ⟨gb183, 0, none⟩ = some (.slice A0_0 l0_0.length c0_0) := (blk_cell BK183.out 0).trans rfl; have hcz18_1 : w17.cell? ⟨gb183, 1, none⟩ = some (.slice A0_1 l0_1.length c0_1) := (blk_cell BK183.out 1).trans rfl; have hfz18_0 := blk_frozen BK183.out 0; have hfz18_1 := blk_frozen BK183.out 1))
          go_meet
          case rel => exact ⟨_, (true), (by first | rfl | (simp; done) | (simp [*]; done)), H', ⟨by first | omega | exact Nat.le_refl _⟩, ⟨by (with_reducible repeat (first | refine blk_drewN ?_ _ | refine blk_drew ?_ | refine blk_alloc ?_ _)); exact BK183.out⟩, ⟨by (with_reducible repeat (first | refine blk_drewN ?_ _ | refine blk_drew ?_ | refine blk_alloc ?_ _)); exact BK184.out⟩, ⟨by repeat (first | (with_reducible first | exact HB.out | apply below_alloc | apply pw_below_drewN | apply below_drew1 | refine below_set ?_ GE183.out | refine below_set ?_ GE184.out) | exact HB.out)⟩⟩
        · rw [if_neg c14] at H
          have c14b0 : decide (a1 < 0) = false := decide_eq_false c14
          clear c14
          replace H := Option.bind_eq_some_iff.mp H
          obtain ⟨t186, A190, H⟩ := H
          replace H : (if a1 ≥ t186 then (spec_DiskWrite.j0 k a1 l2 true l0_0 l0_1) else (spec_DiskWrite.j0 k a1 l2 ((l2.length : Int) != 64) l0_0 l0_1)) = some (r1, r2) := H
          have A19 := Aside0.mk A190
          clear A190
          by_cases c20 : a1 ≥ t186
          · rw [if_pos c20] at H
            have c20b0 : decide (t186 ≤ a1) = true := decide_eq_true c20
            clear c20
            have H' := Aside0.mk H
            clear H
            have hnb21 := NB183_184.out
            have hnc21 := NB184_183.out
            have hcz22_0 : w6.cell? ⟨gb183, 0, none⟩ = some (.slice A0_0 l0_0.length c0_0) := (blk_cell BK183.out 0).trans rfl
            have hcz22_1 : w6.cell? ⟨gb183, 1, none⟩ = some (.slice A0_1 l0_1.length c0_1) := (blk_cell BK183.out 1).trans rfl
            have hfz22_0 := blk_frozen BK183.out 0
            have hfz22_1 := blk_frozen BK183.out 1
            go_wp2_with (first | ((with_reducible refine gate_callee (f := 26) rfl ?_); refine goesL_ (some 9) rfl rfl Try.func26 (by kernel_rfl) rfl #[.agg #[.slice A0_0 l0_0.length c0_0, .slice A0_1 l0_1.length c0_1]] rfl (by (try simp only [List.map_toArray, List.map_cons, List.map_nil]); first | done | rfl | (simp only [List.length_drop, List.length_take]; rfl)) ?_; (with_reducible refine (spec_ValidDisk.calls k _ _ l0_0 _ _ l0_1 true _ ?side1 ?side2 ?side3 ?side4 A7.out).mono ?_); (case side1 => repeat (first | exact (Kd.C_below HR0_0.out HB.out) | (with_reducible refine Kd.C_alloc ?_ _) | (with_reducible refine Kd.C_drewN ?_ _) | (with_reducible refine Kd.C_drew ?_))); (case side2 => exact HC0_0.out); (case side3 => repeat (first | exact (Kd.C_below HR0_1.out HB.out) | (with_reducible refine Kd.C_alloc ?_ _) | (with_reducible refine Kd.C_drewN ?_ _) | (with_reducible refine Kd.C_drew ?_))); (case side4 => exact HC0_1.out); rintro e w23 ⟨rfl, hb⟩; refine ⟨_, rfl, ?_⟩; have n0_ := Aside0.mk (blk_below (g := gb183) (o := .cells #[.slice A0_0 l0_0.length c0_0, .slice A0_1 l0_1.length c0_1] 29 (0, 0)) (by (with_reducible repeat (first | refine blk_drewN ?_ _ | refine blk_drew ?_ | refine blk_alloc ?_ _)); exact BK183.out) hb); have n1_ := Aside0.mk (blk_below (g := gb184) (o := .cells #[.slice none 0 0, .slice none 0 0] 29 (0, 0)) (by (with_reducible repeat (first | refine blk_drewN ?_ _ | refine blk_drew ?_ | refine blk_alloc ?_ _)); exact BK184.out) hb); have n2_ := Aside0.mk (below_step (by repeat (first | (with_reducible first | exact HB.out | apply below_alloc | apply pw_below_drewN | apply below_drew1 | refine below_set ?_ GE183.out | refine below_set ?_ GE184.out) | exact HB.out)) hb); clear BK183; clear BK184; clear HB; have BK183 := n0_; have BK184 := n1_; have HB := n2_; clear n0_ n1_ n2_; (try clear hb); (try clear hb2); (try clear hk); (try clear hi); have hcz24_0 : w23.cell? ⟨gb183, 0, none⟩ = some (.slice A0_0 l0_0.length c0_0) := (blk_cell BK183.out 0).trans rfl; have hcz24_1 : w23.cell? ⟨gb183, 1, none⟩ = some (.slice A0_1 l0_1.length c0_1) := (blk_cell BK183.out 1).trans rfl; have hfz24_0 := blk_frozen BK183.out 0; have hfz24_1 := blk_frozen BK183.out 1) | (go_at_call 70; (with_reducible refine (spec_l1Blocks.calls _ _ l0_0 _ _ l0_1 t186 _ ?side1 ?side2 ?side3 ?side4 A19.out).mono ?_); (case side1 => repeat (first | exact (Kd.C_below HR0_0.out HB.out) | (with_reducible refine Kd.C_alloc ?_ _) | (with_reducible refine Kd.C_drewN ?_ _) | (with_reducible refine Kd.C_drew ?_))); (case side2 => exact HC0_0.out); (case side3 => repeat (first | exact (Kd.C_below HR0_1.out HB.out) | (with_reducible refine Kd.C_alloc ?_ _) | (with_reducible refine Kd.C_drewN ?_ _) | (with_reducible refine Kd.C_drew ?_))); (case side4 => exact HC0_1.out); rintro e w25 ⟨rfl, hb⟩; have n0_ := Aside0.mk (blk_below (g := gb183) (o := .cells #[.slice A0_0 l0_0.length c0_0, .slice A0_1 l0_1.length c0_1] 29 (0, 0)) (by (with_reducible repeat (first | refine blk_drewN ?_ _ | refine blk_drew ?_ | refine blk_alloc ?_ _)); exact BK183.out) hb); have n1_ := Aside0.mk (blk_below (g := gb184) (o := .cells #[.slice none 0 0, .slice none 0 0] 29 (0, 0)) (by (with_reducible repeat (first | refine blk_drewN ?_ _ | refine blk_drew ?_ | refine blk_alloc ?_ _)); exact BK184.out) hb); have n2_ := Aside0.mk (below_step (by repeat (first | (with_reducible first | exact HB.out | apply below_alloc | apply pw_below_drewN | apply below_drew1 | refine below_set ?_ GE183.out | refine below_set ?_ GE184.out) | exact HB.out)) hb); clear BK183; clear BK184; clear HB; have BK183 := n0_; have BK184 := n1_; have HB := n2_; clear n0_ n1_ n2_; (try clear hb); (try clear hb2); (try clear hk); (try clear hi)))
            go_meet
            case rel => exact ⟨_, (true), (by first | rfl | (simp; done) | (simp [*]; done)), H', ⟨by first | omega | exact Nat.le_refl _⟩, ⟨by (with_reducible repeat (first | refine blk_drewN ?_ _ | refine blk_drew ?_ | refine blk_alloc ?_ _)); exact BK183.out⟩, ⟨by (with_reducible repeat (first | refine blk_drewN ?_ _ | refine blk_drew ?_ | refine blk_alloc ?_ _)); exact BK184.out⟩, ⟨by repeat (first | (with_reducible first | exact HB.out | apply below_alloc | apply pw_below_drewN | apply below_drew1 | refine below_set ?_ GE183.out | refine below_set ?_ GE184.out) | exact HB.out)⟩⟩
          · rw [if_neg c20] at H
            have c20b0 : decide (t186 ≤ a1) = false := decide_eq_false c20
            clear c20
            have H' := Aside0.mk H
            clear H
            have hnb26 := NB183_184.out
            have hnc26 := NB184_183.out
            have hcz27_0 : w6.cell? ⟨gb183, 0, none⟩ = some (.slice A0_0 l0_0.length c0_0) := (blk_cell BK183.out 0).trans rfl
            have hcz27_1 : w6.cell? ⟨gb183, 1, none⟩ = some (.slice A0_1 l0_1.length c0_1) := (blk_cell BK183.out 1).trans rfl
            have hfz27_0 := blk_frozen BK183.out 0
            have hfz27_1 := blk_frozen BK183.out 1
            go_wp2_with (first | ((with_reducible refine gate_callee (f := 26) rfl ?_); refine goesL_ (some 9) rfl rfl Try.func26 (by kernel_rfl) rfl #[.agg #[.slice A0_0 l0_0.length c0_0, .slice A0_1 l0_1.length c0_1]] rfl (by (try simp only [List.map_toArray, List.map_cons, List.map_nil]); first | done | rfl | (simp only [List.length_drop, List.length_take]; rfl)) ?_; (with_reducible refine (spec_ValidDisk.calls k _ _ l0_0 _ _ l0_1 true _ ?side1 ?side2 ?side3 ?side4 A7.out).mono ?_); (case side1 => repeat (first | exact (Kd.C_below HR0_0.out HB.out) | (with_reducible refine Kd.C_alloc ?_ _) | (with_reducible refine Kd.C_drewN ?_ _) | (with_reducible refine Kd.C_drew ?_))); (case side2 => exact HC0_0.out); (case side3 => repeat (first | exact (Kd.C_below HR0_1.out HB.out) | (with_reducible refine Kd.C_alloc ?_ _) | (with_reducible refine Kd.C_drewN ?_ _) | (with_reducible refine Kd.C_drew ?_))); (case side4 => exact HC0_1.out); rintro e w28 ⟨rfl, hb⟩; refine ⟨_, rfl, ?_⟩; have n0_ := Aside0.mk (blk_below (g := gb183) (o := .cells #[.slice A0_0 l0_0.length c0_0, .slice A0_1 l0_1.length c0_1] 29 (0, 0)) (by (with_reducible repeat (first | refine blk_drewN ?_ _ | refine blk_drew ?_ | refine blk_alloc ?_ _)); exact BK183.out) hb); have n1_ := Aside0.mk (blk_below (g := gb184) (o := .cells #[.slice none 0 0, .slice none 0 0] 29 (0, 0)) (by (with_reducible repeat (first | refine blk_drewN ?_ _ | refine blk_drew ?_ | refine blk_alloc ?_ _)); exact BK184.out) hb); have n2_ := Aside0.mk (below_step (by repeat (first | (with_reducible first | exact HB.out | apply below_alloc | apply pw_below_drewN | apply below_drew1 | refine below_set ?_ GE183.out | refine below_set ?_ GE184.out) | exact HB.out)) hb); clear BK183; clear BK184; clear HB; have BK183 := n0_; have BK184 := n1_; have HB := n2_; clear n0_ n1_ n2_; (try clear hb); (try clear hb2); (try clear hk); (try clear hi); have hcz29_0 : w28.cell? ⟨gb183, 0, none⟩ = some (.slice A0_0 l0_0.length c0_0) := (blk_cell BK183.out 0).trans rfl; have hcz29_1 : w28.cell? ⟨gb183, 1, none⟩ = some (.slice A0_1 l0_1.length c0_1) := (blk_cell BK183.out 1).trans rfl; have hfz29_0 := blk_frozen BK183.out 0; have hfz29_1 := blk_frozen BK183.out 1) | (go_at_call 70; (with_reducible refine (spec_l1Blocks.calls _ _ l0_0 _ _ l0_1 t186 _ ?side1 ?side2 ?side3 ?side4 A19.out).mono ?_); (case side1 => repeat (first | exact (Kd.C_below HR0_0.out HB.out) | (with_reducible refine Kd.C_alloc ?_ _) | (with_reducible refine Kd.C_drewN ?_ _) | (with_reducible refine Kd.C_drew ?_))); (case side2 => exact HC0_0.out); (case side3 => repeat (first | exact (Kd.C_below HR0_1.out HB.out) | (with_reducible refine Kd.C_alloc ?_ _) | (with_reducible refine Kd.C_drewN ?_ _) | (with_reducible refine Kd.C_drew ?_))); (case side4 => exact HC0_1.out); rintro e w30 ⟨rfl, hb⟩; have n0_ := Aside0.mk (blk_below (g := gb183) (o := .cells #[.slice A0_0 l0_0.length c0_0, .slice A0_1 l0_1.length c0_1] 29 (0, 0)) (by (with_reducible repeat (first | refine blk_drewN ?_ _ | refine blk_drew ?_ | refine blk_alloc ?_ _)); exact BK183.out) hb); have n1_ := Aside0.mk (blk_below (g := gb184) (o := .cells #[.slice none 0 0, .slice none 0 0] 29 (0, 0)) (by (with_reducible repeat (first | refine blk_drewN ?_ _ | refine blk_drew ?_ | refine blk_alloc ?_ _)); exact BK184.out) hb); have n2_ := Aside0.mk (below_step (by repeat (first | (with_reducible first | exact HB.out | apply below_alloc | apply pw_below_drewN | apply below_drew1 | refine below_set ?_ GE183.out | refine below_set ?_ GE184.out) | exact HB.out)) hb); clear BK183; clear BK184; clear HB; have BK183 := n0_; have BK184 := n1_; have HB := n2_; clear n0_ n1_ n2_; (try clear hb); (try clear hb2); (try clear hk); (try clear hi)))
            go_meet
            case rel => exact ⟨_, (((l2.length : Int) != 64)), (by first | rfl | (simp; done) | (simp [*]; done)), H', ⟨by first | omega | exact Nat.le_refl _⟩, ⟨by (with_reducible repeat (first | refine blk_drewN ?_ _ | refine blk_drew ?_ | refine blk_alloc ?_ _)); exact BK183.out⟩, ⟨by (with_reducible repeat (first | refine blk_drewN ?_ _ | refine blk_drew ?_ | refine blk_alloc ?_ _)); exact BK184.out⟩, ⟨by repeat (first | (with_reducible first | exact HB.out | apply below_alloc | apply pw_below_drewN | apply below_drew1 | refine below_set ?_ GE183.out | refine below_set ?_ GE184.out) | exact HB.out)⟩⟩
    · replace c8 := Bool.eq_false_iff.mpr c8
      subst c8
      have H1 : (spec_DiskWrite.j0 k a1 l2 true l0_0 l0_1) = some (r1, r2) := by rw [if_neg (show ¬ (false = true) by decide)] at H; exact H
      clear H
      have H := H1
      clear H1
      have H' := Aside0.mk H
      clear H
      have hnb31 := NB183_184.out
      have hnc31 := NB184_183.out
      have hcz32_0 : w6.cell? ⟨gb183, 0, none⟩ = some (.slice A0_0 l0_0.length c0_0) := (blk_cell BK183.out 0).trans rfl
      have hcz32_1 : w6.cell? ⟨gb183, 1, none⟩ = some (.slice A0_1 l0_1.length c0_1) := (blk_cell BK183.out 1).trans rfl
      have hfz32_0 := blk_frozen BK183.out 0
      have hfz32_1 := blk_frozen BK183.out 1
      go_wp2_with (first | ((with_reducible refine gate_callee (f := 26) rfl ?_); refine goesL_ (some 9) rfl rfl Try.func26 (by kernel_rfl) rfl #[.agg #[.slice A0_0 l0_0.length c0_0, .slice A0_1 l0_1.length c0_1]] rfl (by (try simp only [List.map_toArray, List.map_cons, List.map_nil]); first | done | rfl | (simp only [List.length_drop, List.length_take]; rfl)) ?_; (with_reducible refine (spec_ValidDisk.calls k _ _ l0_0 _ _ l0_1 false _ ?side1 ?side2 ?side3 ?side4 A7.out).mono ?_); (case side1 => repeat (first | exact (Kd.C_below HR0_0.out HB.out) | (with_reducible refine Kd.C_alloc ?_ _) | (with_reducible refine Kd.C_drewN ?_ _) | (with_reducible refine Kd.C_drew ?_))); (case side2 => exact HC0_0.out); (case side3 => repeat (first | exact (Kd.C_below HR0_1.out HB.out) | (with_reducible refine Kd.C_alloc ?_ _) | (with_reducible refine Kd.C_drewN ?_ _) | (with_reducible refine Kd.C_drew ?_))); (case side4 => exact HC0_1.out); rintro e w33 ⟨rfl, hb⟩; refine ⟨_, rfl, ?_⟩; have n0_ := Aside0.mk (blk_below (g := gb183) (o := .cells #[.slice A0_0 l0_0.length c0_0, .slice A0_1 l0_1.length c0_1] 29 (0, 0)) (by (with_reducible repeat (first | refine blk_drewN ?_ _ | refine blk_drew ?_ | refine blk_alloc ?_ _)); exact BK183.out) hb); have n1_ := Aside0.mk (blk_below (g := gb184) (o := .cells #[.slice none 0 0, .slice none 0 0] 29 (0, 0)) (by (with_reducible repeat (first | refine blk_drewN ?_ _ | refine blk_drew ?_ | refine blk_alloc ?_ _)); exact BK184.out) hb); have n2_ := Aside0.mk (below_step (by repeat (first | (with_reducible first | exact HB.out | apply below_alloc | apply pw_below_drewN | apply below_drew1 | refine below_set ?_ GE183.out | refine below_set ?_ GE184.out) | exact HB.out)) hb); clear BK183; clear BK184; clear HB; have BK183 := n0_; have BK184 := n1_; have HB := n2_; clear n0_ n1_ n2_; (try clear hb); (try clear hb2); (try clear hk); (try clear hi)))
      go_meet
      case rel => exact ⟨_, (true), (by first | rfl | (simp; done) | (simp [*]; done)), H', ⟨by first | omega | exact Nat.le_refl _⟩, ⟨by (with_reducible repeat (first | refine blk_drewN ?_ _ | refine blk_drew ?_ | refine blk_alloc ?_ _)); exact BK183.out⟩, ⟨by (with_reducible repeat (first | refine blk_drewN ?_ _ | refine blk_drew ?_ | refine blk_alloc ?_ _)); exact BK184.out⟩, ⟨by repeat (first | (with_reducible first | exact HB.out | apply below_alloc | apply pw_below_drewN | apply below_drew1 | refine below_set ?_ GE183.out | refine below_set ?_ GE184.out) | exact HB.out)⟩⟩
  case rest =>
    clear HC4
    try clear c1
    try clear c2
    try clear p2
    try clear c3
    try clear c8
    try clear c9
    try clear c9b0
    try clear c9b1
    try clear c10
    try clear c14
    try clear c14b0
    try clear c15
    try clear c20
    try clear c20b0
    try clear c21
    try clear c26
    try clear c31
    try clear hcz11_0
    try clear hcz11_1
    try clear hcz13_0
    try clear hcz13_1
    try clear hcz16_0
    try clear hcz16_1
    try clear hcz18_0
    try clear hcz18_1
    try clear hcz22_0
    try clear hcz22_1
    try clear hcz24_0
    try clear hcz24_1
    try clear hcz27_0
    try clear hcz27_1
    try clear hcz29_0
    try clear hcz29_1
    try clear hcz32_0
    try clear hcz32_1
    try clear hfz11_0
    try clear hfz11_1
    try clear hfz13_0
    try clear hfz13_1
    try clear hfz16_0
    try clear hfz16_1
    try clear hfz18_0
    try clear hfz18_1
    try clear hfz22_0
    try clear hfz22_1
    try clear hfz24_0
    try clear hfz24_1
    try clear hfz27_0
    try clear hfz27_1
    try clear hfz29_0
    try clear hfz29_1
    try clear hfz32_0
    try clear hfz32_1
    obtain ⟨kq, x31_3, rfl, HA, HJ3, BK183, BK184, HB⟩ := hcut
    cases kq with
    | zero => exact absurd HA.out (by simp [spec_DiskWrite.j0])
    | succ kj3 =>
      have H := HA.out
      clear HA
      simp only [spec_DiskWrite.j0] at H
      by_cases c34 : x31_3 = true
      · subst c34
        have H1 : (some (([] : List Int), ([] : List (S62)))) = some (r1, r2) := by rw [if_pos rfl] at H; exact H
        clear H
        have H := H1
        clear H1
        simp only [Option.some.injEq, Prod.mk.injEq] at H
        obtain ⟨rfl, rfl⟩ := H
        have hnb35 := NB184_183.out
        have hnc35 := NB183_184.out
        have hcz36_0 : wc.cell? ⟨gb184, 0, none⟩ = some (.slice none 0 0) := (blk_cell BK184.out 0).trans rfl
        have hcz36_1 : wc.cell? ⟨gb184, 1, none⟩ = some (.slice none 0 0) := (blk_cell BK184.out 1).trans rfl
        have hfz36_0 := blk_frozen BK184.out 0
        have hfz36_1 := blk_frozen BK184.out 1
        go_wp2
        refine bodyPost_ret (results_cell_row rfl _ _ gb184 29 #[.slice none 0 0, .slice none 0 0] (0, 0) _ rfl (by (with_reducible repeat (first | refine blk_drewN ?_ _ | refine blk_drew ?_ | refine blk_alloc ?_ _)); refine blk_put (cs := #[.slice none 0 0, .slice none 0 0]) ?_ 1 _ rfl; (with_reducible repeat (first | refine blk_drewN ?_ _ | refine blk_drew ?_ | refine blk_alloc ?_ _)); refine blk_put (cs := #[.slice none 0 0, .slice none 0 0]) ?_ 0 _ rfl; (with_reducible repeat (first | refine blk_drewN ?_ _ | refine blk_drew ?_ | refine blk_alloc ?_ _)); exact BK184.out) Try.underlying29 rfl (by kernel_rfl)) rfl ?_
        exact ⟨_, _, by first | rfl | (simp [errW_none, errW_some] <;> rfl) | (simp [*, errW_none, errW_some] <;> rfl), by first | exact Kd.R_nil _ _ _ _ _ | exact Kd.N_nil _ _ _ _ _ | exact Kd.V_nil _ _ _ _ _ | exact Kd.Q_nil _ _ _ _ _ | exact Kd.S_nil _ _ _ _ _, by first | exact Kd.S_nil _ _ _ _ _ | exact Kd.N_nil _ _ _ _ _ | exact Kd.V_nil _ _ _ _ _ | exact Kd.Q_nil _ _ _ _ _ | exact Kd.R_nil _ _ _ _ _, by repeat (first | (with_reducible first | exact HB.out | apply below_alloc | apply pw_below_drewN | apply below_drew1 | refine below_set ?_ GE183.out | refine below_set ?_ GE184.out) | exact HB.out)⟩
      · replace c34 := Bool.eq_false_iff.mpr c34
        subst c34
        have H1 : ((spec_l1CopyDisk.f kj3 l0_0 l0_1).bind fun bt187 => ((spec_l1Copy.f l2).bind fun t194 => (if bt187.2.length < 4398046511104 then (some (bt187.1, (bt187.2 ++ [(⟨a1, t194⟩ : S62)]))) else (none)))) = some (r1, r2) := by rw [if_neg (show ¬ (false = true) by decide)] at H; exact H
        clear H
        have H := H1
        clear H1
        replace H := Option.bind_eq_some_iff.mp H
        obtain ⟨⟨t187, t190⟩, A370, H⟩ := H
        replace H : ((spec_l1Copy.f l2).bind fun t194 => (if t190.length < 4398046511104 then (some (t187, (t190 ++ [(⟨a1, t194⟩ : S62)]))) else (none))) = some (r1, r2) := H
        have A37 := Aside0.mk A370
        clear A370
        replace H := Option.bind_eq_some_iff.mp H
        obtain ⟨t194, A380, H⟩ := H
        replace H : (if t190.length < 4398046511104 then (some (t187, (t190 ++ [(⟨a1, t194⟩ : S62)]))) else (none)) = some (r1, r2) := H
        have A38 := Aside0.mk A380
        clear A380
        by_cases c39 : t190.length < 4398046511104
        · rw [if_pos c39] at H
          have LMc39 := Aside0.mk c39
          clear c39
          obtain ⟨y197, hy197⟩ : ∃ y_ : List (S62), y_ = (t190 ++ [(⟨a1, t194⟩ : S62)]) := ⟨_, rfl⟩
          replace H : (some (t187, y197)) = some (r1, r2) := by first | (rw [hy197]; with_reducible exact H) | (have H2_ := (Option.bind_some _ _).symm.trans H; rw [hy197]; with_reducible exact H2_) | (have H2_ := (Option.bind_some _ _).symm.trans H; with_reducible exact H2_) | with_reducible exact H | (rw [hy197]; exact H) | exact H
          have Ny197 := Aside0.mk hy197
          clear hy197
          simp only [Option.some.injEq, Prod.mk.injEq] at H
          obtain ⟨rfl, rfl⟩ := H
          have hnb40 := NB183_184.out
          have hnc40 := NB184_183.out
          have hcz41_0 : wc.cell? ⟨gb183, 0, none⟩ = some (.slice A0_0 l0_0.length c0_0) := (blk_cell BK183.out 0).trans rfl
          have hcz41_1 : wc.cell? ⟨gb183, 1, none⟩ = some (.slice A0_1 l0_1.length c0_1) := (blk_cell BK183.out 1).trans rfl
          have hfz41_0 := blk_frozen BK183.out 0
          have hfz41_1 := blk_frozen BK183.out 1
          try go_wp2_with (first | ((with_reducible refine gate_callee (f := 78) rfl ?_); refine goesL_ (some 34) rfl rfl Try.func78 (by kernel_rfl) rfl #[.agg #[.slice A0_0 l0_0.length c0_0, .slice A0_1 l0_1.length c0_1]] rfl (by (try simp only [List.map_toArray, List.map_cons, List.map_nil]); first | done | rfl | (simp only [List.length_drop, List.length_take]; rfl)) ?_; (with_reducible refine (spec_l1CopyDisk.calls kj3 _ _ l0_0 _ _ l0_1 t187 t190 _ ?side1 ?side2 ?side3 ?side4 A37.out).mono ?_); (case side1 => repeat (first | exact (Kd.C_below HR0_0.out HB.out) | (with_reducible refine Kd.C_alloc ?_ _) | (with_reducible refine Kd.C_drewN ?_ _) | (with_reducible refine Kd.C_drew ?_))); (case side2 => exact HC0_0.out); (case side3 => repeat (first | exact (Kd.C_below HR0_1.out HB.out) | (with_reducible refine Kd.C_alloc ?_ _) | (with_reducible refine Kd.C_drewN ?_ _) | (with_reducible refine Kd.C_drew ?_))); (case side4 => exact HC0_1.out); rintro e w42 ⟨v188, v191, rfl, ho0, ho1, hb⟩; refine ⟨_, rfl, ?_⟩; have n0_ := Aside0.mk (Kd.R_lower ho0 (below_size (by repeat (first | (with_reducible first | exact HB.out | apply below_alloc | apply pw_below_drewN | apply below_drew1 | refine below_set ?_ GE183.out | refine below_set ?_ GE184.out) | exact HB.out)))); have n1_ := Aside0.mk (Kd.S_lower ho1 (below_size (by repeat (first | (with_reducible first | exact HB.out | apply below_alloc | apply pw_below_drewN | apply below_drew1 | refine below_set ?_ GE183.out | refine below_set ?_ GE184.out) | exact HB.out)))); have n2_ := Aside0.mk (blk_below (g := gb183) (o := .cells #[.slice A0_0 l0_0.length c0_0, .slice A0_1 l0_1.length c0_1] 29 (0, 0)) (by (with_reducible repeat (first | refine blk_drewN ?_ _ | refine blk_drew ?_ | refine blk_alloc ?_ _)); exact BK183.out) hb); have n3_ := Aside0.mk (blk_below (g := gb184) (o := .cells #[.slice none 0 0, .slice none 0 0] 29 (0, 0)) (by (with_reducible repeat (first | refine blk_drewN ?_ _ | refine blk_drew ?_ | refine blk_alloc ?_ _)); exact BK184.out) hb); have n4_ := Aside0.mk (below_step (by repeat (first | (with_reducible first | exact HB.out | apply below_alloc | apply pw_below_drewN | apply below_drew1 | refine below_set ?_ GE183.out | refine below_set ?_ GE184.out) | exact HB.out)) hb); clear BK183; clear BK184; clear HB; have HO189 := n0_; have HO192 := n1_; have BK183 := n2_; have BK184 := n3_; have HB := n4_; clear n0_ n1_ n2_ n3_ n4_; (try clear hb); (try clear hb2); (try clear hk); (try clear hi); (try clear ho0); (try clear ho1)) | ((with_reducible refine gate_dst (N := 7) rfl ?_); (try (refine gate_guard (by rfl) ?_; dsimp only)); refine box_event ?hg (N := 7) ?hd (cs := #[.slice none 0 0, .slice none 0 0]) (t := 29) ?hr ?_; (case hd => rfl); (case hg => rfl); (case hr => first | (go_simp; done) | (go_simp; rfl)); intro gb193 hg w43 hbox hb; have n0_ := Aside0.mk (Kd.R_below (by (with_reducible repeat (first | apply Kd.R_alloc | apply Kd.R_drewN | apply Kd.R_drew)); exact HO189.out) hb); have n1_ := Aside0.mk (Kd.S_below (by (with_reducible repeat (first | apply Kd.S_alloc | apply Kd.S_drewN | apply Kd.S_drew)); exact HO192.out) hb); have n2_ := Aside0.mk (blk_below (g := gb183) (o := .cells #[.slice A0_0 l0_0.length c0_0, .slice A0_1 l0_1.length c0_1] 29 (0, 0)) (by (with_reducible repeat (first | refine blk_drewN ?_ _ | refine blk_drew ?_ | refine blk_alloc ?_ _)); exact BK183.out) hb); have n3_ := Aside0.mk (blk_below (g := gb184) (o := .cells #[.slice none 0 0, .slice none 0 0] 29 (0, 0)) (by (with_reducible repeat (first | refine blk_drewN ?_ _ | refine blk_drew ?_ | refine blk_alloc ?_ _)); exact BK184.out) hb); have n4_ := Aside0.mk (below_step (by repeat (first | (with_reducible first | exact HB.out | apply below_alloc | apply pw_below_drewN | apply below_drew1 | refine below_set ?_ GE183.out | refine below_set ?_ GE184.out) | exact HB.out)) hb); have n5_ := Aside0.mk (hbox); have n6_ := Aside0.mk ((by rw [hg]; exact (below_size (by repeat (first | (with_reducible first | exact HB.out | apply below_alloc | apply pw_below_drewN | apply below_drew1 | refine below_set ?_ GE183.out | refine below_set ?_ GE184.out) | exact HB.out))) : w.heap.size ≤ gb193)); have n7_ := Aside0.mk ((by rw [hg]; exact (below_size (by repeat (first | (with_reducible first | exact HB.out | apply below_alloc | apply pw_below_drewN | apply below_drew1 | refine below_set ?_ GE183.out | refine below_set ?_ GE184.out) | exact HB.out))) : w.heap.size ≤ gb193)); have n8_ := Aside0.mk ((by rw [hg]; exact Nat.ne_of_lt (blk_lt (g := gb183) (o := .cells #[.slice A0_0 l0_0.length c0_0, .slice A0_1 l0_1.length c0_1] 29 (0, 0)) (by (with_reducible repeat (first | refine blk_drewN ?_ _ | refine blk_drew ?_ | refine blk_alloc ?_ _)); exact BK183.out)) : gb183 ≠ gb193)); have n9_ := Aside0.mk ((by rw [hg]; exact Nat.ne_of_gt (blk_lt (g := gb183) (o := .cells #[.slice A0_0 l0_0.length c0_0, .slice A0_1 l0_1.length c0_1] 29 (0, 0)) (by (with_reducible repeat (first | refine blk_drewN ?_ _ | refine blk_drew ?_ | refine blk_alloc ?_ _)); exact BK183.out)) : gb193 ≠ gb183)); have n10_ := Aside0.mk ((by rw [hg]; exact Nat.ne_of_lt (blk_lt (g := gb184) (o := .cells #[.slice none 0 0, .slice none 0 0] 29 (0, 0)) (by (with_reducible repeat (first | refine blk_drewN ?_ _ | refine blk_drew ?_ | refine blk_alloc ?_ _)); exact BK184.out)) : gb184 ≠ gb193)); have n11_ := Aside0.mk ((by rw [hg]; exact Nat.ne_of_gt (blk_lt (g := gb184) (o := .cells #[.slice none 0 0, .slice none 0 0] 29 (0, 0)) (by (with_reducible repeat (first | refine blk_drewN ?_ _ | refine blk_drew ?_ | refine blk_alloc ?_ _)); exact BK184.out)) : gb193 ≠ gb184)); clear HO189; clear HO192; clear BK183; clear BK184; clear HB; have HO189 := n0_; have HO192 := n1_; have BK183 := n2_; have BK184 := n3_; have HB := n4_; have BK193 := n5_; have GW193 := n6_; have GE193 := n7_; have NB183_193 := n8_; have NB193_183 := n9_; have NB184_193 := n10_; have NB193_184 := n11_; clear n0_ n1_ n2_ n3_ n4_ n5_ n6_ n7_ n8_ n9_ n10_ n11_; clear hb hbox hg; obtain ⟨Ao44, co44, eo44⟩ := Kd.R_slice HO189.out; subst eo44; have hnb45 := NB193_183.out; have hnc45 := NB183_193.out; have hnb46 := NB193_184.out; have hnc46 := NB184_193.out; have hcz47_0 : w43.cell? ⟨gb193, 0, none⟩ = some (.slice none 0 0) := (blk_cell BK193.out 0).trans rfl; have hcz47_1 : w43.cell? ⟨gb193, 1, none⟩ = some (.slice none 0 0) := (blk_cell BK193.out 1).trans rfl; have hfz47_0 := blk_frozen BK193.out 0; have hfz47_1 := blk_frozen BK193.out 1; obtain ⟨Ao48, co48, eo48⟩ := Kd.S_slice HO192.out; subst eo48))
          have n0_ : Aside0 (Kd.R (Kd.int .u8) 5 ((w43.setCell ⟨gb193, 0, none⟩ (.slice Ao44 t187.length co44)).setCell ⟨gb193, 1, none⟩ (.slice Ao48 t190.length co48)) w.heap.size (fun _ => True) (.slice Ao44 t187.length co44) t187) := ⟨by (with_reducible repeat (first | apply Kd.R_alloc | apply Kd.R_drewN | apply Kd.R_drew)); exact Kd.R_mono (Kd.R_far (p := ⟨gb193, 1, none⟩) (Kd.R_far (p := ⟨gb193, 0, none⟩) (Kd.R_types HO189.out BK193.out (by decide)) (fun _ hk => hk.2) (.slice Ao44 t187.length co44)) (fun _ hk => hk.2) (.slice Ao48 t190.length co48)) (fun _ hk => trivial)⟩
          have n1_ : Aside0 (Kd.S k62 62 ((w43.setCell ⟨gb193, 0, none⟩ (.slice Ao44 t187.length co44)).setCell ⟨gb193, 1, none⟩ (.slice Ao48 t190.length co48)) w.heap.size (fun k_ => some k_ ≠ (.slice Ao44 t187.length co44 : Value).ownBlock) (.slice Ao48 t190.length co48) t190) := ⟨by (with_reducible repeat (first | apply Kd.S_alloc | apply Kd.S_drewN | apply Kd.S_drew)); exact Kd.S_mono (Kd.S_far (p := ⟨gb193, 1, none⟩) (Kd.S_far (p := ⟨gb193, 0, none⟩) (Kd.S_types HO192.out BK193.out (by decide)) (fun _ hk => hk.2) (.slice Ao44 t187.length co44)) (fun _ hk => hk.2) (.slice Ao48 t190.length co48)) (fun _ hk => hk.1)⟩
          have n2_ : Aside0 (((w43.setCell ⟨gb193, 0, none⟩ (.slice Ao44 t187.length co44)).setCell ⟨gb193, 1, none⟩ (.slice Ao48 t190.length co48)).heap[gb183]? = some (.cells #[.slice A0_0 l0_0.length c0_0, .slice A0_1 l0_1.length c0_1] 29 (0, 0))) := ⟨by (with_reducible repeat (first | refine blk_drewN ?_ _ | refine blk_drew ?_ | refine blk_alloc ?_ _)); refine blk_far ?_ NB183_193.out _; (with_reducible repeat (first | refine blk_drewN ?_ _ | refine blk_drew ?_ | refine blk_alloc ?_ _)); refine blk_far ?_ NB183_193.out _; (with_reducible repeat (first | refine blk_drewN ?_ _ | refine blk_drew ?_ | refine blk_alloc ?_ _)); exact BK183.out⟩
          have n3_ : Aside0 (((w43.setCell ⟨gb193, 0, none⟩ (.slice Ao44 t187.length co44)).setCell ⟨gb193, 1, none⟩ (.slice Ao48 t190.length co48)).heap[gb184]? = some (.cells #[.slice none 0 0, .slice none 0 0] 29 (0, 0))) := ⟨by (with_reducible repeat (first | refine blk_drewN ?_ _ | refine blk_drew ?_ | refine blk_alloc ?_ _)); refine blk_far ?_ NB184_193.out _; (with_reducible repeat (first | refine blk_drewN ?_ _ | refine blk_drew ?_ | refine blk_alloc ?_ _)); refine blk_far ?_ NB184_193.out _; (with_reducible repeat (first | refine blk_drewN ?_ _ | refine blk_drew ?_ | refine blk_alloc ?_ _)); exact BK184.out⟩
          have n4_ : Aside0 (((w43.setCell ⟨gb193, 0, none⟩ (.slice Ao44 t187.length co44)).setCell ⟨gb193, 1, none⟩ (.slice Ao48 t190.length co48)).heap[gb193]? = some (.cells #[.slice Ao44 t187.length co44, .slice Ao48 t190.length co48] 29 (0, 0))) := ⟨by (with_reducible repeat (first | refine blk_drewN ?_ _ | refine blk_drew ?_ | refine blk_alloc ?_ _)); refine blk_put (cs := #[.slice Ao44 t187.length co44, .slice none 0 0]) ?_ 1 _ rfl; (with_reducible repeat (first | refine blk_drewN ?_ _ | refine blk_drew ?_ | refine blk_alloc ?_ _)); refine blk_put (cs := #[.slice none 0 0, .slice none 0 0]) ?_ 0 _ rfl; (with_reducible repeat (first | refine blk_drewN ?_ _ | refine blk_drew ?_ | refine blk_alloc ?_ _)); exact BK193.out⟩
          have n5_ : Aside0 (Below w.heap.size w ((w43.setCell ⟨gb193, 0, none⟩ (.slice Ao44 t187.length co44)).setCell ⟨gb193, 1, none⟩ (.slice Ao48 t190.length co48))) := ⟨by repeat (first | (with_reducible first | exact HB.out | apply below_alloc | apply pw_below_drewN | apply below_drew1 | refine below_set ?_ GE183.out | refine below_set ?_ GE184.out | refine below_set ?_ GE193.out) | exact HB.out)⟩
          (try clear HO189)
          (try clear HO192)
          (try clear BK183)
          (try clear BK184)
          (try clear BK193)
          (try clear HB)
          generalize ((w43.setCell ⟨gb193, 0, none⟩ (.slice Ao44 t187.length co44)).setCell ⟨gb193, 1, none⟩ (.slice Ao48 t190.length co48)) = w49 at n0_ n1_ n2_ n3_ n4_ n5_ ⊢
          have HO189 := n0_
          have HO192 := n1_
          have BK183 := n2_
          have BK184 := n3_
          have BK193 := n4_
          have HB := n5_
          clear n0_ n1_ n2_ n3_ n4_ n5_
          have n0_ := Aside0.mk (Kd.R_drew HO189.out)
          have n1_ := Aside0.mk (Kd.S_drew HO192.out)
          have n2_ := Aside0.mk (blk_drew BK183.out)
          have n3_ := Aside0.mk (blk_drew BK184.out)
          have n4_ := Aside0.mk (blk_drew BK193.out)
          have n5_ := Aside0.mk (below_drew1 HB.out)
          clear HO189
          clear HO192
          clear BK183
          clear BK184
          clear BK193
          clear HB
          have HO189 := n0_
          have HO192 := n1_
          have BK183 := n2_
          have BK184 := n3_
          have BK193 := n4_
          have HB := n5_
          clear n0_ n1_ n2_ n3_ n4_ n5_
          refine start_ (n := 10) (S := fun w' => w'.cell? ⟨gb193, 0, none⟩ = some (.slice Ao44 t187.length co44) ∧ w'.cell? ⟨gb193, 1, none⟩ = some (.slice Ao48 t190.length co48)) (ds := [9]) #[false, false, false, false, false, false, false, false, false, false] (by kernel_rfl) rfl rfl ⟨(blk_cell BK193.out 0).trans rfl, (blk_cell BK193.out 1).trans rfl⟩ (fun hHeld => ?_); refine with_tabW spec_DiskWrite.tab4 spec_DiskWrite.bits4 (fun HT_ HW_ => ?_)
          generalize w49.drew = w50 at HO189 HO192 BK183 BK184 BK193 HB hHeld ⊢
          refine pure_ (i := 0) (N := some 35) (v := ?_) (a' := ?_) #[true, false, false, false, false, false, false, false, false, false] rfl rfl (any_of HT_.out (by kernel_rfl)) (fun _ _ _ h => h) (Or.inl ⟨by rfl, ?_⟩) ?_ ?_
          rotate_left
          · intro w'
            go_simp
            with_reducible rfl
          rotate_left
          · simp only [Act.put, List.setIfInBounds_toArray, List.set_cons_zero, List.set_cons_succ, i64_w, i32_w]
            rfl
          refine pure_ (i := 2) (N := some 37) (v := ?_) (a' := ?_) #[true, false, true, false, false, false, false, false, false, false] rfl rfl (any_of HT_.out (by kernel_rfl)) (fun _ _ _ h => h) (Or.inl ⟨by rfl, ?_⟩) ?_ ?_
          rotate_left
          · intro w'
            go_simp
            with_reducible rfl
          rotate_left
          · simp only [Act.put, List.setIfInBounds_toArray, List.set_cons_zero, List.set_cons_succ, i64_w, i32_w]
            rfl
          refine pure_ (i := 3) (N := some 38) (v := ?_) (a' := ?_) #[true, false, true, true, false, false, false, false, false, false] rfl rfl (any_of HT_.out (by kernel_rfl)) (fun _ _ _ h => h) (Or.inl ⟨by rfl, ?_⟩) ?_ ?_
          rotate_left
          · intro w'
            go_simp
            with_reducible rfl
          rotate_left
          · simp only [Act.put, List.setIfInBounds_toArray, List.set_cons_zero, List.set_cons_succ, i64_w, i32_w]
            rfl
          refine take_ (i := 1) (N := some 36) (v := ?_) (a' := ?_) #[true, true, true, true, false, false, false, false, false, false] rfl rfl (take_ofW HT_.out HW_.out (by kernel_rfl)) (fun _ _ _ h => h) (Or.inl ⟨by rfl, ?_⟩) hHeld ?_ ?_
          rotate_left
          · rintro w' ⟨s0, s1⟩
            go_simp
            with_reducible rfl
          rotate_left
          · simp only [Act.put, List.setIfInBounds_toArray, List.set_cons_zero, List.set_cons_succ, i64_w, i32_w]
            rfl
          refine one_ (i := 4) (N := some 39) #[true, true, true, true, true, false, false, false, false, false] rfl rfl (one_of HT_.out (by kernel_rfl)) (by decide) (fun K hK => ?_)
          refine goes_ Try.func75 (by kernel_rfl) rfl #[.slice A2 l2.length c2] (by rfl) rfl rfl (by (try simp only [List.map_toArray, List.map_cons, List.map_nil]); first | done | rfl | (simp only [List.length_drop, List.length_take]; rfl)) ?_
          with_reducible refine (spec_l1Copy.calls _ _ l2 t194 _ ?side1 ?side2 A38.out).mono ?_
          (case side1 => repeat (first | exact (Kd.C_below HR2.out HB.out) | (with_reducible refine Kd.C_alloc ?_ _) | (with_reducible refine Kd.C_drewN ?_ _) | (with_reducible refine Kd.C_drew ?_)))
          (case side2 => exact HC2.out)
          rintro e w51 ⟨v195, rfl, ho0, hb⟩
          refine ⟨_, rfl, ?_⟩
          have n0_ := Aside0.mk (Kd.R_elder' (by (with_reducible repeat (first | apply Kd.R_alloc | apply Kd.R_drewN | apply Kd.R_drew)); exact HO189.out) (Kd.R_base ho0) hb)
          have n1_ := Aside0.mk (Kd.S_elder' (by (with_reducible repeat (first | apply Kd.S_alloc | apply Kd.S_drewN | apply Kd.S_drew)); exact HO192.out) (Kd.R_base ho0) hb)
          have n2_ := Aside0.mk (Kd.R_lower (Kd.R_new' ho0 (Kd.R_lt (by (with_reducible repeat (first | apply Kd.R_alloc | apply Kd.R_drewN | apply Kd.R_drew)); exact HO189.out))) (below_size (by repeat (first | (with_reducible first | exact HB.out | apply below_alloc | apply pw_below_drewN | apply below_drew1 | refine below_set ?_ GE183.out | refine below_set ?_ GE184.out | refine below_set ?_ GE193.out) | exact HB.out))))
          have n3_ := Aside0.mk (blk_below (g := gb183) (o := .cells #[.slice A0_0 l0_0.length c0_0, .slice A0_1 l0_1.length c0_1] 29 (0, 0)) (by (with_reducible repeat (first | refine blk_drewN ?_ _ | refine blk_drew ?_ | refine blk_alloc ?_ _)); exact BK183.out) hb)
          have n4_ := Aside0.mk (blk_below (g := gb184) (o := .cells #[.slice none 0 0, .slice none 0 0] 29 (0, 0)) (by (with_reducible repeat (first | refine blk_drewN ?_ _ | refine blk_drew ?_ | refine blk_alloc ?_ _)); exact BK184.out) hb)
          have n5_ := Aside0.mk (blk_below (g := gb193) (o := .cells #[.slice Ao44 t187.length co44, .slice Ao48 t190.length co48] 29 (0, 0)) (by (with_reducible repeat (first | refine blk_drewN ?_ _ | refine blk_drew ?_ | refine blk_alloc ?_ _)); exact BK193.out) hb)
          have n6_ := Aside0.mk (below_step (by repeat (first | (with_reducible first | exact HB.out | apply below_alloc | apply pw_below_drewN | apply below_drew1 | refine below_set ?_ GE183.out | refine below_set ?_ GE184.out | refine below_set ?_ GE193.out) | exact HB.out)) hb)
          clear HO189
          clear HO192
          clear BK183
          clear BK184
          clear BK193
          clear HB
          have HO189 := n0_
          have HO192 := n1_
          have HO196 := n2_
          have BK183 := n3_
          have BK184 := n4_
          have BK193 := n5_
          have HB := n6_
          clear n0_ n1_ n2_ n3_ n4_ n5_ n6_
          (try clear hb)
          (try clear hb2)
          (try clear hk)
          (try clear hi)
          (try clear ho0)
          obtain ⟨Ao52, co52, eo52⟩ := Kd.R_slice HO196.out
          (first | subst eo52 | (injection eo52 with f1_ f2_ f3_; have f4_ := f1_.symm; have f5_ := f3_.symm; clear f1_ f2_ f3_; subst f4_; subst f5_))
          refine hK.out _ _ ⟨(blk_cell BK193.out 0).trans rfl, (blk_cell BK193.out 1).trans rfl⟩ (fun hHeld => ?_)
          clear hK K
          refine norm_ (a' := ?_) ?_ ?_
          rotate_left
          · show Act.put _ (some 39) _ = _
            simp only [Act.put, List.setIfInBounds_toArray, List.set_cons_zero, List.set_cons_succ, i64_w, i32_w]
            rfl
          refine pure_ (i := 5) (N := some 40) (v := ?_) (a' := ?_) #[true, true, true, true, true, true, false, false, false, false] rfl rfl (any_of HT_.out (by kernel_rfl)) (fun _ _ _ h => h) (Or.inl ⟨by rfl, ?_⟩) ?_ ?_
          rotate_left
          · intro w'
            go_simp
            with_reducible rfl
          rotate_left
          · simp only [Act.put, List.setIfInBounds_toArray, List.set_cons_zero, List.set_cons_succ, i64_w, i32_w]
            rfl
          refine one_ (i := 6) (N := some 41) #[true, true, true, true, true, true, true, false, false, false] rfl rfl (one_of HT_.out (by kernel_rfl)) (by decide) (fun K hK => ?_)
          refine value_ (w1 := ?_) (v := ?_) (by rfl) rfl ?_ ?_
          rotate_left 2
          · go_simp
            constructor
            · rfl
            · rfl
          refine hK.out _ _ ⟨(blk_cell (blk_alloc BK193.out _) 0).trans rfl, (blk_cell (blk_alloc BK193.out _) 1).trans rfl⟩ (fun hHeld => ?_)
          clear hK K
          refine norm_ (a' := ?_) ?_ ?_
          rotate_left
          · show Act.put _ (some 41) _ = _
            simp only [Act.put, List.setIfInBounds_toArray, List.set_cons_zero, List.set_cons_succ, i64_w, i32_w]
            rfl
          refine one_ (i := 7) (N := some 42) #[true, true, true, true, true, true, true, true, false, false] rfl rfl (one_of HT_.out (by kernel_rfl)) (by decide) (fun K hK => ?_)
          refine Kd.S_append_step k62 (w0 := w) w.heap.size (by rfl) (.tmp 36) (.tmp 41) 27 62 (.agg #[(.int .i64 0), (.slice none 0 0)]) 32 rfl Try.underlying27 info62 rfl (by decide) (by omega) (.slice Ao48 t190.length co48) t190 (⟨a1, t194⟩ : S62) [.int .i64 a1, .slice Ao52 t194.length co52] (fun k_ => some k_ ≠ (.slice Ao44 t187.length co44 : Value).ownBlock) (fun k_ => some k_ = (.slice Ao52 t194.length co52 : Value).ownBlock) rfl rfl ?aP (fun k_ hk_ => ((Kd.R_mono (ok' := fun k_ => ((fun k_ => some k_ ≠ (.slice Ao44 t187.length co44 : Value).ownBlock)) k_ ∧ some k_ ≠ (.slice Ao48 t190.length co48 : Value).ownBlock) (Kd.R_apart' (HO196.out) (Kd.S_typed HO192.out) (by decide)) (fun k_ hk => ⟨hk.1.2, hk.2⟩))).1 k_ hk_.symm) ?aF ?aO ?aB ?aS ?aL ?_
          (case aP => exact k62_mkM _ _ _ (⟨a1, t194⟩ : S62) (Kd.R_mono (Kd.R_tight rfl (Kd.R_mono (ok' := fun k_ => ((fun k_ => some k_ ≠ (.slice Ao44 t187.length co44 : Value).ownBlock)) k_ ∧ some k_ ≠ (.slice Ao48 t190.length co48 : Value).ownBlock) (Kd.R_apart' (HO196.out) (Kd.S_typed HO192.out) (by decide)) (fun k_ hk => ⟨hk.1.2, hk.2⟩))) (fun _ h_ => h_)))
          (case aB => exact (by repeat (first | (with_reducible first | exact HB.out | apply below_alloc | apply pw_below_drewN | apply below_drew1 | refine below_set ?_ GE183.out | refine below_set ?_ GE184.out | refine below_set ?_ GE193.out) | exact HB.out)))
          (case aF => exact (fun k_ hk => Kd.fresh' (Kd.R_lt (by (with_reducible repeat (first | apply Kd.R_alloc | apply Kd.R_drewN | apply Kd.R_drew)); exact HO189.out)) k_ hk))
          (case aO => exact (by (with_reducible repeat (first | apply Kd.S_alloc | apply Kd.S_drewN | apply Kd.S_drew)); exact Kd.S_mono HO192.out (fun k_ hk => ⟨hk.1, fun e_ => hk.2 e_⟩)))
          (case aS => exact (below_size (by repeat (first | (with_reducible first | exact HB.out | apply below_alloc | apply pw_below_drewN | apply below_drew1 | refine below_set ?_ GE183.out | refine below_set ?_ GE184.out | refine below_set ?_ GE193.out) | exact HB.out))))
          (case aL => have := LMc39.out; omega)
          intro v198 w53 ho hb hg hat
          rw [← Ny197.out] at ho
          have n0_ := Aside0.mk (blk_grown (g := gb183) (o := .cells #[.slice A0_0 l0_0.length c0_0, .slice A0_1 l0_1.length c0_1] 29 (0, 0)) (by (with_reducible repeat (first | refine blk_drewN ?_ _ | refine blk_drew ?_ | refine blk_alloc ?_ _)); exact BK183.out) hg (Kd.S_ne HO192.out BK183.out (by decide)))
          have n1_ := Aside0.mk (blk_grown (g := gb184) (o := .cells #[.slice none 0 0, .slice none 0 0] 29 (0, 0)) (by (with_reducible repeat (first | refine blk_drewN ?_ _ | refine blk_drew ?_ | refine blk_alloc ?_ _)); exact BK184.out) hg (Kd.S_ne HO192.out BK184.out (by decide)))
          have n2_ := Aside0.mk (Kd.R_over' (by (with_reducible repeat (first | apply Kd.R_alloc | apply Kd.R_drewN | apply Kd.R_drew)); exact HO189.out) (Kd.S_typed (by (with_reducible repeat (first | apply Kd.S_alloc | apply Kd.S_drewN | apply Kd.S_drew)); exact HO192.out)) (by decide) hg)
          have n3_ := Aside0.mk (blk_grown (g := gb193) (o := .cells #[.slice Ao44 t187.length co44, .slice Ao48 t190.length co48] 29 (0, 0)) (by (with_reducible repeat (first | refine blk_drewN ?_ _ | refine blk_drew ?_ | refine blk_alloc ?_ _)); exact BK193.out) hg (Kd.S_ne HO192.out BK193.out (by decide)))
          have n4_ := Aside0.mk (hb)
          have n5_ := Aside0.mk (ho)
          clear BK183
          clear BK184
          clear HO189
          clear BK193
          clear HB
          clear HO192
          clear HO196
          have BK183 := n0_
          have BK184 := n1_
          have HO189 := n2_
          have BK193 := n3_
          have HB := n4_
          have HO199 := n5_
          clear n0_ n1_ n2_ n3_ n4_ n5_
          clear ho hb hg hat
          obtain ⟨Ao54, co54, eo54⟩ := Kd.S_slice HO199.out
          (first | subst eo54 | (injection eo54 with f1_ f2_ f3_; have f4_ := f1_.symm; have f5_ := f3_.symm; clear f1_ f2_ f3_; subst f4_; subst f5_))
          refine hK.out _ _ ⟨(blk_cell BK193.out 0).trans rfl, (blk_cell BK193.out 1).trans rfl⟩ (fun hHeld => ?_)
          clear hK K
          refine norm_ (a' := ?_) ?_ ?_
          rotate_left
          · show Act.put _ (some 42) _ = _
            simp only [Act.put, List.setIfInBounds_toArray, List.set_cons_zero, List.set_cons_succ, i64_w, i32_w]
            rfl
          refine pure_ (i := 8) (N := some 43) (v := ?_) (a' := ?_) #[true, true, true, true, true, true, true, true, true, false] rfl rfl (any_of HT_.out (by kernel_rfl)) (fun _ _ _ h => h) (Or.inl ⟨by rfl, ?_⟩) ?_ ?_
          rotate_left
          · intro w'
            go_simp
            with_reducible rfl
          rotate_left
          · simp only [Act.put, List.setIfInBounds_toArray, List.set_cons_zero, List.set_cons_succ, i64_w, i32_w]
            rfl
          refine last_ (i := 9) (N := none) #[true, true, true, true, true, true, true, true, true, true] rfl rfl (one_of HT_.out (by kernel_rfl)) (by decide) (fun K hK => ?_)
          have hs55 : w53.cell? ⟨gb193, 1, none⟩ = some (.slice Ao48 t190.length co48) := (blk_cell BK193.out 1).trans rfl
          have hfs55 := blk_frozen BK193.out 1
          have hns55_0 := NB183_193.out
          have hns55_1 := NB184_193.out
          have hms55_0 := NB193_183.out
          have hms55_1 := NB193_184.out
          refine skip_ (w1 := ?_) (by rfl) rfl ?_ ?_
          rotate_left
          · go_simp
            rfl
          refine hK.out _ _ ?_
          clear hK K
          refine done_ (done_of HT_.out (by kernel_rfl)) ?_
          have hcz56_0 : w53.cell? ⟨gb193, 0, none⟩ = some (.slice Ao44 t187.length co44) := (blk_cell BK193.out 0).trans rfl
          have hcz56_1 : w53.cell? ⟨gb193, 1, none⟩ = some (.slice Ao48 t190.length co48) := (blk_cell BK193.out 1).trans rfl
          have hfz56_0 := blk_frozen BK193.out 0
          have hfz56_1 := blk_frozen BK193.out 1
          have hcz57_0 : w53.cell? ⟨gb184, 0, none⟩ = some (.slice none 0 0) := (blk_cell BK184.out 0).trans rfl
          have hcz57_1 : w53.cell? ⟨gb184, 1, none⟩ = some (.slice none 0 0) := (blk_cell BK184.out 1).trans rfl
          have hfz57_0 := blk_frozen BK184.out 0
          have hfz57_1 := blk_frozen BK184.out 1
          try go_wp2
          refine bodyPost_ret (results_cell_row rfl _ _ gb184 29 #[.slice Ao44 t187.length co44, .slice Ao54 y197.length co54] (0, 0) _ rfl (by (with_reducible repeat (first | refine blk_drewN ?_ _ | refine blk_drew ?_ | refine blk_alloc ?_ _)); refine blk_put (cs := #[.slice Ao44 t187.length co44, .slice none 0 0]) ?_ 1 _ rfl; (with_reducible repeat (first | refine blk_drewN ?_ _ | refine blk_drew ?_ | refine blk_alloc ?_ _)); refine blk_put (cs := #[.slice none 0 0, .slice none 0 0]) ?_ 0 _ rfl; (with_reducible repeat (first | refine blk_drewN ?_ _ | refine blk_drew ?_ | refine blk_alloc ?_ _)); refine blk_far ?_ NB184_193.out _; (with_reducible repeat (first | refine blk_drewN ?_ _ | refine blk_drew ?_ | refine blk_alloc ?_ _)); exact BK184.out) Try.underlying29 rfl (by kernel_rfl)) rfl ?_
          exact ⟨_, _, by first | rfl | (simp [errW_none, errW_some] <;> rfl) | (simp [*, errW_none, errW_some] <;> rfl), by (with_reducible repeat (first | apply Kd.R_alloc | apply Kd.R_drewN | apply Kd.R_drew)); exact Kd.R_mono (Kd.R_far (p := ⟨gb184, 1, none⟩) (Kd.R_far (p := ⟨gb184, 0, none⟩) (Kd.R_far (p := ⟨gb193, 1, none⟩) (Kd.R_types (Kd.R_types HO189.out BK193.out (by decide)) BK184.out (by decide)) (fun _ hk => hk.1.2) (.slice Ao54 y197.length co54)) (fun _ hk => hk.2) (.slice Ao44 t187.length co44)) (fun _ hk => hk.2) (.slice Ao54 y197.length co54)) (fun _ hk => trivial), by (with_reducible repeat (first | apply Kd.S_alloc | apply Kd.S_drewN | apply Kd.S_drew)); exact Kd.S_mono (Kd.S_far (p := ⟨gb184, 1, none⟩) (Kd.S_far (p := ⟨gb184, 0, none⟩) (Kd.S_far (p := ⟨gb193, 1, none⟩) (Kd.S_types (Kd.S_types HO199.out BK193.out (by decide)) BK184.out (by decide)) (fun _ hk => hk.1.2) (.slice Ao54 y197.length co54)) (fun _ hk => hk.2) (.slice Ao44 t187.length co44)) (fun _ hk => hk.2) (.slice Ao54 y197.length co54)) (fun _ hk => hk.1.1), by repeat (first | (with_reducible first | exact HB.out | apply below_alloc | apply pw_below_drewN | apply below_drew1 | refine below_set ?_ GE183.out | refine below_set ?_ GE184.out | refine below_set ?_ GE193.out) | exact HB.out)⟩
        · rw [if_neg c39] at H
          exact absurd H (by simp)

/-! ### impl_ValidDisk: function 28 -/
mutual
def impl_ValidDisk.j0 : Nat → Int → Bool → List Int → List (S62) → Option (Bool)
  | 0, _, _, _, _ => none
  | k + 1, x3, x25, x201000, x201001 => if x25 = true then (some false) else (impl_ValidDisk.l0 k x3 x201001 (x201001.length : Int) 0)
def impl_ValidDisk.l0 : Nat → Int → List (S62) → Int → Int → Option (Bool)
  | 0, _, _, _, _ => none
  | k + 1, x3, x27, x28, x29 => if x29 < x28 then (if 0 ≤ x29 then (if x29 < (x27.length : Int) then (if ((rd_T62 x27 x29).f0) < 0 then (some false) else (if ((rd_T62 x27 x29).f0) ≥ (wrap64 (Int.tdiv x3 64)) then (some false) else (if (((rd_T62 x27 x29).f1).length : Int) = 64 then (impl_ValidDisk.l0 k x3 x27 x28 (wrap64 (x29 + 1))) else (some false)))) else (none)) else (none)) else (some true)
end
def impl_ValidDisk.f (k : Nat) (l0_0 : List Int) (l0_1 : List (S62)) : Option (Bool) := if ((l0_0.length : Int) % 64) = 0 then (if (l0_0.length : Int) = 0 then (impl_ValidDisk.j0 k (l0_0.length : Int) true l0_0 l0_1) else (if (l0_0.length : Int) > 131072 then (impl_ValidDisk.j0 k (l0_0.length : Int) true l0_0 l0_1) else (impl_ValidDisk.j0 k (l0_0.length : Int) (decide ((l0_1.length : Int) > 600)) l0_0 l0_1))) else (impl_ValidDisk.j0 k (l0_0.length : Int) true l0_0 l0_1)
theorem impl_ValidDisk.mono_l : ∀ k, (∀ y0 y1 y2 y3, LeO (impl_ValidDisk.j0 k y0 y1 y2 y3) (impl_ValidDisk.j0 (k + 1) y0 y1 y2 y3)) ∧ (∀ y0 y1 y2 y3, LeO (impl_ValidDisk.l0 k y0 y1 y2 y3) (impl_ValidDisk.l0 (k + 1) y0 y1 y2 y3))
  | 0 => ⟨fun _ _ _ _ r h => by simp [impl_ValidDisk.j0] at h, fun _ _ _ _ r h => by simp [impl_ValidDisk.l0] at h⟩
  | k + 1 => by
    obtain ⟨ih0, ih1⟩ := impl_ValidDisk.mono_l k
    refine ⟨?_, ?_⟩
    · intro y0 y1 y2 y3
      unfold impl_ValidDisk.j0
      repeat' first
      | (with_reducible exact ih0 _ _ _ _)
      | (with_reducible exact ih1 _ _ _ _)
      | (with_reducible exact LeO.refl _)
      | (with_reducible exact LeO.none _)
      | (with_reducible refine LeO.ite ?_ ?_)
      | (with_reducible refine LeO.bind ?_ (fun _ => ?_))
      | exact ih0 _ _ _ _
      | exact ih1 _ _ _ _
      | exact LeO.none _
      | refine LeO.ite ?_ ?_
      | refine LeO.bind ?_ (fun _ => ?_)
    · intro y0 y1 y2 y3
      unfold impl_ValidDisk.l0
      repeat' first
      | (with_reducible exact ih0 _ _ _ _)
      | (with_reducible exact ih1 _ _ _ _)
      | (with_reducible exact LeO.refl _)
      | (with_reducible exact LeO.none _)
      | (with_reducible refine LeO.ite ?_ ?_)
      | (with_reducible refine LeO.bind ?_ (fun _ => ?_))
      | exact ih0 _ _ _ _
      | exact ih1 _ _ _ _
      | exact LeO.none _
      | refine LeO.ite ?_ ?_
      | refine LeO.bind ?_ (fun _ => ?_)
theorem impl_ValidDisk.mono : ∀ a0 a1 k, LeO (impl_ValidDisk.f k a0 a1) (impl_ValidDisk.f (k + 1) a0 a1) := by
  intro a0 a1 k
  obtain ⟨ih0, ih1⟩ := impl_ValidDisk.mono_l k
  unfold impl_ValidDisk.f
  repeat' first
      | (with_reducible exact ih0 _ _ _ _)
      | (with_reducible exact ih1 _ _ _ _)
      | (with_reducible exact LeO.refl _)
      | (with_reducible exact LeO.none _)
      | (with_reducible refine LeO.ite ?_ ?_)
      | (with_reducible refine LeO.bind ?_ (fun _ => ?_))
      | exact ih0 _ _ _ _
      | exact ih1 _ _ _ _
      | exact LeO.none _
      | refine LeO.ite ?_ ?_
      | refine LeO.bind ?_ (fun _ => ?_)
set_option maxHeartbeats 8000000 in
set_option maxRecDepth 100000 in
theorem impl_ValidDisk.calls (k : Nat) (A0_0 : Option Addr) (c0_0 : Nat) (l0_0 : List Int) (A0_1 : Option Addr) (c0_1 : Nat) (l0_1 : List (S62)) (r : Bool) (w : World) (hr0_0 : Kd.C (Kd.int .u8) w A0_0 l0_0.length l0_0) (hc0_0 : l0_0.length ≤ c0_0) (hr0_1 : Kd.C k62 w A0_1 l0_1.length l0_1) (hc0_1 : l0_1.length ≤ c0_1) (h : impl_ValidDisk.f k l0_0 l0_1 = some r) :
    Calls Try.prog 28 #[.agg #[.slice A0_0 l0_0.length c0_0, .slice A0_1 l0_1.length c0_1]] w fun e w' => e = .returned (.bool r) ∧ Below w.heap.size w w' := by
  have hu29 := Try.underlying29
  have hu62 := Try.underlying62
  have HR0_0 := Aside0.mk hr0_0
  have HC0_0 := Aside0.mk hc0_0
  clear hr0_0 hc0_0
  have HR0_1 := Aside0.mk hr0_1
  have HC0_1 := Aside0.mk hc0_1
  clear hr0_1 hc0_1
  have HB := Aside0.mk (Below.refl w.heap.size w)
  have H : (if ((l0_0.length : Int) % 64) = 0 then (if (l0_0.length : Int) = 0 then (impl_ValidDisk.j0 k (l0_0.length : Int) true l0_0 l0_1) else (if (l0_0.length : Int) > 131072 then (impl_ValidDisk.j0 k (l0_0.length : Int) true l0_0 l0_1) else (impl_ValidDisk.j0 k (l0_0.length : Int) (decide ((l0_1.length : Int) > 600)) l0_0 l0_1))) else (impl_ValidDisk.j0 k (l0_0.length : Int) true l0_0 l0_1)) = some r := h
  clear h
  have HC2 := Aside0.mk H
  clear H
  go_enter Try.func28, Try.ntmps28
  go_upto_region 2 with (first | ((with_reducible refine gate_dst (N := 1) rfl ?_); (try (refine gate_guard (by rfl) ?_; dsimp only)); refine box_event ?hg (N := 1) ?hd (cs := #[.slice A0_0 l0_0.length c0_0, .slice A0_1 l0_1.length c0_1]) (t := 29) ?hr ?_; (case hd => rfl); (case hg => rfl); (case hr => first | (go_simp; done) | (go_simp; rfl)); intro gb200 hg w3 hbox hb; have n0_ := Aside0.mk (below_step (by repeat (first | (with_reducible first | exact HB.out | apply below_alloc | apply pw_below_drewN | apply below_drew1) | exact HB.out)) hb); have n1_ := Aside0.mk (hbox); have n2_ := Aside0.mk ((by rw [hg]; exact (below_size (by repeat (first | (with_reducible first | exact HB.out | apply below_alloc | apply pw_below_drewN | apply below_drew1) | exact HB.out))) : w.heap.size ≤ gb200)); have n3_ := Aside0.mk ((by rw [hg]; exact (below_size (by repeat (first | (with_reducible first | exact HB.out | apply below_alloc | apply pw_below_drewN | apply below_drew1) | exact HB.out))) : w.heap.size ≤ gb200)); clear HB; have HB := n0_; have BK200 := n1_; have GW200 := n2_; have GE200 := n3_; clear n0_ n1_ n2_ n3_; clear hb hbox hg; have hcz4_0 : w3.cell? ⟨gb200, 0, none⟩ = some (.slice A0_0 l0_0.length c0_0) := (blk_cell BK200.out 0).trans rfl; have hcz4_1 : w3.cell? ⟨gb200, 1, none⟩ = some (.slice A0_1 l0_1.length c0_1) := (blk_cell BK200.out 1).trans rfl; have hfz4_0 := blk_frozen BK200.out 0; have hfz4_1 := blk_frozen BK200.out 1))
  (try simp only [Act.put, List.setIfInBounds_toArray, List.set_cons_zero, List.set_cons_succ])
  go_cut [25] (fun v25 wc => ∃ (kq : Nat) (x25_1 : Bool), v25 = .bool x25_1 ∧ Aside0 (impl_ValidDisk.j0 kq (l0_0.length : Int) x25_1 l0_0 l0_1 = some r) ∧ Aside0 (kq ≤ k) ∧ Aside0 (wc.heap[gb200]? = some (.cells #[(.slice A0_0 l0_0.length c0_0), (.slice A0_1 l0_1.length c0_1)] 29 (0, 0))) ∧ Aside0 (Below w.heap.size w wc))
  case first =>
    have H := HC2.out
    clear HC2
    by_cases c5 : ((l0_0.length : Int) % 64) = 0
    · rw [if_pos c5] at H
      have c5b0 : (((l0_0.length : Int) % 64) == 0) = true := beq_iff_eq.mpr c5
      have c5b1 : (((l0_0.length : Int) % 64) != 0) = false := bne_eq_false_iff_eq.mpr c5
      clear c5
      (first | rw [c5b0] | (simp only [i64_w, i32_w]; rw [c5b0]) | skip)
      by_cases c6 : (l0_0.length : Int) = 0
      · rw [if_pos c6] at H
        have c6b0 : ((l0_0.length : Int) == 0) = true := beq_iff_eq.mpr c6
        have c6b1 : ((l0_0.length : Int) != 0) = false := bne_eq_false_iff_eq.mpr c6
        clear c6
        have H' := Aside0.mk H
        clear H
        go_wp2
        go_meet
        case rel => exact ⟨_, (true), (by first | rfl | (simp; done) | (simp [*]; done)), H', ⟨by first | omega | exact Nat.le_refl _⟩, ⟨by (with_reducible repeat (first | refine blk_drewN ?_ _ | refine blk_drew ?_ | refine blk_alloc ?_ _)); exact BK200.out⟩, ⟨by repeat (first | (with_reducible first | exact HB.out | apply below_alloc | apply pw_below_drewN | apply below_drew1 | refine below_set ?_ GE200.out) | exact HB.out)⟩⟩
      · rw [if_neg c6] at H
        have c6b0 : ((l0_0.length : Int) == 0) = false := beq_eq_false_iff_ne.mpr c6
        have c6b1 : ((l0_0.length : Int) != 0) = true := bne_iff_ne.mpr c6
        have c6b2 : ¬ (l0_0 = []) := fun h_ => c6 (by rw [h_]; rfl)
        by_cases c7 : (l0_0.length : Int) > 131072
        · rw [if_pos c7] at H
          have c7b0 : decide (131072 < (l0_0.length : Int)) = true := decide_eq_true c7
          have c7b1 : decide (131072 < l0_0.length) = true := decide_eq_true (by omega)
          clear c7
          have H' := Aside0.mk H
          clear H
          go_wp2
          go_meet
          case rel => exact ⟨_, (true), (by first | rfl | (simp; done) | (simp [*]; done)), H', ⟨by first | omega | exact Nat.le_refl _⟩, ⟨by (with_reducible repeat (first | refine blk_drewN ?_ _ | refine blk_drew ?_ | refine blk_alloc ?_ _)); exact BK200.out⟩, ⟨by repeat (first | (with_reducible first | exact HB.out | apply below_alloc | apply pw_below_drewN | apply below_drew1 | refine below_set ?_ GE200.out) | exact HB.out)⟩⟩
        · rw [if_neg c7] at H
          have c7b0 : decide (131072 < (l0_0.length : Int)) = false := decide_eq_false c7
          have c7b1 : decide (131072 < l0_0.length) = false := decide_eq_false (by omega)
          clear c7
          have H' := Aside0.mk H
          clear H
          have hcz8_0 : w3.cell? ⟨gb200, 0, none⟩ = some (.slice A0_0 l0_0.length c0_0) := (blk_cell BK200.out 0).trans rfl
          have hcz8_1 : w3.cell? ⟨gb200, 1, none⟩ = some (.slice A0_1 l0_1.length c0_1) := (blk_cell BK200.out 1).trans rfl
          have hfz8_0 := blk_frozen BK200.out 0
          have hfz8_1 := blk_frozen BK200.out 1
          go_wp2
          go_meet
          case rel => exact ⟨_, (decide ((l0_1.length : Int) > 600)), (by first | rfl | (simp; done) | (simp [*]; done)), H', ⟨by first | omega | exact Nat.le_refl _⟩, ⟨by (with_reducible repeat (first | refine blk_drewN ?_ _ | refine blk_drew ?_ | refine blk_alloc ?_ _)); exact BK200.out⟩, ⟨by repeat (first | (with_reducible first | exact HB.out | apply below_alloc | apply pw_below_drewN | apply below_drew1 | refine below_set ?_ GE200.out) | exact HB.out)⟩⟩
    · rw [if_neg c5] at H
      have c5b0 : (((l0_0.length : Int) % 64) == 0) = false := beq_eq_false_iff_ne.mpr c5
      have c5b1 : (((l0_0.length : Int) % 64) != 0) = true := bne_iff_ne.mpr c5
      (first | rw [c5b0] | (simp only [i64_w, i32_w]; rw [c5b0]) | skip)
      have H' := Aside0.mk H
      clear H
      go_wp2
      go_meet
      case rel => exact ⟨_, (true), (by first | rfl | (simp; done) | (simp [*]; done)), H', ⟨by first | omega | exact Nat.le_refl _⟩, ⟨by (with_reducible repeat (first | refine blk_drewN ?_ _ | refine blk_drew ?_ | refine blk_alloc ?_ _)); exact BK200.out⟩, ⟨by repeat (first | (with_reducible first | exact HB.out | apply below_alloc | apply pw_below_drewN | apply below_drew1 | refine below_set ?_ GE200.out) | exact HB.out)⟩⟩
  case rest =>
    clear HC2
    try clear c2
    try clear p2
    try clear c5
    try clear c5b0
    try clear c5b1
    try clear c6
    try clear c6b0
    try clear c6b1
    try clear c6b2
    try clear c7
    try clear c7b0
    try clear c7b1
    try clear hcz4_0
    try clear hcz4_1
    try clear hcz8_0
    try clear hcz8_1
    try clear hfz4_0
    try clear hfz4_1
    try clear hfz8_0
    try clear hfz8_1
    obtain ⟨kq, x25_1, rfl, HA, HJ1, BK200, HB⟩ := hcut
    cases kq with
    | zero => exact absurd HA.out (by simp [impl_ValidDisk.j0])
    | succ kj1 =>
      have H := HA.out
      clear HA
      simp only [impl_ValidDisk.j0] at H
      by_cases c9 : x25_1 = true
      · subst c9
        have H1 : (some false) = some r := by rw [if_pos rfl] at H; exact H
        clear H
        have H := H1
        clear H1
        obtain rfl := Option.some.inj H
        go_wp2
        go_ret
        exact ⟨by first | rfl | (simp [errW_none, errW_some] <;> rfl) | (simp [*, errW_none, errW_some] <;> rfl), by repeat (first | (with_reducible first | exact HB.out | apply below_alloc | apply pw_below_drewN | apply below_drew1 | refine below_set ?_ GE200.out) | exact HB.out)⟩
      · replace c9 := Bool.eq_false_iff.mpr c9
        subst c9
        have H1 : (impl_ValidDisk.l0 kj1 (l0_0.length : Int) l0_1 (l0_1.length : Int) 0) = some r := by rw [if_neg (show ¬ (false = true) by decide)] at H; exact H
        clear H
        have H := H1
        clear H1
        have H' := Aside0.mk H
        clear H
        have hcz10_0 : wc.cell? ⟨gb200, 0, none⟩ = some (.slice A0_0 l0_0.length c0_0) := (blk_cell BK200.out 0).trans rfl
        have hcz10_1 : wc.cell? ⟨gb200, 1, none⟩ = some (.slice A0_1 l0_1.length c0_1) := (blk_cell BK200.out 1).trans rfl
        have hfz10_0 := blk_frozen BK200.out 0
        have hfz10_1 := blk_frozen BK200.out 1
        go_wp2
        go_loopg [29] kj1 (fun kq v29 w' => ∃ (x29_2 : Int), v29 = .int .i64 x29_2 ∧ Aside0 (impl_ValidDisk.l0 kq (l0_0.length : Int) l0_1 (l0_1.length : Int) x29_2 = some r) ∧ Aside0 (kq ≤ kj1) ∧ Aside0 (w'.heap[gb200]? = some (.cells #[(.slice A0_0 l0_0.length c0_0), (.slice A0_1 l0_1.length c0_1)] 29 (0, 0))) ∧ Aside0 (Below w.heap.size w w'))
        case atStart => exact ⟨(0), (by first | rfl | (simp; done) | (simp [*]; done)), H', ⟨Nat.le_refl _⟩, ⟨by (with_reducible repeat (first | refine blk_drewN ?_ _ | refine blk_drew ?_ | refine blk_alloc ?_ _)); exact BK200.out⟩, ⟨by repeat (first | (with_reducible first | exact HB.out | apply below_alloc | apply pw_below_drewN | apply below_drew1 | refine below_set ?_ GE200.out) | exact HB.out)⟩⟩
        case round =>
          clear H'
          try clear c2
          try clear p2
          try clear c5
          try clear c5b0
          try clear c5b1
          try clear c6
          try clear c6b0
          try clear c6b1
          try clear c6b2
          try clear c7
          try clear c7b0
          try clear c7b1
          try clear c9
          try clear hcz10_0
          try clear hcz10_1
          try clear hcz4_0
          try clear hcz4_1
          try clear hcz8_0
          try clear hcz8_1
          try clear hfz10_0
          try clear hfz10_1
          try clear hfz4_0
          try clear hfz4_1
          try clear hfz8_0
          try clear hfz8_1
          try clear p2
          obtain ⟨x29_2, rfl, HA, HK2, BK200, HB⟩ := hrel
          cases gk with
          | zero => exact absurd HA.out (by simp [impl_ValidDisk.l0])
          | succ k2 =>
            have H := HA.out
            clear HA
            simp only [impl_ValidDisk.l0] at H
            by_cases c11 : x29_2 < (l0_1.length : Int)
            · rw [if_pos c11] at H
              have c11b0 : decide (x29_2 < (l0_1.length : Int)) = true := decide_eq_true c11
              clear c11
              by_cases c12 : 0 ≤ x29_2
              · rw [if_pos c12] at H
                have c12b0 : decide (0 ≤ x29_2) = true := decide_eq_true c12
                clear c12
                by_cases c13 : x29_2 < (l0_1.length : Int)
                · rw [if_pos c13] at H
                  have c13b0 : decide (x29_2 < (l0_1.length : Int)) = true := decide_eq_true c13
                  clear c13
                  by_cases c14 : ((rd_T62 l0_1 x29_2).f0) < 0
                  · rw [if_pos c14] at H
                    have c14b0 : decide (((rd_T62 l0_1 x29_2).f0) < 0) = true := decide_eq_true c14
                    clear c14
                    obtain rfl := Option.some.inj H
                    have p201 : 0 ≤ (x29_2 : Int) := of_decide_eq_true (by first | (with_reducible assumption) | assumption)
                    have q201 : x29_2 < (l0_1.length : Int) := of_decide_eq_true (by first | (with_reducible assumption) | assumption)
                    obtain ⟨ad201, A201_1, c201_1, e201, hx201_0, hx201_1, hl201_1, hi201_1⟩ := at_T62 HR0_1.out x29_2 p201 q201
                    cases e201
                    replace hx201_0 := (HB.out.cell (World.block_lt_of_cell? w _ hx201_0)).trans hx201_0
                    replace hx201_1 := (HB.out.cell (World.block_lt_of_cell? w _ hx201_1)).trans hx201_1
                    have HR201_1 := Aside0.mk hi201_1
                    have HC201_1 := Aside0.mk hl201_1
                    clear hi201_1 hl201_1
                    replace p201 := eq_true p201
                    replace q201 := eq_true q201
                    go_wp2_with (first | ((with_reducible refine gate_dst (N := 5) rfl ?_); (try (refine gate_guard (by rfl) ?_; dsimp only)); refine box_event ?hg (N := 5) ?hd (cs := #[.int .i64 0, .slice none 0 0]) (t := 62) ?hr ?_; (case hd => rfl); (case hg => rfl); (case hr => first | (go_simp; done) | (go_simp; rfl)); intro gb202 hg w15 hbox hb; have n0_ := Aside0.mk (blk_below (g := gb200) (o := .cells #[.slice A0_0 l0_0.length c0_0, .slice (some ad201) l0_1.length c0_1] 29 (0, 0)) (by (with_reducible repeat (first | refine blk_drewN ?_ _ | refine blk_drew ?_ | refine blk_alloc ?_ _)); exact BK200.out) hb); have n1_ := Aside0.mk (below_step (by repeat (first | (with_reducible first | exact HB.out | apply below_alloc | apply pw_below_drewN | apply below_drew1 | refine below_set ?_ GE200.out) | exact HB.out)) hb); have n2_ := Aside0.mk (hbox); have n3_ := Aside0.mk ((by rw [hg]; exact (below_size (by repeat (first | (with_reducible first | exact HB.out | apply below_alloc | apply pw_below_drewN | apply below_drew1 | refine below_set ?_ GE200.out) | exact HB.out))) : w.heap.size ≤ gb202)); have n4_ := Aside0.mk ((by rw [hg]; exact (below_size (by repeat (first | (with_reducible first | exact HB.out | apply below_alloc | apply pw_below_drewN | apply below_drew1 | refine below_set ?_ GE200.out) | exact HB.out))) : w.heap.size ≤ gb202)); have n5_ := Aside0.mk ((by rw [hg]; exact Nat.ne_of_lt (blk_lt (g := gb200) (o := .cells #[.slice A0_0 l0_0.length c0_0, .slice (some ad201) l0_1.length c0_1] 29 (0, 0)) (by (with_reducible repeat (first | refine blk_drewN ?_ _ | refine blk_drew ?_ | refine blk_alloc ?_ _)); exact BK200.out)) : gb200 ≠ gb202)); have n6_ := Aside0.mk ((by rw [hg]; exact Nat.ne_of_gt (blk_lt (g := gb200) (o := .cells #[.slice A0_0 l0_0.length c0_0, .slice (some ad201) l0_1.length c0_1] 29 (0, 0)) (by (with_reducible repeat (first | refine blk_drewN ?_ _ | refine blk_drew ?_ | refine blk_alloc ?_ _)); exact BK200.out)) : gb202 ≠ gb200)); clear BK200; clear HB; have BK200 := n0_; have HB := n1_; have BK202 := n2_; have GW202 := n3_; have GE202 := n4_; have NB200_202 := n5_; have NB202_200 := n6_; clear n0_ n1_ n2_ n3_ n4_ n5_ n6_; clear hb hbox hg; have hnb16 := NB202_200.out; have hnc16 := NB200_202.out; have hcz17_0 : w15.cell? ⟨gb202, 0, none⟩ = some (.int .i64 0) := (blk_cell BK202.out 0).trans rfl; have hcz17_1 : w15.cell? ⟨gb202, 1, none⟩ = some (.slice none 0 0) := (blk_cell BK202.out 1).trans rfl; have hfz17_0 := blk_frozen BK202.out 0; have hfz17_1 := blk_frozen BK202.out 1))
                    go_ret
                    exact ⟨by first | rfl | (simp [errW_none, errW_some] <;> rfl) | (simp [*, errW_none, errW_some] <;> rfl), by repeat (first | (with_reducible first | exact HB.out | apply below_alloc | apply pw_below_drewN | apply below_drew1 | refine below_set ?_ GE200.out | refine below_set ?_ GE202.out) | exact HB.out)⟩
                  · rw [if_neg c14] at H
                    have c14b0 : decide (((rd_T62 l0_1 x29_2).f0) < 0) = false := decide_eq_false c14
                    clear c14
                    by_cases c18 : ((rd_T62 l0_1 x29_2).f0) ≥ (wrap64 (Int.tdiv (l0_0.length : Int) 64))
                    · rw [if_pos c18] at H
                      have c18b0 : decide ((wrap64 (Int.tdiv (l0_0.length : Int) 64)) ≤ ((rd_T62 l0_1 x29_2).f0)) = true := decide_eq_true c18
                      have c18b9 : decide ((wrap64 ((l0_0.length : Int) / 64)) ≤ ((rd_T62 l0_1 x29_2).f0)) = true := by rw [← Int.tdiv_eq_ediv_of_nonneg (Int.natCast_nonneg _)]; exact c18b0
                      clear c18
                      obtain rfl := Option.some.inj H
                      have p201 : 0 ≤ (x29_2 : Int) := of_decide_eq_true (by first | (with_reducible assumption) | assumption)
                      have q201 : x29_2 < (l0_1.length : Int) := of_decide_eq_true (by first | (with_reducible assumption) | assumption)
                      obtain ⟨ad201, A201_1, c201_1, e201, hx201_0, hx201_1, hl201_1, hi201_1⟩ := at_T62 HR0_1.out x29_2 p201 q201
                      cases e201
                      replace hx201_0 := (HB.out.cell (World.block_lt_of_cell? w _ hx201_0)).trans hx201_0
                      replace hx201_1 := (HB.out.cell (World.block_lt_of_cell? w _ hx201_1)).trans hx201_1
                      have HR201_1 := Aside0.mk hi201_1
                      have HC201_1 := Aside0.mk hl201_1
                      clear hi201_1 hl201_1
                      replace p201 := eq_true p201
                      replace q201 := eq_true q201
                      go_wp2_with (first | ((with_reducible refine gate_dst (N := 5) rfl ?_); (try (refine gate_guard (by rfl) ?_; dsimp only)); refine box_event ?hg (N := 5) ?hd (cs := #[.int .i64 0, .slice none 0 0]) (t := 62) ?hr ?_; (case hd => rfl); (case hg => rfl); (case hr => first | (go_simp; done) | (go_simp; rfl)); intro gb202 hg w19 hbox hb; have n0_ := Aside0.mk (blk_below (g := gb200) (o := .cells #[.slice A0_0 l0_0.length c0_0, .slice (some ad201) l0_1.length c0_1] 29 (0, 0)) (by (with_reducible repeat (first | refine blk_drewN ?_ _ | refine blk_drew ?_ | refine blk_alloc ?_ _)); exact BK200.out) hb); have n1_ := Aside0.mk (below_step (by repeat (first | (with_reducible first | exact HB.out | apply below_alloc | apply pw_below_drewN | apply below_drew1 | refine below_set ?_ GE200.out) | exact HB.out)) hb); have n2_ := Aside0.mk (hbox); have n3_ := Aside0.mk ((by rw [hg]; exact (below_size (by repeat (first | (with_reducible first | exact HB.out | apply below_alloc | apply pw_below_drewN | apply below_drew1 | refine below_set ?_ GE200.out) | exact HB.out))) : w.heap.size ≤ gb202)); have n4_ := Aside0.mk ((by rw [hg]; exact (below_size (by repeat (first | (with_reducible first | exact HB.out | apply below_alloc | apply pw_below_drewN | apply below_drew1 | refine below_set ?_ GE200.out) | exact HB.out))) : w.heap.size ≤ gb202)); have n5_ := Aside0.mk ((by rw [hg]; exact Nat.ne_of_lt (blk_lt (g := gb200) (o := .cells #[.slice A0_0 l0_0.length c0_0, .slice (some ad201) l0_1.length c0_1] 29 (0, 0)) (by (with_reducible repeat (first | refine blk_drewN ?_ _ | refine blk_drew ?_ | refine blk_alloc ?_ _)); exact BK200.out)) : gb200 ≠ gb202)); have n6_ := Aside0.mk ((by rw [hg]; exact Nat.ne_of_gt (blk_lt (g := gb200) (o := .cells #[.slice A0_0 l0_0.length c0_0, .slice (some ad201) l0_1.length c0_1] 29 (0, 0)) (by (with_reducible repeat (first | refine blk_drewN ?_ _ | refine blk_drew ?_ | refine blk_alloc ?_ _)); exact BK200.out)) : gb202 ≠ gb200)); clear BK200; clear HB; have BK200 := n0_; have HB := n1_; have BK202 := n2_; have GW202 := n3_; have GE202 := n4_; have NB200_202 := n5_; have NB202_200 := n6_; clear n0_ n1_ n2_ n3_ n4_ n5_ n6_; clear hb hbox hg; have hnb20 := NB202_200.out; have hnc20 := NB200_202.out; have hcz21_0 : w19.cell? ⟨gb202, 0, none⟩ = some (.int .i64 0) := (blk_cell BK202.out 0).trans rfl; have hcz21_1 : w19.cell? ⟨gb202, 1, none⟩ = some (.slice none 0 0) := (blk_cell BK202.out 1).trans rfl; have hfz21_0 := blk_frozen BK202.out 0; have hfz21_1 := blk_frozen BK202.out 1))
                      go_ret
                      exact ⟨by first | rfl | (simp [errW_none, errW_some] <;> rfl) | (simp [*, errW_none, errW_some] <;> rfl), by repeat (first | (with_reducible first | exact HB.out | apply below_alloc | apply pw_below_drewN | apply below_drew1 | refine below_set ?_ GE200.out | refine below_set ?_ GE202.out) | exact HB.out)⟩
                    · rw [if_neg c18] at H
                      have c18b0 : decide ((wrap64 (Int.tdiv (l0_0.length : Int) 64)) ≤ ((rd_T62 l0_1 x29_2).f0)) = false := decide_eq_false c18
                      have c18b9 : decide ((wrap64 ((l0_0.length : Int) / 64)) ≤ ((rd_T62 l0_1 x29_2).f0)) = false := by rw [← Int.tdiv_eq_ediv_of_nonneg (Int.natCast_nonneg _)]; exact c18b0
                      clear c18
                      by_cases c22 : (((rd_T62 l0_1 x29_2).f1).length : Int) = 64
                      · rw [if_pos c22] at H
                        have c22b0 : ((((rd_T62 l0_1 x29_2).f1).length : Int) == 64) = true := beq_iff_eq.mpr c22
                        have c22b1 : ((((rd_T62 l0_1 x29_2).f1).length : Int) != 64) = false := bne_eq_false_iff_eq.mpr c22
                        clear c22
                        have H' := Aside0.mk H
                        clear H
                        have p201 : 0 ≤ (x29_2 : Int) := of_decide_eq_true (by first | (with_reducible assumption) | assumption)
                        have q201 : x29_2 < (l0_1.length : Int) := of_decide_eq_true (by first | (with_reducible assumption) | assumption)
                        obtain ⟨ad201, A201_1, c201_1, e201, hx201_0, hx201_1, hl201_1, hi201_1⟩ := at_T62 HR0_1.out x29_2 p201 q201
                        cases e201
                        replace hx201_0 := (HB.out.cell (World.block_lt_of_cell? w _ hx201_0)).trans hx201_0
                        replace hx201_1 := (HB.out.cell (World.block_lt_of_cell? w _ hx201_1)).trans hx201_1
                        have HR201_1 := Aside0.mk hi201_1
                        have HC201_1 := Aside0.mk hl201_1
                        clear hi201_1 hl201_1
                        replace p201 := eq_true p201
                        replace q201 := eq_true q201
                        go_wp2_with (first | ((with_reducible refine gate_dst (N := 5) rfl ?_); (try (refine gate_guard (by rfl) ?_; dsimp only)); refine box_event ?hg (N := 5) ?hd (cs := #[.int .i64 0, .slice none 0 0]) (t := 62) ?hr ?_; (case hd => rfl); (case hg => rfl); (case hr => first | (go_simp; done) | (go_simp; rfl)); intro gb202 hg w23 hbox hb; have n0_ := Aside0.mk (blk_below (g := gb200) (o := .cells #[.slice A0_0 l0_0.length c0_0, .slice (some ad201) l0_1.length c0_1] 29 (0, 0)) (by (with_reducible repeat (first | refine blk_drewN ?_ _ | refine blk_drew ?_ | refine blk_alloc ?_ _)); exact BK200.out) hb); have n1_ := Aside0.mk (below_step (by repeat (first | (with_reducible first | exact HB.out | apply below_alloc | apply pw_below_drewN | apply below_drew1 | refine below_set ?_ GE200.out) | exact HB.out)) hb); have n2_ := Aside0.mk (hbox); have n3_ := Aside0.mk ((by rw [hg]; exact (below_size (by repeat (first | (with_reducible first | exact HB.out | apply below_alloc | apply pw_below_drewN | apply below_drew1 | refine below_set ?_ GE200.out) | exact HB.out))) : w.heap.size ≤ gb202)); have n4_ := Aside0.mk ((by rw [hg]; exact (below_size (by repeat (first | (with_reducible first | exact HB.out | apply below_alloc | apply pw_below_drewN | apply below_drew1 | refine below_set ?_ GE200.out) | exact HB.out))) : w.heap.size ≤ gb202)); have n5_ := Aside0.mk ((by rw [hg]; exact Nat.ne_of_lt (blk_lt (g := gb200) (o := .cells #[.slice A0_0 l0_0.length c0_0, .slice (some ad201) l0_1.length c0_1] 29 (0, 0)) (by (with_reducible repeat (first | refine blk_drewN ?_ _ | refine blk_drew ?_ | refine blk_alloc ?_ _)); exact BK200.out)) : gb200 ≠ gb202)); have n6_ := Aside0.mk ((by rw [hg]; exact Nat.ne_of_gt (blk_lt (g := gb200) (o := .cells #[.slice A0_0 l0_0.length c0_0, .slice (some ad201) l0_1.length c0_1] 29 (0, 0)) (by (with_reducible repeat (first | refine blk_drewN ?_ _ | refine blk_drew ?_ | refine blk_alloc ?_ _)); exact BK200.out)) : gb202 ≠ gb200)); clear BK200; clear HB; have BK200 := n0_; have HB := n1_; have BK202 := n2_; have GW202 := n3_; have GE202 := n4_; have NB200_202 := n5_; have NB202_200 := n6_; clear n0_ n1_ n2_ n3_ n4_ n5_ n6_; clear hb hbox hg; have hnb24 := NB202_200.out; have hnc24 := NB200_202.out; have hcz25_0 : w23.cell? ⟨gb202, 0, none⟩ = some (.int .i64 0) := (blk_cell BK202.out 0).trans rfl; have hcz25_1 : w23.cell? ⟨gb202, 1, none⟩ = some (.slice none 0 0) := (blk_cell BK202.out 1).trans rfl; have hfz25_0 := blk_frozen BK202.out 0; have hfz25_1 := blk_frozen BK202.out 1))
                        go_roundg k2
                        case measure => have := HJ1.out; have := HK2.out; omega
                        case rel => exact ⟨(wrap64 (x29_2 + 1)), (by first | rfl | (simp; done) | (simp [*]; done)), H', ⟨by have := HJ1.out; have := HK2.out; omega⟩, ⟨by (with_reducible repeat (first | refine blk_drewN ?_ _ | refine blk_drew ?_ | refine blk_alloc ?_ _)); refine blk_far ?_ NB200_202.out _; (with_reducible repeat (first | refine blk_drewN ?_ _ | refine blk_drew ?_ | refine blk_alloc ?_ _)); refine blk_far ?_ NB200_202.out _; (with_reducible repeat (first | refine blk_drewN ?_ _ | refine blk_drew ?_ | refine blk_alloc ?_ _)); exact BK200.out⟩, ⟨by repeat (first | (with_reducible first | exact HB.out | apply below_alloc | apply pw_below_drewN | apply below_drew1 | refine below_set ?_ GE200.out | refine below_set ?_ GE202.out) | exact HB.out)⟩⟩
                      · rw [if_neg c22] at H
                        have c22b0 : ((((rd_T62 l0_1 x29_2).f1).length : Int) == 64) = false := beq_eq_false_iff_ne.mpr c22
                        have c22b1 : ((((rd_T62 l0_1 x29_2).f1).length : Int) != 64) = true := bne_iff_ne.mpr c22
                        obtain rfl := Option.some.inj H
                        have p201 : 0 ≤ (x29_2 : Int) := of_decide_eq_true (by first | (with_reducible assumption) | assumption)
                        have q201 : x29_2 < (l0_1.length : Int) := of_decide_eq_true (by first | (with_reducible assumption) | assumption)
                        obtain ⟨ad201, A201_1, c201_1, e201, hx201_0, hx201_1, hl201_1, hi201_1⟩ := at_T62 HR0_1.out x29_2 p201 q201
                        cases e201
                        replace hx201_0 := (HB.out.cell (World.block_lt_of_cell? w _ hx201_0)).trans hx201_0
                        replace hx201_1 := (HB.out.cell (World.block_lt_of_cell? w _ hx201_1)).trans hx201_1
                        have HR201_1 := Aside0.mk hi201_1
                        have HC201_1 := Aside0.mk hl201_1
                        clear hi201_1 hl201_1
                        replace p201 := eq_true p201
                        replace q201 := eq_true q201
                        go_wp2_with (first | ((with_reducible refine gate_dst (N := 5) rfl ?_); (try (refine gate_guard (by rfl) ?_; dsimp only)); refine box_event ?hg (N := 5) ?hd (cs := #[.int .i64 0, .slice none 0 0]) (t := 62) ?hr ?_; (case hd => rfl); (case hg => rfl); (case hr => first | (go_simp; done) | (go_simp; rfl)); intro gb202 hg w26 hbox hb; have n0_ := Aside0.mk (blk_below (g := gb200) (o := .cells #[.slice A0_0 l0_0.length c0_0, .slice (some ad201) l0_1.length c0_1] 29 (0, 0)) (by (with_reducible repeat (first | refine blk_drewN ?_ _ | refine blk_drew ?_ | refine blk_alloc ?_ _)); exact BK200.out) hb); have n1_ := Aside0.mk (below_step (by repeat (first | (with_reducible first | exact HB.out | apply below_alloc | apply pw_below_drewN | apply below_drew1 | refine below_set ?_ GE200.out) | exact HB.out)) hb); have n2_ := Aside0.mk (hbox); have n3_ := Aside0.mk ((by rw [hg]; exact (below_size (by repeat (first | (with_reducible first | exact HB.out | apply below_alloc | apply pw_below_drewN | apply below_drew1 | refine below_set ?_ GE200.out) | exact HB.out))) : w.heap.size ≤ gb202)); have n4_ := Aside0.mk ((by rw [hg]; exact (below_size (by repeat (first | (with_reducible first | exact HB.out | apply below_alloc | apply pw_below_drewN | apply below_drew1 | refine below_set ?_ GE200.out) | exact HB.out))) : w.heap.size ≤ gb202)); have n5_ := Aside0.mk ((by rw [hg]; exact Nat.ne_of_lt (blk_lt (g := gb200) (o := .cells #[.slice A0_0 l0_0.length c0_0, .slice (some ad201) l0_1.length c0_1] 29 (0, 0)) (by (with_reducible repeat (first | refine blk_drewN ?_ _ | refine blk_drew ?_ | refine blk_alloc ?_ _)); exact BK200.out)) : gb200 ≠ gb202)); have n6_ := Aside0.mk ((by rw [hg]; exact Nat.ne_of_gt (blk_lt (g := gb200) (o := .cells #[.slice A0_0 l0_0.length c0_0, .slice (some ad201) l0_1.length c0_1] 29 (0, 0)) (by (with_reducible repeat (first | refine blk_drewN ?_ _ | refine blk_drew ?_ | refine blk_alloc ?_ _)); exact BK200.out)) : gb202 ≠ gb200)); clear BK200; clear HB; have BK200 := n0_; have HB := n1_; have BK202 := n2_; have GW202 := n3_; have GE202 := n4_; have NB200_202 := n5_; have NB202_200 := n6_; clear n0_ n1_ n2_ n3_ n4_ n5_ n6_; clear hb hbox hg; have hnb27 := NB202_200.out; have hnc27 := NB200_202.out; have hcz28_0 : w26.cell? ⟨gb202, 0, none⟩ = some (.int .i64 0) := (blk_cell BK202.out 0).trans rfl; have hcz28_1 : w26.cell? ⟨gb202, 1, none⟩ = some (.slice none 0 0) := (blk_cell BK202.out 1).trans rfl; have hfz28_0 := blk_frozen BK202.out 0; have hfz28_1 := blk_frozen BK202.out 1))
                        go_ret
                        exact ⟨by first | rfl | (simp [errW_none, errW_some] <;> rfl) | (simp [*, errW_none, errW_some] <;> rfl), by repeat (first | (with_reducible first | exact HB.out | apply below_alloc | apply pw_below_drewN | apply below_drew1 | refine below_set ?_ GE200.out | refine below_set ?_ GE202.out) | exact HB.out)⟩
                · rw [if_neg c13] at H
                  exact absurd H (by simp)
              · rw [if_neg c12] at H
                exact absurd H (by simp)
            · rw [if_neg c11] at H
              have c11b0 : decide (x29_2 < (l0_1.length : Int)) = false := decide_eq_false c11
              clear c11
              obtain rfl := Option.some.inj H
              go_wp2
              go_ret
              exact ⟨by first | rfl | (simp [errW_none, errW_some] <;> rfl) | (simp [*, errW_none, errW_some] <;> rfl), by repeat (first | (with_reducible first | exact HB.out | apply below_alloc | apply pw_below_drewN | apply below_drew1 | refine below_set ?_ GE200.out) | exact HB.out)⟩

/-! ### impl_nb: function 73 -/
def impl_nb.f (l0_0 : List Int) (l0_1 : List (S62)) : Option (Int) := some (wrap64 ((l0_0.length : Int) / 64))
set_option maxHeartbeats 8000000 in
set_option maxRecDepth 100000 in
theorem impl_nb.calls (A0_0 : Option Addr) (c0_0 : Nat) (l0_0 : List Int) (A0_1 : Option Addr) (c0_1 : Nat) (l0_1 : List (S62)) (r : Int) (w : World) (hr0_0 : Kd.C (Kd.int .u8) w A0_0 l0_0.length l0_0) (hc0_0 : l0_0.length ≤ c0_0) (hr0_1 : Kd.C k62 w A0_1 l0_1.length l0_1) (hc0_1 : l0_1.length ≤ c0_1) (h : impl_nb.f l0_0 l0_1 = some r) :
    Calls Try.prog 73 #[.agg #[.slice A0_0 l0_0.length c0_0, .slice A0_1 l0_1.length c0_1]] w fun e w' => e = .returned (.int .i64 r) ∧ Below w.heap.size w w' := by
  have hu29 := Try.underlying29
  have HR0_0 := Aside0.mk hr0_0
  have HC0_0 := Aside0.mk hc0_0
  clear hr0_0 hc0_0
  have HR0_1 := Aside0.mk hr0_1
  have HC0_1 := Aside0.mk hc0_1
  clear hr0_1 hc0_1
  have HB := Aside0.mk (Below.refl w.heap.size w)
  have H : (some (wrap64 ((l0_0.length : Int) / 64))) = some r := h
  clear h
  obtain rfl := Option.some.inj H
  go_enter Try.func73, Try.ntmps73
  go_wp2_with (first | ((with_reducible refine gate_dst (N := 1) rfl ?_); refine box_event ?hg (N := 1) ?hd (cs := #[.slice A0_0 l0_0.length c0_0, .slice A0_1 l0_1.length c0_1]) (t := 29) ?hr ?_; (case hd => rfl); (case hg => rfl); (case hr => first | (go_simp; done) | (go_simp; rfl)); intro gb203 hg w2 hbox hb; have n0_ := Aside0.mk (below_step (by repeat (first | (with_reducible first | exact HB.out | apply below_alloc | apply pw_below_drewN | apply below_drew1) | exact HB.out)) hb); have n1_ := Aside0.mk (hbox); have n2_ := Aside0.mk ((by rw [hg]; exact (below_size (by repeat (first | (with_reducible first | exact HB.out | apply below_alloc | apply pw_below_drewN | apply below_drew1) | exact HB.out))) : w.heap.size ≤ gb203)); have n3_ := Aside0.mk ((by rw [hg]; exact (below_size (by repeat (first | (with_reducible first | exact HB.out | apply below_alloc | apply pw_below_drewN | apply below_drew1) | exact HB.out))) : w.heap.size ≤ gb203)); clear HB; have HB := n0_; have BK203 := n1_; have GW203 := n2_; have GE203 := n3_; clear n0_ n1_ n2_ n3_; clear hb hbox hg; have hcz3_0 : w2.cell? ⟨gb203, 0, none⟩ = some (.slice A0_0 l0_0.length c0_0) := (blk_cell BK203.out 0).trans rfl; have hcz3_1 : w2.cell? ⟨gb203, 1, none⟩ = some (.slice A0_1 l0_1.length c0_1) := (blk_cell BK203.out 1).trans rfl; have hfz3_0 := blk_frozen BK203.out 0; have hfz3_1 := blk_frozen BK203.out 1))
  go_ret
  exact ⟨by first | rfl | (simp [errW_none, errW_some] <;> rfl) | (simp [*, errW_none, errW_some] <;> rfl), by repeat (first | (with_reducible first | exact HB.out | apply below_alloc | apply pw_below_drewN | apply below_drew1 | refine below_set ?_ GE203.out) | exact HB.out)⟩

/-! ### impl_cp: function 77 -/
def impl_cp.f (l0 : List Int) : Option (List Int) := (some (([] : List Int) : List Int)).bind fun y204 => (if y204.length + l0.length < 140737488355328 then (some (y204 ++ l0)) else (none))
set_option maxHeartbeats 8000000 in
set_option maxRecDepth 100000 in
theorem impl_cp.calls (A0 : Option Addr) (c0 : Nat) (l0 : List Int) (r : List Int) (w : World) (hr0 : Kd.C (Kd.int .u8) w A0 l0.length l0) (hc0 : l0.length ≤ c0) (h : impl_cp.f l0 = some r) :
    Calls Try.prog 77 #[.slice A0 l0.length c0] w fun e w' => ∃ v0_ : Value, e = .returned (v0_) ∧ Kd.R (Kd.int .u8) 5 w' w.heap.size (fun _ => True) v0_ r ∧ Below w.heap.size w w' := by
  have HR0 := Aside0.mk hr0
  have HC0 := Aside0.mk hc0
  clear hr0 hc0
  have HB := Aside0.mk (Below.refl w.heap.size w)
  have H : ((some (([] : List Int) : List Int)).bind fun y204 => (if y204.length + l0.length < 140737488355328 then (some (y204 ++ l0)) else (none))) = some r := h
  clear h
  obtain ⟨y204, hy204⟩ : ∃ y_ : List Int, y_ = (([] : List Int)) := ⟨_, rfl⟩
  replace H : (if y204.length + l0.length < 140737488355328 then (some (y204 ++ l0)) else (none)) = some r := by first | (rw [hy204]; with_reducible exact H) | (have H2_ := (Option.bind_some _ _).symm.trans H; rw [hy204]; with_reducible exact H2_) | (have H2_ := (Option.bind_some _ _).symm.trans H; with_reducible exact H2_) | with_reducible exact H | (rw [hy204]; exact H) | exact H
  have Ny204 := Aside0.mk hy204
  clear hy204
  by_cases c2 : y204.length + l0.length < 140737488355328
  · rw [if_pos c2] at H
    have LMc2 := Aside0.mk c2
    clear c2
    obtain ⟨y207, hy207⟩ : ∃ y_ : List Int, y_ = (y204 ++ l0) := ⟨_, rfl⟩
    replace H : (some y207) = some r := by first | (rw [hy207]; with_reducible exact H) | (have H2_ := (Option.bind_some _ _).symm.trans H; rw [hy207]; with_reducible exact H2_) | (have H2_ := (Option.bind_some _ _).symm.trans H; with_reducible exact H2_) | with_reducible exact H | (rw [hy207]; exact H) | exact H
    have Ny207 := Aside0.mk hy207
    clear hy207
    obtain rfl := Option.some.inj H
    go_enter Try.func77, Try.ntmps77
    go_wp2_with (first | ((with_reducible refine gate_dst (N := 3) rfl ?_); refine Kd.R_lit (Kd.int .u8) _ 5 ?hg (N := 3) ?hd (xs := ([] : List Int)) (inner := []) (ok := fun _ => True) (okp := fun _ => True) ?hr ?hp (fun _ hk => hk) trivial (Below.refl _ _) (Nat.le_refl _) (by simp) ?_; (case hd => rfl); (case hg => rfl); (case hr => first | (go_simp; done) | (go_simp; rfl)); (case hp => exact (Reps.none _ _)); intro v205 w3 ho4 hb hg_ hnew_; clear hg_ hnew_; (first | rw [← Ny204.out] at ho4 | (simp only [Int.reduceToNat] at ho4; rw [← Ny204.out] at ho4)); have n0_ := Aside0.mk (Kd.R_lower ho4 (below_size (by repeat (first | (with_reducible first | exact HB.out | apply below_alloc | apply pw_below_drewN | apply below_drew1) | exact HB.out)))); have n1_ := Aside0.mk (below_step (by repeat (first | (with_reducible first | exact HB.out | apply below_alloc | apply pw_below_drewN | apply below_drew1) | exact HB.out)) hb); clear HB; have HO206 := n0_; have HB := n1_; clear n0_ n1_; clear hb ho4) | ((with_reducible refine gate_builtin (b := .append) (xs := #[.tmp 3, .tmp 4]) rfl ?_); at_builtin; refine Kd.R_append_rows (Kd.int .u8) (w0 := w) w.heap.size rfl (.tmp 3) (.tmp 4) 22 5 (.int .u8 0) 1 rfl Try.underlying22 info5 rfl (by decide) (by omega) v205 y204 l0 _ _ _ (fun _ => True) (fun _ => False) rfl rfl ?aO ?aR (fun _ _ h => h) (fun _ h => h.elim) ?aF ?aB ?aS ?aL ?_; (case aR => repeat (first | exact (Kd.C_below HR0.out HB.out) | (with_reducible refine Kd.C_alloc ?_ _) | (with_reducible refine Kd.C_drewN ?_ _) | (with_reducible refine Kd.C_drew ?_))); (case aB => exact (by repeat (first | (with_reducible first | exact HB.out | apply below_alloc | apply pw_below_drewN | apply below_drew1) | exact HB.out))); (case aF => exact (fun _ _ => trivial)); (case aO => exact (by (with_reducible repeat (first | apply Kd.R_alloc | apply Kd.R_drewN | apply Kd.R_drew)); exact HO206.out)); (case aS => exact (below_size (by repeat (first | (with_reducible first | exact HB.out | apply below_alloc | apply pw_below_drewN | apply below_drew1) | exact HB.out)))); (case aL => have := LMc2.out; omega); intro v208 w5 ho hb hg hat; rw [← Ny207.out] at ho; have n0_ := Aside0.mk (hb); have n1_ := Aside0.mk (ho); clear HB; clear HO206; have HB := n0_; have HO209 := n1_; clear n0_ n1_; clear ho hb hg hat))
    go_ret
    exact ⟨_, by first | rfl | (simp [errW_none, errW_some] <;> rfl) | (simp [*, errW_none, errW_some] <;> rfl), by (with_reducible repeat (first | apply Kd.R_alloc | apply Kd.R_drewN | apply Kd.R_drew)); exact HO209.out, by repeat (first | (with_reducible first | exact HB.out | apply below_alloc | apply pw_below_drewN | apply below_drew1) | exact HB.out)⟩
  · rw [if_neg c2] at H
    exact absurd H (by simp)

end Go.Proofs.Ytdhjhadcadcceaa.PFnExactDiskWrite
