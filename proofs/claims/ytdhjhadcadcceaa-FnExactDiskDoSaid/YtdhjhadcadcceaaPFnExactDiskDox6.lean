-- written by a program of this session (wip/src/print2.py)
import Derived.Test.YtdhjhadcadcceaaPFnExactDiskDox0
import Derived.Test.YtdhjhadcadcceaaPFnExactDiskDox3
import Derived.Test.YtdhjhadcadcceaaPFnExactDiskDox5
namespace Go.Proofs.Ytdhjhadcadcceaa.PFnExactDiskDo
open Go.RowKit Go.Proofs.YtdhjhadcadcceaaW.PrintWords Go.Proofs.YtdhjhadcadcceaaW.PrintLast Go.Proofs.YtdhjhadcadcceaaW.PrintMore
attribute [local go_sem] max2_int min2_int max_two min_two max_three min_three max_four min_four   -- for this text's walks alone
set_option linter.unusedVariables false
set_option linter.unusedSimpArgs false

/-! ### impl_DiskDo: function 45 -/
mutual
def impl_DiskDo.j0 : Nat → List (S93) → Int → Bool → List Int → List (S62) → Option (List Int × (List (S62)))
  | 0, _, _, _, _, _ => none
  | k + 1, x1, x2, x17, x197000, x197001 => if x17 = true then (some (([] : List Int), ([] : List (S62)))) else ((impl_twin.f k x197000 x197001).bind fun bt199 => (impl_DiskDo.l0 k x2 x1 (x1.length : Int) 0 bt199.1 bt199.2))
def impl_DiskDo.l0 : Nat → Int → List (S93) → Int → Int → List Int → List (S62) → Option (List Int × (List (S62)))
  | 0, _, _, _, _, _, _ => none
  | k + 1, x2, x21, x22, x23, x206000, x206001 => if x23 < x22 then (if 0 ≤ x23 then (if x23 < (x21.length : Int) then (if x2 ≥ 0 then (impl_DiskDo.j2 k x2 x21 x22 x23 (decide (x23 ≥ x2)) x206000 x206001 ((rd_T93 x21 x23).f0) ((rd_T93 x21 x23).f1) ((rd_T93 x21 x23).f2)) else (impl_DiskDo.j2 k x2 x21 x22 x23 false x206000 x206001 ((rd_T93 x21 x23).f0) ((rd_T93 x21 x23).f1) ((rd_T93 x21 x23).f2))) else (none)) else (none)) else (some (x206000, x206001))
def impl_DiskDo.j2 : Nat → Int → List (S93) → Int → Int → Bool → List Int → List (S62) → Int → Int → List Int → Option (List Int × (List (S62)))
  | 0, _, _, _, _, _, _, _, _, _, _ => none
  | k + 1, x2, x21, x22, x23, x34, x206000, x206001, x208000, x208001, x208002 => if x34 = true then (some (x206000, x206001)) else ((impl_do.f k x206000 x206001 x208000 x208001 x208002).bind fun bt208 => (if bt208.2.2 = true then (impl_DiskDo.l0 k x2 x21 x22 (wrap64 (x23 + 1)) bt208.1 bt208.2.1) else (some (([] : List Int), ([] : List (S62))))))
end
def impl_DiskDo.f (k : Nat) (l0_0 : List Int) (l0_1 : List (S62)) (l1 : List (S93)) (a2 : Int) : Option (List Int × (List (S62))) := (impl_ValidDisk.f k l0_0 l0_1).bind fun t198 => (if t198 = true then (impl_DiskDo.j0 k l1 a2 (decide ((l1.length : Int) > 4000)) l0_0 l0_1) else (impl_DiskDo.j0 k l1 a2 true l0_0 l0_1))
theorem impl_DiskDo.mono_l : ∀ k, (∀ y0 y1 y2 y3 y4, LeO (impl_DiskDo.j0 k y0 y1 y2 y3 y4) (impl_DiskDo.j0 (k + 1) y0 y1 y2 y3 y4)) ∧ (∀ y0 y1 y2 y3 y4 y5, LeO (impl_DiskDo.l0 k y0 y1 y2 y3 y4 y5) (impl_DiskDo.l0 (k + 1) y0 y1 y2 y3 y4 y5)) ∧ (∀ y0 y1 y2 y3 y4 y5 y6 y7 y8 y9, LeO (impl_DiskDo.j2 k y0 y1 y2 y3 y4 y5 y6 y7 y8 y9) (impl_DiskDo.j2 (k + 1) y0 y1 y2 y3 y4 y5 y6 y7 y8 y9))
  | 0 => ⟨fun _ _ _ _ _ r h => by simp [impl_DiskDo.j0] at h, fun _ _ _ _ _ _ r h => by simp [impl_DiskDo.l0] at h, fun _ _ _ _ _ _ _ _ _ _ r h => by simp [impl_DiskDo.j2] at h⟩
  | k + 1 => by
    obtain ⟨ih0, ih1, ih2⟩ := impl_DiskDo.mono_l k
    refine ⟨?_, ?_, ?_⟩
    · intro y0 y1 y2 y3 y4
      unfold impl_DiskDo.j0
      repeat' first
      | (with_reducible exact ih0 _ _ _ _ _)
      | (with_reducible exact ih1 _ _ _ _ _ _)
      | (with_reducible exact ih2 _ _ _ _ _ _ _ _ _ _)
      | (with_reducible exact impl_ValidDisk.mono _ _ _)
      | (with_reducible exact impl_do.mono _ _ _ _ _ _)
      | (with_reducible exact impl_twin.mono _ _ _)
      | (with_reducible exact LeO.refl _)
      | (with_reducible exact LeO.none _)
      | (with_reducible refine LeO.ite ?_ ?_)
      | (with_reducible refine LeO.bind ?_ (fun _ => ?_))
      | exact ih0 _ _ _ _ _
      | exact ih1 _ _ _ _ _ _
      | exact ih2 _ _ _ _ _ _ _ _ _ _
      | exact impl_ValidDisk.mono _ _ _
      | exact impl_do.mono _ _ _ _ _ _
      | exact impl_twin.mono _ _ _
      | exact LeO.none _
      | refine LeO.ite ?_ ?_
      | refine LeO.bind ?_ (fun _ => ?_)
    · intro y0 y1 y2 y3 y4 y5
      unfold impl_DiskDo.l0
      repeat' first
      | (with_reducible exact ih0 _ _ _ _ _)
      | (with_reducible exact ih1 _ _ _ _ _ _)
      | (with_reducible exact ih2 _ _ _ _ _ _ _ _ _ _)
      | (with_reducible exact impl_ValidDisk.mono _ _ _)
      | (with_reducible exact impl_do.mono _ _ _ _ _ _)
      | (with_reducible exact impl_twin.mono _ _ _)
      | (with_reducible exact LeO.refl _)
      | (with_reducible exact LeO.none _)
      | (with_reducible refine LeO.ite ?_ ?_)
      | (with_reducible refine LeO.bind ?_ (fun _ => ?_))
      | exact ih0 _ _ _ _ _
      | exact ih1 _ _ _ _ _ _
      | exact ih2 _ _ _ _ _ _ _ _ _ _
      | exact impl_ValidDisk.mono _ _ _
      | exact impl_do.mono _ _ _ _ _ _
      | exact impl_twin.mono _ _ _
      | exact LeO.none _
      | refine LeO.ite ?_ ?_
      | refine LeO.bind ?_ (fun _ => ?_)
    · intro y0 y1 y2 y3 y4 y5 y6 y7 y8 y9
      unfold impl_DiskDo.j2
      repeat' first
      | (with_reducible exact ih0 _ _ _ _ _)
      | (with_reducible exact ih1 _ _ _ _ _ _)
      | (with_reducible exact ih2 _ _ _ _ _ _ _ _ _ _)
      | (with_reducible exact impl_ValidDisk.mono _ _ _)
      | (with_reducible exact impl_do.mono _ _ _ _ _ _)
      | (with_reducible exact impl_twin.mono _ _ _)
      | (with_reducible exact LeO.refl _)
      | (with_reducible exact LeO.none _)
      | (with_reducible refine LeO.ite ?_ ?_)
      | (with_reducible refine LeO.bind ?_ (fun _ => ?_))
      | exact ih0 _ _ _ _ _
      | exact ih1 _ _ _ _ _ _
      | exact ih2 _ _ _ _ _ _ _ _ _ _
      | exact impl_ValidDisk.mono _ _ _
      | exact impl_do.mono _ _ _ _ _ _
      | exact impl_twin.mono _ _ _
      | exact LeO.none _
      | refine LeO.ite ?_ ?_
      | refine LeO.bind ?_ (fun _ => ?_)
theorem impl_DiskDo.mono : ∀ a0 a1 a2 a3 k, LeO (impl_DiskDo.f k a0 a1 a2 a3) (impl_DiskDo.f (k + 1) a0 a1 a2 a3) := by
  intro a0 a1 a2 a3 k
  obtain ⟨ih0, ih1, ih2⟩ := impl_DiskDo.mono_l k
  unfold impl_DiskDo.f
  repeat' first
      | (with_reducible exact ih0 _ _ _ _ _)
      | (with_reducible exact ih1 _ _ _ _ _ _)
      | (with_reducible exact ih2 _ _ _ _ _ _ _ _ _ _)
      | (with_reducible exact impl_ValidDisk.mono _ _ _)
      | (with_reducible exact impl_do.mono _ _ _ _ _ _)
      | (with_reducible exact impl_twin.mono _ _ _)
      | (with_reducible exact LeO.refl _)
      | (with_reducible exact LeO.none _)
      | (with_reducible refine LeO.ite ?_ ?_)
      | (with_reducible refine LeO.bind ?_ (fun _ => ?_))
      | exact ih0 _ _ _ _ _
      | exact ih1 _ _ _ _ _ _
      | exact ih2 _ _ _ _ _ _ _ _ _ _
      | exact impl_ValidDisk.mono _ _ _
      | exact impl_do.mono _ _ _ _ _ _
      | exact impl_twin.mono _ _ _
      | exact LeO.none _
      | refine LeO.ite ?_ ?_
      | refine LeO.bind ?_ (fun _ => ?_)
set_option maxHeartbeats 8000000 in
set_option maxRecDepth 100000 in
theorem impl_DiskDo.calls (k : Nat) (A0_0 : Option Addr) (c0_0 : Nat) (l0_0 : List Int) (A0_1 : Option Addr) (c0_1 : Nat) (l0_1 : List (S62)) (A1 : Option Addr) (c1 : Nat) (l1 : List (S93)) (a2 : Int) (r1 : List Int) (r2 : List (S62)) (w : World) (hr0_0 : Kd.C (Kd.int .u8) w A0_0 l0_0.length l0_0) (hc0_0 : l0_0.length ≤ c0_0) (hr0_1 : Kd.C k62 w A0_1 l0_1.length l0_1) (hc0_1 : l0_1.length ≤ c0_1) (hr1 : Kd.C k93 w A1 l1.length l1) (hc1 : l1.length ≤ c1) (h : impl_DiskDo.f k l0_0 l0_1 l1 a2 = some (r1, r2)) :
    Calls Try.prog 45 #[.agg #[.slice A0_0 l0_0.length c0_0, .slice A0_1 l0_1.length c0_1], .slice A1 l1.length c1, .int .i64 a2] w fun e w' => ∃ v0_ v1_ : Value, e = .returned (.agg #[v0_, v1_]) ∧ Kd.R (Kd.int .u8) 5 w' w.heap.size (fun k_ => (w.heap.size ≤ k_)) v0_ r1 ∧ Kd.S k62 62 w' w.heap.size (fun k_ => (w.heap.size ≤ k_) ∧ some k_ ≠ (v0_ : Value).ownBlock) v1_ r2 ∧ Below w.heap.size w w' := by
  have hu29 := Try.underlying29
  have hu93 := Try.underlying93
  have HR0_0 := Aside0.mk hr0_0
  have HC0_0 := Aside0.mk hc0_0
  clear hr0_0 hc0_0
  have HR0_1 := Aside0.mk hr0_1
  have HC0_1 := Aside0.mk hc0_1
  clear hr0_1 hc0_1
  have HR1 := Aside0.mk hr1
  have HC1 := Aside0.mk hc1
  clear hr1 hc1
  have HB := Aside0.mk (Below.refl w.heap.size w)
  have H : ((impl_ValidDisk.f k l0_0 l0_1).bind fun t198 => (if t198 = true then (impl_DiskDo.j0 k l1 a2 (decide ((l1.length : Int) > 4000)) l0_0 l0_1) else (impl_DiskDo.j0 k l1 a2 true l0_0 l0_1))) = some (r1, r2) := h
  clear h
  have HC4 := Aside0.mk H
  clear H
  go_enter Try.func45, Try.ntmps45
  go_upto_region 1 with (first | ((with_reducible refine gate_dst (N := 3) rfl ?_); (try (refine gate_guard (by rfl) ?_; dsimp only)); refine box_event ?hg (N := 3) ?hd (cs := #[.slice A0_0 l0_0.length c0_0, .slice A0_1 l0_1.length c0_1]) (t := 29) ?hr ?_; (case hd => rfl); (case hg => rfl); (case hr => first | (go_simp; done) | (go_simp; rfl)); intro gb196 hg w5 hbox hb; have n0_ := Aside0.mk (below_step (Rgn.bq HB.out) hb); have n1_ := Aside0.mk (hbox); have n2_ := Aside0.mk ((by rw [hg]; exact (below_size (Rgn.bq HB.out)) : w.heap.size ≤ gb196)); have n3_ := Aside0.mk ((by rw [hg]; exact (below_size (Rgn.bq HB.out)) : w.heap.size ≤ gb196)); clear HB; have HB := n0_; have BK196 := n1_; have GW196 := n2_; have GE196 := n3_; clear n0_ n1_ n2_ n3_; clear hb hbox hg) | ((with_reducible refine gate_dst (N := 6) rfl ?_); (try (refine gate_guard (by rfl) ?_; dsimp only)); refine box_event ?hg (N := 6) ?hd (cs := #[.slice none 0 0, .slice none 0 0]) (t := 29) ?hr ?_; (case hd => rfl); (case hg => rfl); (case hr => first | (go_simp; done) | (go_simp; rfl)); intro gb197 hg w6 hbox hb; have n0_ := Aside0.mk (Rgn.bb BK196.out hb); have n1_ := Aside0.mk (below_step (Rgn.bq HB.out) hb); have n2_ := Aside0.mk (hbox); have n3_ := Aside0.mk ((by rw [hg]; exact (below_size (Rgn.bq HB.out)) : w.heap.size ≤ gb197)); have n4_ := Aside0.mk ((by rw [hg]; exact (below_size (Rgn.bq HB.out)) : w.heap.size ≤ gb197)); have n5_ := Aside0.mk ((by rw [hg]; exact Nat.ne_of_lt (blk_lt (g := gb196) (o := .cells #[.slice A0_0 l0_0.length c0_0, .slice A0_1 l0_1.length c0_1] 29 (0, 0)) (Rgn.kb BK196.out)) : gb196 ≠ gb197)); have n6_ := Aside0.mk ((by rw [hg]; exact Nat.ne_of_gt (blk_lt (g := gb196) (o := .cells #[.slice A0_0 l0_0.length c0_0, .slice A0_1 l0_1.length c0_1] 29 (0, 0)) (Rgn.kb BK196.out)) : gb197 ≠ gb196)); clear BK196; clear HB; have BK196 := n0_; have HB := n1_; have BK197 := n2_; have GW197 := n3_; have GE197 := n4_; have NB196_197 := n5_; have NB197_196 := n6_; clear n0_ n1_ n2_ n3_ n4_ n5_ n6_; clear hb hbox hg))
  (try simp only [Act.put, List.setIfInBounds_toArray, List.set_cons_zero, List.set_cons_succ])
  go_cut [17] (fun v17 wc => ∃ (kq : Nat) (x17_3 : Bool), v17 = .bool x17_3 ∧ Aside0 (impl_DiskDo.j0 kq l1 a2 x17_3 l0_0 l0_1 = some (r1, r2)) ∧ Aside0 (kq ≤ k) ∧ Aside0 (wc.heap[gb196]? = some (.cells #[(.slice A0_0 l0_0.length c0_0), (.slice A0_1 l0_1.length c0_1)] 29 (0, 0))) ∧ Aside0 (wc.heap[gb197]? = some (.cells #[(.slice none 0 0), (.slice none 0 0)] 29 (0, 0))) ∧ Aside0 (Below w.heap.size w wc))
  case first =>
    have H := HC4.out
    clear HC4
    replace H := Option.bind_eq_some_iff.mp H
    obtain ⟨t198, A70, H⟩ := H
    replace H : (if t198 = true then (impl_DiskDo.j0 k l1 a2 (decide ((l1.length : Int) > 4000)) l0_0 l0_1) else (impl_DiskDo.j0 k l1 a2 true l0_0 l0_1)) = some (r1, r2) := H
    have A7 := Aside0.mk A70
    clear A70
    by_cases c8 : t198 = true
    · subst c8
      have H1 : (impl_DiskDo.j0 k l1 a2 (decide ((l1.length : Int) > 4000)) l0_0 l0_1) = some (r1, r2) := by rw [if_pos rfl] at H; exact H
      clear H
      have H := H1
      clear H1
      have H' := Aside0.mk H
      clear H
      have hnb9 := NB196_197.out
      have hnc9 := NB197_196.out
      have hcz10_0 : w6.cell? ⟨gb196, 0, none⟩ = some (.slice A0_0 l0_0.length c0_0) := (blk_cell BK196.out 0).trans rfl
      have hcz10_1 : w6.cell? ⟨gb196, 1, none⟩ = some (.slice A0_1 l0_1.length c0_1) := (blk_cell BK196.out 1).trans rfl
      have hfz10_0 := blk_frozen BK196.out 0
      have hfz10_1 := blk_frozen BK196.out 1
      go_wp2_with (first | ((with_reducible refine gate_callee (f := 28) rfl ?_); refine Rgn.gl (some 11) Try.func28 #[.agg #[.slice A0_0 l0_0.length c0_0, .slice A0_1 l0_1.length c0_1]] ?_; (with_reducible refine (impl_ValidDisk.calls k _ _ l0_0 _ _ l0_1 true _ ?side1 ?side2 ?side3 ?side4 A7.out).mono ?_); (case side1 => exact Rgn.cq (Kd.C_below HR0_0.out HB.out)); (case side2 => exact HC0_0.out); (case side3 => exact Rgn.cq (Kd.C_below HR0_1.out HB.out)); (case side4 => exact HC0_1.out); rintro e w11 ⟨rfl, hb⟩; refine ⟨_, rfl, ?_⟩; have n0_ := Aside0.mk (Rgn.bb BK196.out hb); have n1_ := Aside0.mk (Rgn.bb BK197.out hb); have n2_ := Aside0.mk (below_step (Rgn.bq HB.out) hb); clear BK196; clear BK197; clear HB; have BK196 := n0_; have BK197 := n1_; have HB := n2_; clear n0_ n1_ n2_; (try clear hb); (try clear hb2); (try clear hk); (try clear hi)))
      go_meet
      case rel => exact ⟨_, (decide ((l1.length : Int) > 4000)), (by first | rfl | (simp; done) | (simp [*]; done)), H', ⟨by first | omega | exact Nat.le_refl _⟩, ⟨Rgn.kb BK196.out⟩, ⟨Rgn.kb BK197.out⟩, ⟨Rgn.bq HB.out⟩⟩
    · replace c8 := Bool.eq_false_iff.mpr c8
      subst c8
      have H1 : (impl_DiskDo.j0 k l1 a2 true l0_0 l0_1) = some (r1, r2) := by rw [if_neg (show ¬ (false = true) by decide)] at H; exact H
      clear H
      have H := H1
      clear H1
      have H' := Aside0.mk H
      clear H
      have hnb12 := NB196_197.out
      have hnc12 := NB197_196.out
      have hcz13_0 : w6.cell? ⟨gb196, 0, none⟩ = some (.slice A0_0 l0_0.length c0_0) := (blk_cell BK196.out 0).trans rfl
      have hcz13_1 : w6.cell? ⟨gb196, 1, none⟩ = some (.slice A0_1 l0_1.length c0_1) := (blk_cell BK196.out 1).trans rfl
      have hfz13_0 := blk_frozen BK196.out 0
      have hfz13_1 := blk_frozen BK196.out 1
      go_wp2_with (first | ((with_reducible refine gate_callee (f := 28) rfl ?_); refine Rgn.gl (some 11) Try.func28 #[.agg #[.slice A0_0 l0_0.length c0_0, .slice A0_1 l0_1.length c0_1]] ?_; (with_reducible refine (impl_ValidDisk.calls k _ _ l0_0 _ _ l0_1 false _ ?side1 ?side2 ?side3 ?side4 A7.out).mono ?_); (case side1 => exact Rgn.cq (Kd.C_below HR0_0.out HB.out)); (case side2 => exact HC0_0.out); (case side3 => exact Rgn.cq (Kd.C_below HR0_1.out HB.out)); (case side4 => exact HC0_1.out); rintro e w14 ⟨rfl, hb⟩; refine ⟨_, rfl, ?_⟩; have n0_ := Aside0.mk (Rgn.bb BK196.out hb); have n1_ := Aside0.mk (Rgn.bb BK197.out hb); have n2_ := Aside0.mk (below_step (Rgn.bq HB.out) hb); clear BK196; clear BK197; clear HB; have BK196 := n0_; have BK197 := n1_; have HB := n2_; clear n0_ n1_ n2_; (try clear hb); (try clear hb2); (try clear hk); (try clear hi)))
      go_meet
      case rel => exact ⟨_, (true), (by first | rfl | (simp; done) | (simp [*]; done)), H', ⟨by first | omega | exact Nat.le_refl _⟩, ⟨Rgn.kb BK196.out⟩, ⟨Rgn.kb BK197.out⟩, ⟨Rgn.bq HB.out⟩⟩
  case rest =>
    clear HC4
    try clear c1
    try clear c2
    try clear p2
    try clear c4
    try clear c8
    try clear c9
    try clear c12
    try clear hcz10_0
    try clear hcz10_1
    try clear hcz13_0
    try clear hcz13_1
    try clear hfz10_0
    try clear hfz10_1
    try clear hfz13_0
    try clear hfz13_1
    obtain ⟨kq, x17_3, rfl, HA, HJ3, BK196, BK197, HB⟩ := hcut
    cases kq with
    | zero => exact absurd HA.out (by simp [impl_DiskDo.j0])
    | succ kj3 =>
      have H := HA.out
      clear HA
      simp only [impl_DiskDo.j0] at H
      by_cases c15 : x17_3 = true
      · subst c15
        have H1 : (some (([] : List Int), ([] : List (S62)))) = some (r1, r2) := by rw [if_pos rfl] at H; exact H
        clear H
        have H := H1
        clear H1
        simp only [Option.some.injEq, Prod.mk.injEq] at H
        obtain ⟨rfl, rfl⟩ := H
        have hnb16 := NB197_196.out
        have hnc16 := NB196_197.out
        have hcz17_0 : wc.cell? ⟨gb197, 0, none⟩ = some (.slice none 0 0) := (blk_cell BK197.out 0).trans rfl
        have hcz17_1 : wc.cell? ⟨gb197, 1, none⟩ = some (.slice none 0 0) := (blk_cell BK197.out 1).trans rfl
        have hfz17_0 := blk_frozen BK197.out 0
        have hfz17_1 := blk_frozen BK197.out 1
        go_wp2
        refine bodyPost_ret (results_cell_row rfl _ _ gb197 29 #[.slice none 0 0, .slice none 0 0] (0, 0) _ rfl (by (with_reducible repeat (first | refine blk_drewN ?_ _ | refine blk_drew ?_ | refine blk_alloc ?_ _)); refine blk_put (cs := #[.slice none 0 0, .slice none 0 0]) ?_ 1 _ rfl; (with_reducible repeat (first | refine blk_drewN ?_ _ | refine blk_drew ?_ | refine blk_alloc ?_ _)); refine blk_put (cs := #[.slice none 0 0, .slice none 0 0]) ?_ 0 _ rfl; (with_reducible repeat (first | refine blk_drewN ?_ _ | refine blk_drew ?_ | refine blk_alloc ?_ _)); exact BK197.out) Try.underlying29 rfl (by kernel_rfl)) rfl ?_
        exact ⟨_, _, by first | rfl | (simp [errW_none, errW_some] <;> rfl) | (simp [*, errW_none, errW_some] <;> rfl), by first | exact Kd.R_nil _ _ _ _ _ | exact Kd.N_nil _ _ _ _ _ | exact Kd.V_nil _ _ _ _ _ | exact Kd.Q_nil _ _ _ _ _ | exact Kd.S_nil _ _ _ _ _, (by first | exact Kd.S_nil _ _ _ _ _ | exact Kd.N_nil _ _ _ _ _ | exact Kd.V_nil _ _ _ _ _ | exact Kd.Q_nil _ _ _ _ _ | exact Kd.R_nil _ _ _ _ _), Rgn.bq HB.out⟩
      · replace c15 := Bool.eq_false_iff.mpr c15
        subst c15
        have H1 : ((impl_twin.f kj3 l0_0 l0_1).bind fun bt199 => (impl_DiskDo.l0 kj3 a2 l1 (l1.length : Int) 0 bt199.1 bt199.2)) = some (r1, r2) := by rw [if_neg (show ¬ (false = true) by decide)] at H; exact H
        clear H
        have H := H1
        clear H1
        replace H := Option.bind_eq_some_iff.mp H
        obtain ⟨⟨t199, t202⟩, A180, H⟩ := H
        replace H : (impl_DiskDo.l0 kj3 a2 l1 (l1.length : Int) 0 t199 t202) = some (r1, r2) := H
        have A18 := Aside0.mk A180
        clear A180
        have H' := Aside0.mk H
        clear H
        have hnb19 := NB196_197.out
        have hnc19 := NB197_196.out
        have hcz20_0 : wc.cell? ⟨gb196, 0, none⟩ = some (.slice A0_0 l0_0.length c0_0) := (blk_cell BK196.out 0).trans rfl
        have hcz20_1 : wc.cell? ⟨gb196, 1, none⟩ = some (.slice A0_1 l0_1.length c0_1) := (blk_cell BK196.out 1).trans rfl
        have hfz20_0 := blk_frozen BK196.out 0
        have hfz20_1 := blk_frozen BK196.out 1
        go_wp2_with (first | ((with_reducible refine gate_callee (f := 79) rfl ?_); refine Rgn.gl (some 20) Try.func79 #[.agg #[.slice A0_0 l0_0.length c0_0, .slice A0_1 l0_1.length c0_1]] ?_; (with_reducible refine (impl_twin.calls kj3 _ _ l0_0 _ _ l0_1 t199 t202 _ ?side1 ?side2 ?side3 ?side4 A18.out).mono ?_); (case side1 => exact Rgn.cq (Kd.C_below HR0_0.out HB.out)); (case side2 => exact HC0_0.out); (case side3 => exact Rgn.cq (Kd.C_below HR0_1.out HB.out)); (case side4 => exact HC0_1.out); rintro e w21 ⟨v200, v203, rfl, ho0, ho1, hb⟩; refine ⟨_, rfl, ?_⟩; have n0_ := Aside0.mk (Kd.R_lower (Kd.R_newM (M := fun k_ => (w.heap.size ≤ k_)) ho0 (below_size (Rgn.bq HB.out)) (fun k_ h_ => h_)) (below_size (Rgn.bq HB.out))); have n1_ := Aside0.mk (Kd.S_lower (Kd.S_newM (M := fun k_ => (w.heap.size ≤ k_)) ho1 (below_size (Rgn.bq HB.out)) (fun k_ h_ => h_)) (below_size (Rgn.bq HB.out))); have n2_ := Aside0.mk (Rgn.bb BK196.out hb); have n3_ := Aside0.mk (Rgn.bb BK197.out hb); have n4_ := Aside0.mk (below_step (Rgn.bq HB.out) hb); clear BK196; clear BK197; clear HB; have HO201 := n0_; have HO204 := n1_; have BK196 := n2_; have BK197 := n3_; have HB := n4_; clear n0_ n1_ n2_ n3_ n4_; (try clear hb); (try clear hb2); (try clear hk); (try clear hi); (try clear ho0); (try clear ho1)) | ((with_reducible refine gate_dst (N := 7) rfl ?_); (try (refine gate_guard (by rfl) ?_; dsimp only)); refine box_event ?hg (N := 7) ?hd (cs := #[.slice none 0 0, .slice none 0 0]) (t := 29) ?hr ?_; (case hd => rfl); (case hg => rfl); (case hr => first | (go_simp; done) | (go_simp; rfl)); intro gb205 hg w22 hbox hb; have n0_ := Aside0.mk (Kd.R_below (Rgn.rq HO201.out) hb); have n1_ := Aside0.mk (Kd.S_below (Rgn.sq HO204.out) hb); have n2_ := Aside0.mk (Rgn.bb BK196.out hb); have n3_ := Aside0.mk (Rgn.bb BK197.out hb); have n4_ := Aside0.mk (below_step (Rgn.bq HB.out) hb); have n5_ := Aside0.mk (hbox); have n6_ := Aside0.mk ((by rw [hg]; exact (below_size (Rgn.bq HB.out)) : w.heap.size ≤ gb205)); have n7_ := Aside0.mk ((by rw [hg]; exact (below_size (Rgn.bq HB.out)) : w.heap.size ≤ gb205)); have n8_ := Aside0.mk ((by rw [hg]; exact Nat.ne_of_lt (blk_lt (g := gb196) (o := .cells #[.slice A0_0 l0_0.length c0_0, .slice A0_1 l0_1.length c0_1] 29 (0, 0)) (Rgn.kb BK196.out)) : gb196 ≠ gb205)); have n9_ := Aside0.mk ((by rw [hg]; exact Nat.ne_of_gt (blk_lt (g := gb196) (o := .cells #[.slice A0_0 l0_0.length c0_0, .slice A0_1 l0_1.length c0_1] 29 (0, 0)) (Rgn.kb BK196.out)) : gb205 ≠ gb196)); have n10_ := Aside0.mk ((by rw [hg]; exact Nat.ne_of_lt (blk_lt (g := gb197) (o := .cells #[.slice none 0 0, .slice none 0 0] 29 (0, 0)) (Rgn.kb BK197.out)) : gb197 ≠ gb205)); have n11_ := Aside0.mk ((by rw [hg]; exact Nat.ne_of_gt (blk_lt (g := gb197) (o := .cells #[.slice none 0 0, .slice none 0 0] 29 (0, 0)) (Rgn.kb BK197.out)) : gb205 ≠ gb197)); clear HO201; clear HO204; clear BK196; clear BK197; clear HB; have HO201 := n0_; have HO204 := n1_; have BK196 := n2_; have BK197 := n3_; have HB := n4_; have BK205 := n5_; have GW205 := n6_; have GE205 := n7_; have NB196_205 := n8_; have NB205_196 := n9_; have NB197_205 := n10_; have NB205_197 := n11_; clear n0_ n1_ n2_ n3_ n4_ n5_ n6_ n7_ n8_ n9_ n10_ n11_; clear hb hbox hg; obtain ⟨Ao23, co23, eo23⟩ := Kd.R_slice HO201.out; subst eo23; have hnb24 := NB205_196.out; have hnc24 := NB196_205.out; have hnb25 := NB205_197.out; have hnc25 := NB197_205.out; have hcz26_0 : w22.cell? ⟨gb205, 0, none⟩ = some (.slice none 0 0) := (blk_cell BK205.out 0).trans rfl; have hcz26_1 : w22.cell? ⟨gb205, 1, none⟩ = some (.slice none 0 0) := (blk_cell BK205.out 1).trans rfl; have hfz26_0 := blk_frozen BK205.out 0; have hfz26_1 := blk_frozen BK205.out 1; obtain ⟨Ao27, co27, eo27⟩ := Kd.S_slice HO204.out; subst eo27))
        go_loopg [23] kj3 (fun kq v23 w' => ∃ (x23_2 : Int) (x206000_2 : List Int) (x206001_2 : List (S62)) (u206000 : Value) (u206001 : Value), v23 = .int .i64 x23_2 ∧ Aside0 (impl_DiskDo.l0 kq a2 l1 (l1.length : Int) x23_2 x206000_2 x206001_2 = some (r1, r2)) ∧ Aside0 (kq ≤ kj3) ∧ Aside0 (Kd.R (Kd.int .u8) 5 w' w.heap.size (fun k_ => (w.heap.size ≤ k_)) u206000 x206000_2) ∧ Aside0 (Kd.S k62 62 w' w.heap.size (fun k_ => (w.heap.size ≤ k_) ∧ some k_ ≠ (u206000 : Value).ownBlock ∧ k_ ≠ gb196 ∧ k_ ≠ gb197 ∧ k_ ≠ gb205) u206001 x206001_2) ∧ Aside0 (w'.heap[gb196]? = some (.cells #[(.slice A0_0 l0_0.length c0_0), (.slice A0_1 l0_1.length c0_1)] 29 (0, 0))) ∧ Aside0 (w'.heap[gb197]? = some (.cells #[(.slice none 0 0), (.slice none 0 0)] 29 (0, 0))) ∧ Aside0 (w'.heap[gb205]? = some (.cells #[u206000, u206001] 29 (0, 0))) ∧ Aside0 (Below w.heap.size w w'))
        case atStart => exact ⟨(0), (t199), (t202), (.slice Ao23 t199.length co23), (.slice Ao27 t202.length co27), (by first | rfl | (simp; done) | (simp [*]; done)), H', ⟨Nat.le_refl _⟩, ⟨by (with_reducible repeat (first | apply Kd.R_alloc | apply Kd.R_drewN | apply Kd.R_drew)); exact Kd.R_mono (Kd.R_far (p := ⟨gb205, 1, none⟩) (Kd.R_far (p := ⟨gb205, 0, none⟩) (Kd.R_types HO201.out BK205.out (by decide)) (fun _ hk => hk.2) (.slice Ao23 t199.length co23)) (fun _ hk => hk.2) (.slice Ao27 t202.length co27)) (fun _ hk => hk.1.1)⟩, ⟨(by (with_reducible repeat (first | apply Kd.S_alloc | apply Kd.S_drewN | apply Kd.S_drew)); exact Kd.S_mono (Kd.S_far (p := ⟨gb205, 1, none⟩) (Kd.S_far (p := ⟨gb205, 0, none⟩) (Kd.S_types (Kd.S_types (Kd.S_types (Kd.S_types HO204.out BK196.out (by decide)) BK197.out (by decide)) BK205.out (by decide)) BK205.out (by decide)) (fun _ hk => hk.2) (.slice Ao23 t199.length co23)) (fun _ hk => hk.2) (.slice Ao27 t202.length co27)) (fun _ hk => ⟨hk.1.1.1.1.1, ⟨hk.1.1.1.1.2, ⟨hk.1.1.1.2, ⟨hk.1.1.2, hk.1.2⟩⟩⟩⟩))⟩, ⟨by (with_reducible repeat (first | refine blk_drewN ?_ _ | refine blk_drew ?_ | refine blk_alloc ?_ _)); refine blk_far ?_ NB196_205.out _; (with_reducible repeat (first | refine blk_drewN ?_ _ | refine blk_drew ?_ | refine blk_alloc ?_ _)); refine blk_far ?_ NB196_205.out _; (with_reducible repeat (first | refine blk_drewN ?_ _ | refine blk_drew ?_ | refine blk_alloc ?_ _)); exact BK196.out⟩, ⟨by (with_reducible repeat (first | refine blk_drewN ?_ _ | refine blk_drew ?_ | refine blk_alloc ?_ _)); refine blk_far ?_ NB197_205.out _; (with_reducible repeat (first | refine blk_drewN ?_ _ | refine blk_drew ?_ | refine blk_alloc ?_ _)); refine blk_far ?_ NB197_205.out _; (with_reducible repeat (first | refine blk_drewN ?_ _ | refine blk_drew ?_ | refine blk_alloc ?_ _)); exact BK197.out⟩, ⟨by (with_reducible repeat (first | refine blk_drewN ?_ _ | refine blk_drew ?_ | refine blk_alloc ?_ _)); refine blk_put (cs := #[.slice Ao23 t199.length co23, .slice none 0 0]) ?_ 1 _ rfl; (with_reducible repeat (first | refine blk_drewN ?_ _ | refine blk_drew ?_ | refine blk_alloc ?_ _)); refine blk_put (cs := #[.slice none 0 0, .slice none 0 0]) ?_ 0 _ rfl; (with_reducible repeat (first | refine blk_drewN ?_ _ | refine blk_drew ?_ | refine blk_alloc ?_ _)); exact BK205.out⟩, ⟨Rgn.bq HB.out⟩⟩
        case round =>
          clear H'
          try clear c1
          try clear c2
          try clear p2
          try clear c4
          try clear c7
          try clear c8
          try clear c9
          try clear c12
          try clear c15
          try clear c16
          try clear c19
          try clear c24
          try clear c25
          try clear hcz10_0
          try clear hcz10_1
          try clear hcz13_0
          try clear hcz13_1
          try clear hcz17_0
          try clear hcz17_1
          try clear hcz20_0
          try clear hcz20_1
          try clear hcz26_0
          try clear hcz26_1
          try clear hfz10_0
          try clear hfz10_1
          try clear hfz13_0
          try clear hfz13_1
          try clear hfz17_0
          try clear hfz17_1
          try clear hfz20_0
          try clear hfz20_1
          try clear hfz26_0
          try clear hfz26_1
          try clear p2
          obtain ⟨x23_2, x206000_2, x206001_2, u206000, u206001, rfl, HA, HK2, HO_206000, HO_206001, BK196, BK197, BK205, HB⟩ := hrel
          cases gk with
          | zero => exact absurd HA.out (by simp [impl_DiskDo.l0])
          | succ k2 =>
            have H := HA.out
            clear HA
            simp only [impl_DiskDo.l0] at H
            by_cases c28 : x23_2 < (l1.length : Int)
            · rw [if_pos c28] at H
              have c28b0 : decide (x23_2 < (l1.length : Int)) = true := decide_eq_true c28
              clear c28
              by_cases c29 : 0 ≤ x23_2
              · rw [if_pos c29] at H
                have c29b0 : decide (0 ≤ x23_2) = true := decide_eq_true c29
                clear c29
                by_cases c30 : x23_2 < (l1.length : Int)
                · rw [if_pos c30] at H
                  have c30b0 : decide (x23_2 < (l1.length : Int)) = true := decide_eq_true c30
                  clear c30
                  have HC31 := Aside0.mk H
                  clear H
                  have p206 : 0 ≤ (x23_2 : Int) := of_decide_eq_true (by first | (with_reducible assumption) | assumption)
                  have q206 : x23_2 < (l1.length : Int) := of_decide_eq_true (by first | (with_reducible assumption) | assumption)
                  obtain ⟨ad206, A206_2, c206_2, e206, hx206_0, hx206_1, hx206_2, hl206_2, hi206_2⟩ := at_T93 HR1.out x23_2 p206 q206
                  cases e206
                  replace hx206_0 := (HB.out.cell (World.block_lt_of_cell? w _ hx206_0)).trans hx206_0
                  replace hx206_1 := (HB.out.cell (World.block_lt_of_cell? w _ hx206_1)).trans hx206_1
                  replace hx206_2 := (HB.out.cell (World.block_lt_of_cell? w _ hx206_2)).trans hx206_2
                  have HR206_2 := Aside0.mk hi206_2
                  have HC206_2 := Aside0.mk hl206_2
                  clear hi206_2 hl206_2
                  replace p206 := eq_true p206
                  replace q206 := eq_true q206
                  go_upto_region 7 with (first | ((with_reducible refine gate_dst (N := 9) rfl ?_); (try (refine gate_guard (by rfl) ?_; dsimp only)); refine box_event ?hg (N := 9) ?hd (cs := #[.int .i64 0, .int .i64 0, .slice none 0 0]) (t := 93) ?hr ?_; (case hd => rfl); (case hg => rfl); (case hr => first | (go_simp; done) | (go_simp; rfl)); intro gb207 hg w32 hbox hb; have n0_ := Aside0.mk (Kd.R_below (Rgn.rq HO_206000.out) hb); have n1_ := Aside0.mk (Kd.S_below (Kd.S_elderB (by (with_reducible repeat (first | apply Kd.S_alloc | apply Kd.S_drewN | apply Kd.S_drew)); exact HO_206001.out) gb207 (Nat.le_of_eq hg.symm)) hb); have n2_ := Aside0.mk (Rgn.bb BK196.out hb); have n3_ := Aside0.mk (Rgn.bb BK197.out hb); have n4_ := Aside0.mk (Rgn.bb BK205.out hb); have n5_ := Aside0.mk (below_step (Rgn.bq HB.out) hb); have n6_ := Aside0.mk (hbox); have n7_ := Aside0.mk ((by rw [hg]; exact (below_size (Rgn.bq HB.out)) : w.heap.size ≤ gb207)); have n8_ := Aside0.mk ((by rw [hg]; exact (below_size (Rgn.bq HB.out)) : w.heap.size ≤ gb207)); have n9_ := Aside0.mk ((by rw [hg]; exact Nat.ne_of_lt (blk_lt (g := gb196) (o := .cells #[.slice A0_0 l0_0.length c0_0, .slice A0_1 l0_1.length c0_1] 29 (0, 0)) (Rgn.kb BK196.out)) : gb196 ≠ gb207)); have n10_ := Aside0.mk ((by rw [hg]; exact Nat.ne_of_gt (blk_lt (g := gb196) (o := .cells #[.slice A0_0 l0_0.length c0_0, .slice A0_1 l0_1.length c0_1] 29 (0, 0)) (Rgn.kb BK196.out)) : gb207 ≠ gb196)); have n11_ := Aside0.mk ((by rw [hg]; exact Nat.ne_of_lt (blk_lt (g := gb197) (o := .cells #[.slice none 0 0, .slice none 0 0] 29 (0, 0)) (Rgn.kb BK197.out)) : gb197 ≠ gb207)); have n12_ := Aside0.mk ((by rw [hg]; exact Nat.ne_of_gt (blk_lt (g := gb197) (o := .cells #[.slice none 0 0, .slice none 0 0] 29 (0, 0)) (Rgn.kb BK197.out)) : gb207 ≠ gb197)); have n13_ := Aside0.mk ((by rw [hg]; exact Nat.ne_of_lt (blk_lt (g := gb205) (o := .cells #[u206000, u206001] 29 (0, 0)) (Rgn.kb BK205.out)) : gb205 ≠ gb207)); have n14_ := Aside0.mk ((by rw [hg]; exact Nat.ne_of_gt (blk_lt (g := gb205) (o := .cells #[u206000, u206001] 29 (0, 0)) (Rgn.kb BK205.out)) : gb207 ≠ gb205)); clear HO_206000; clear HO_206001; clear BK196; clear BK197; clear BK205; clear HB; have HO_206000 := n0_; have HO_206001 := n1_; have BK196 := n2_; have BK197 := n3_; have BK205 := n4_; have HB := n5_; have BK207 := n6_; have GW207 := n7_; have GE207 := n8_; have NB196_207 := n9_; have NB207_196 := n10_; have NB197_207 := n11_; have NB207_197 := n12_; have NB205_207 := n13_; have NB207_205 := n14_; clear n0_ n1_ n2_ n3_ n4_ n5_ n6_ n7_ n8_ n9_ n10_ n11_ n12_ n13_ n14_; clear hb hbox hg; have hnb33 := NB207_196.out; have hnc33 := NB196_207.out; have hnb34 := NB207_197.out; have hnc34 := NB197_207.out; have hnb35 := NB207_205.out; have hnc35 := NB205_207.out; have hcz36_0 : w32.cell? ⟨gb207, 0, none⟩ = some (.int .i64 0) := (blk_cell BK207.out 0).trans rfl; have hcz36_1 : w32.cell? ⟨gb207, 1, none⟩ = some (.int .i64 0) := (blk_cell BK207.out 1).trans rfl; have hcz36_2 : w32.cell? ⟨gb207, 2, none⟩ = some (.slice none 0 0) := (blk_cell BK207.out 2).trans rfl; have hfz36_0 := blk_frozen BK207.out 0; have hfz36_1 := blk_frozen BK207.out 1; have hfz36_2 := blk_frozen BK207.out 2))
                  (try simp only [Act.put, List.setIfInBounds_toArray, List.set_cons_zero, List.set_cons_succ])
                  go_cut [34] (fun v34 wc => ∃ (kq : Nat) (x34_30 : Bool), v34 = .bool x34_30 ∧ Aside0 (impl_DiskDo.j2 kq a2 l1 (l1.length : Int) x23_2 x34_30 x206000_2 x206001_2 ((rd_T93 l1 x23_2).f0) ((rd_T93 l1 x23_2).f1) ((rd_T93 l1 x23_2).f2) = some (r1, r2)) ∧ Aside0 (kq ≤ k2) ∧ Aside0 (Kd.R (Kd.int .u8) 5 wc w.heap.size (fun k_ => (w.heap.size ≤ k_)) u206000 x206000_2) ∧ Aside0 (Kd.S k62 62 wc w.heap.size (fun k_ => (w.heap.size ≤ k_) ∧ some k_ ≠ (u206000 : Value).ownBlock ∧ k_ ≠ gb196 ∧ k_ ≠ gb197 ∧ k_ ≠ gb205 ∧ k_ ≠ gb207) u206001 x206001_2) ∧ Aside0 (wc.heap[gb196]? = some (.cells #[(.slice A0_0 l0_0.length c0_0), (.slice A0_1 l0_1.length c0_1)] 29 (0, 0))) ∧ Aside0 (wc.heap[gb197]? = some (.cells #[(.slice none 0 0), (.slice none 0 0)] 29 (0, 0))) ∧ Aside0 (wc.heap[gb205]? = some (.cells #[u206000, u206001] 29 (0, 0))) ∧ Aside0 (wc.heap[gb207]? = some (.cells #[.int .i64 ((rd_T93 l1 x23_2).f0), .int .i64 ((rd_T93 l1 x23_2).f1), (.slice A206_2 ((rd_T93 l1 x23_2).f2).length c206_2)] 93 (0, 0))) ∧ Aside0 (Below w.heap.size w wc))
                  case first =>
                    have H := HC31.out
                    clear HC31
                    by_cases c37 : a2 ≥ 0
                    · rw [if_pos c37] at H
                      have c37b0 : decide (0 ≤ a2) = true := decide_eq_true c37
                      clear c37
                      (first | rw [c37b0] | (simp only [i64_w, i32_w]; rw [c37b0]) | skip)
                      have H' := Aside0.mk H
                      clear H
                      go_wp2
                      go_meet
                      case rel => exact ⟨_, (decide (x23_2 ≥ a2)), (by first | rfl | (simp; done) | (simp [*]; done)), H', ⟨by have := HJ3.out; have := HK2.out; first | omega | exact Nat.le_refl _⟩, ⟨by (with_reducible repeat (first | apply Kd.R_alloc | apply Kd.R_drewN | apply Kd.R_drew)); exact Kd.R_mono (Kd.R_far (p := ⟨gb207, 2, none⟩) (Kd.R_far (p := ⟨gb207, 1, none⟩) (Kd.R_far (p := ⟨gb207, 0, none⟩) (Kd.R_types HO_206000.out BK207.out (by decide)) (fun _ hk => hk.2) (.int .i64 ((rd_T93 l1 x23_2).f0))) (fun _ hk => hk.2) (.int .i64 ((rd_T93 l1 x23_2).f1))) (fun _ hk => hk.2) (.slice A206_2 ((rd_T93 l1 x23_2).f2).length c206_2)) (fun _ hk => hk.1)⟩, ⟨by (with_reducible repeat (first | apply Kd.S_alloc | apply Kd.S_drewN | apply Kd.S_drew)); exact Kd.S_mono (Kd.S_far (p := ⟨gb207, 2, none⟩) (Kd.S_far (p := ⟨gb207, 1, none⟩) (Kd.S_far (p := ⟨gb207, 0, none⟩) (Kd.S_mono HO_206001.out (fun k_ hk => (⟨hk, hk.2⟩ : _ ∧ k_ ≠ gb207))) (fun _ hk => hk.2) (.int .i64 ((rd_T93 l1 x23_2).f0))) (fun _ hk => hk.2) (.int .i64 ((rd_T93 l1 x23_2).f1))) (fun _ hk => hk.2) (.slice A206_2 ((rd_T93 l1 x23_2).f2).length c206_2)) (fun _ hk => ⟨hk.1.1.1, ⟨hk.1.1.2.1, ⟨hk.1.1.2.2.1, ⟨hk.1.1.2.2.2.1, ⟨hk.1.1.2.2.2.2, hk.1.2⟩⟩⟩⟩⟩)⟩, ⟨by (with_reducible repeat (first | refine blk_drewN ?_ _ | refine blk_drew ?_ | refine blk_alloc ?_ _)); refine blk_far ?_ NB196_207.out _; (with_reducible repeat (first | refine blk_drewN ?_ _ | refine blk_drew ?_ | refine blk_alloc ?_ _)); refine blk_far ?_ NB196_207.out _; (with_reducible repeat (first | refine blk_drewN ?_ _ | refine blk_drew ?_ | refine blk_alloc ?_ _)); refine blk_far ?_ NB196_207.out _; (with_reducible repeat (first | refine blk_drewN ?_ _ | refine blk_drew ?_ | refine blk_alloc ?_ _)); exact BK196.out⟩, ⟨by (with_reducible repeat (first | refine blk_drewN ?_ _ | refine blk_drew ?_ | refine blk_alloc ?_ _)); refine blk_far ?_ NB197_207.out _; (with_reducible repeat (first | refine blk_drewN ?_ _ | refine blk_drew ?_ | refine blk_alloc ?_ _)); refine blk_far ?_ NB197_207.out _; (with_reducible repeat (first | refine blk_drewN ?_ _ | refine blk_drew ?_ | refine blk_alloc ?_ _)); refine blk_far ?_ NB197_207.out _; (with_reducible repeat (first | refine blk_drewN ?_ _ | refine blk_drew ?_ | refine blk_alloc ?_ _)); exact BK197.out⟩, ⟨by (with_reducible repeat (first | refine blk_drewN ?_ _ | refine blk_drew ?_ | refine blk_alloc ?_ _)); refine blk_far ?_ NB205_207.out _; (with_reducible repeat (first | refine blk_drewN ?_ _ | refine blk_drew ?_ | refine blk_alloc ?_ _)); refine blk_far ?_ NB205_207.out _; (with_reducible repeat (first | refine blk_drewN ?_ _ | refine blk_drew ?_ | refine blk_alloc ?_ _)); refine blk_far ?_ NB205_207.out _; (with_reducible repeat (first | refine blk_drewN ?_ _ | refine blk_drew ?_ | refine blk_alloc ?_ _)); exact BK205.out⟩, ⟨by (with_reducible repeat (first | refine blk_drewN ?_ _ | refine blk_drew ?_ | refine blk_alloc ?_ _)); refine blk_put (cs := #[.int .i64 ((rd_T93 l1 x23_2).f0), .int .i64 ((rd_T93 l1 x23_2).f1), .slice none 0 0]) ?_ 2 _ rfl; (with_reducible repeat (first | refine blk_drewN ?_ _ | refine blk_drew ?_ | refine blk_alloc ?_ _)); refine blk_put (cs := #[.int .i64 ((rd_T93 l1 x23_2).f0), .int .i64 0, .slice none 0 0]) ?_ 1 _ rfl; (with_reducible repeat (first | refine blk_drewN ?_ _ | refine blk_drew ?_ | refine blk_alloc ?_ _)); refine blk_put (cs := #[.int .i64 0, .int .i64 0, .slice none 0 0]) ?_ 0 _ rfl; (with_reducible repeat (first | refine blk_drewN ?_ _ | refine blk_drew ?_ | refine blk_alloc ?_ _)); exact BK207.out⟩, ⟨Rgn.bq HB.out⟩⟩
                    · rw [if_neg c37] at H
                      have c37b0 : decide (0 ≤ a2) = false := decide_eq_false c37
                      clear c37
                      (first | rw [c37b0] | (simp only [i64_w, i32_w]; rw [c37b0]) | skip)
                      have H' := Aside0.mk H
                      clear H
                      go_wp2
                      go_meet
                      case rel => exact ⟨_, (false), (by first | rfl | (simp; done) | (simp [*]; done)), H', ⟨by have := HJ3.out; have := HK2.out; first | omega | exact Nat.le_refl _⟩, ⟨by (with_reducible repeat (first | apply Kd.R_alloc | apply Kd.R_drewN | apply Kd.R_drew)); exact Kd.R_mono (Kd.R_far (p := ⟨gb207, 2, none⟩) (Kd.R_far (p := ⟨gb207, 1, none⟩) (Kd.R_far (p := ⟨gb207, 0, none⟩) (Kd.R_types HO_206000.out BK207.out (by decide)) (fun _ hk => hk.2) (.int .i64 ((rd_T93 l1 x23_2).f0))) (fun _ hk => hk.2) (.int .i64 ((rd_T93 l1 x23_2).f1))) (fun _ hk => hk.2) (.slice A206_2 ((rd_T93 l1 x23_2).f2).length c206_2)) (fun _ hk => hk.1)⟩, ⟨by (with_reducible repeat (first | apply Kd.S_alloc | apply Kd.S_drewN | apply Kd.S_drew)); exact Kd.S_mono (Kd.S_far (p := ⟨gb207, 2, none⟩) (Kd.S_far (p := ⟨gb207, 1, none⟩) (Kd.S_far (p := ⟨gb207, 0, none⟩) (Kd.S_mono HO_206001.out (fun k_ hk => (⟨hk, hk.2⟩ : _ ∧ k_ ≠ gb207))) (fun _ hk => hk.2) (.int .i64 ((rd_T93 l1 x23_2).f0))) (fun _ hk => hk.2) (.int .i64 ((rd_T93 l1 x23_2).f1))) (fun _ hk => hk.2) (.slice A206_2 ((rd_T93 l1 x23_2).f2).length c206_2)) (fun _ hk => ⟨hk.1.1.1, ⟨hk.1.1.2.1, ⟨hk.1.1.2.2.1, ⟨hk.1.1.2.2.2.1, ⟨hk.1.1.2.2.2.2, hk.1.2⟩⟩⟩⟩⟩)⟩, ⟨by (with_reducible repeat (first | refine blk_drewN ?_ _ | refine blk_drew ?_ | refine blk_alloc ?_ _)); refine blk_far ?_ NB196_207.out _; (with_reducible repeat (first | refine blk_drewN ?_ _ | refine blk_drew ?_ | refine blk_alloc ?_ _)); refine blk_far ?_ NB196_207.out _; (with_reducible repeat (first | refine blk_drewN ?_ _ | refine blk_drew ?_ | refine blk_alloc ?_ _)); refine blk_far ?_ NB196_207.out _; (with_reducible repeat (first | refine blk_drewN ?_ _ | refine blk_drew ?_ | refine blk_alloc ?_ _)); exact BK196.out⟩, ⟨by (with_reducible repeat (first | refine blk_drewN ?_ _ | refine blk_drew ?_ | refine blk_alloc ?_ _)); refine blk_far ?_ NB197_207.out _; (with_reducible repeat (first | refine blk_drewN ?_ _ | refine blk_drew ?_ | refine blk_alloc ?_ _)); refine blk_far ?_ NB197_207.out _; (with_reducible repeat (first | refine blk_drewN ?_ _ | refine blk_drew ?_ | refine blk_alloc ?_ _)); refine blk_far ?_ NB197_207.out _; (with_reducible repeat (first | refine blk_drewN ?_ _ | refine blk_drew ?_ | refine blk_alloc ?_ _)); exact BK197.out⟩, ⟨by (with_reducible repeat (first | refine blk_drewN ?_ _ | refine blk_drew ?_ | refine blk_alloc ?_ _)); refine blk_far ?_ NB205_207.out _; (with_reducible repeat (first | refine blk_drewN ?_ _ | refine blk_drew ?_ | refine blk_alloc ?_ _)); refine blk_far ?_ NB205_207.out _; (with_reducible repeat (first | refine blk_drewN ?_ _ | refine blk_drew ?_ | refine blk_alloc ?_ _)); refine blk_far ?_ NB205_207.out _; (with_reducible repeat (first | refine blk_drewN ?_ _ | refine blk_drew ?_ | refine blk_alloc ?_ _)); exact BK205.out⟩, ⟨by (with_reducible repeat (first | refine blk_drewN ?_ _ | refine blk_drew ?_ | refine blk_alloc ?_ _)); refine blk_put (cs := #[.int .i64 ((rd_T93 l1 x23_2).f0), .int .i64 ((rd_T93 l1 x23_2).f1), .slice none 0 0]) ?_ 2 _ rfl; (with_reducible repeat (first | refine blk_drewN ?_ _ | refine blk_drew ?_ | refine blk_alloc ?_ _)); refine blk_put (cs := #[.int .i64 ((rd_T93 l1 x23_2).f0), .int .i64 0, .slice none 0 0]) ?_ 1 _ rfl; (with_reducible repeat (first | refine blk_drewN ?_ _ | refine blk_drew ?_ | refine blk_alloc ?_ _)); refine blk_put (cs := #[.int .i64 0, .int .i64 0, .slice none 0 0]) ?_ 0 _ rfl; (with_reducible repeat (first | refine blk_drewN ?_ _ | refine blk_drew ?_ | refine blk_alloc ?_ _)); exact BK207.out⟩, ⟨Rgn.bq HB.out⟩⟩
                  case rest =>
                    clear HC31
                    try clear c1
                    try clear c2
                    try clear p2
                    try clear q2
                    try clear hx2
                    try clear c3
                    try clear c4
                    try clear c7
                    try clear c8
                    try clear c9
                    try clear c12
                    try clear c15
                    try clear c16
                    try clear c19
                    try clear c20
                    try clear p20
                    try clear q20
                    try clear hx20
                    try clear c24
                    try clear c25
                    try clear c28
                    try clear c28b0
                    try clear c29
                    try clear c29b0
                    try clear c30
                    try clear c30b0
                    try clear c33
                    try clear c34
                    try clear c35
                    try clear c37
                    try clear c37b0
                    try clear hcz10_0
                    try clear hcz10_1
                    try clear hcz13_0
                    try clear hcz13_1
                    try clear hcz17_0
                    try clear hcz17_1
                    try clear hcz20_0
                    try clear hcz20_1
                    try clear hcz26_0
                    try clear hcz26_1
                    try clear hcz36_0
                    try clear hcz36_1
                    try clear hcz36_2
                    try clear hfz10_0
                    try clear hfz10_1
                    try clear hfz13_0
                    try clear hfz13_1
                    try clear hfz17_0
                    try clear hfz17_1
                    try clear hfz20_0
                    try clear hfz20_1
                    try clear hfz26_0
                    try clear hfz26_1
                    try clear hfz36_0
                    try clear hfz36_1
                    try clear hfz36_2
                    try clear hx206_0
                    try clear hx206_1
                    try clear hx206_2
                    try clear p2
                    try clear p206
                    try clear q206
                    obtain ⟨kq, x34_30, rfl, HA, HJ30, HO_206000, HO_206001, BK196, BK197, BK205, BK207, HB⟩ := hcut
                    cases kq with
                    | zero => exact absurd HA.out (by simp [impl_DiskDo.j2])
                    | succ kj30 =>
                      have H := HA.out
                      clear HA
                      simp only [impl_DiskDo.j2] at H
                      by_cases c38 : x34_30 = true
                      · subst c38
                        have H1 : (some (x206000_2, x206001_2)) = some (r1, r2) := by rw [if_pos rfl] at H; exact H
                        clear H
                        have H := H1
                        clear H1
                        simp only [Option.some.injEq, Prod.mk.injEq] at H
                        obtain ⟨rfl, rfl⟩ := H
                        have hnb39 := NB205_196.out
                        have hnc39 := NB196_205.out
                        have hnb40 := NB205_197.out
                        have hnc40 := NB197_205.out
                        have hnb41 := NB205_207.out
                        have hnc41 := NB207_205.out
                        have hcz42_0 : wc.cell? ⟨gb205, 0, none⟩ = some (u206000) := (blk_cell BK205.out 0).trans rfl
                        have hcz42_1 : wc.cell? ⟨gb205, 1, none⟩ = some (u206001) := (blk_cell BK205.out 1).trans rfl
                        have hfz42_0 := blk_frozen BK205.out 0
                        have hfz42_1 := blk_frozen BK205.out 1
                        obtain ⟨Ao43, co43, eo43⟩ := Kd.R_slice HO_206000.out
                        subst eo43
                        have hnb44 := NB197_196.out
                        have hnc44 := NB196_197.out
                        have hnb45 := NB197_207.out
                        have hnc45 := NB207_197.out
                        have hcz46_0 : wc.cell? ⟨gb197, 0, none⟩ = some (.slice none 0 0) := (blk_cell BK197.out 0).trans rfl
                        have hcz46_1 : wc.cell? ⟨gb197, 1, none⟩ = some (.slice none 0 0) := (blk_cell BK197.out 1).trans rfl
                        have hfz46_0 := blk_frozen BK197.out 0
                        have hfz46_1 := blk_frozen BK197.out 1
                        obtain ⟨Ao47, co47, eo47⟩ := Kd.S_slice HO_206001.out
                        subst eo47
                        go_wp2
                        refine bodyPost_ret (results_cell_row rfl _ _ gb197 29 #[.slice Ao43 x206000_2.length co43, .slice Ao47 x206001_2.length co47] (0, 0) _ rfl (by (with_reducible repeat (first | refine blk_drewN ?_ _ | refine blk_drew ?_ | refine blk_alloc ?_ _)); refine blk_put (cs := #[.slice Ao43 x206000_2.length co43, .slice none 0 0]) ?_ 1 _ rfl; (with_reducible repeat (first | refine blk_drewN ?_ _ | refine blk_drew ?_ | refine blk_alloc ?_ _)); refine blk_put (cs := #[.slice none 0 0, .slice none 0 0]) ?_ 0 _ rfl; (with_reducible repeat (first | refine blk_drewN ?_ _ | refine blk_drew ?_ | refine blk_alloc ?_ _)); exact BK197.out) Try.underlying29 rfl (by kernel_rfl)) rfl ?_
                        exact ⟨_, _, by first | rfl | (simp [errW_none, errW_some] <;> rfl) | (simp [*, errW_none, errW_some] <;> rfl), by (with_reducible repeat (first | apply Kd.R_alloc | apply Kd.R_drewN | apply Kd.R_drew)); exact Kd.R_mono (Kd.R_far (p := ⟨gb197, 1, none⟩) (Kd.R_far (p := ⟨gb197, 0, none⟩) (Kd.R_types HO_206000.out BK197.out (by decide)) (fun _ hk => hk.2) (.slice Ao43 x206000_2.length co43)) (fun _ hk => hk.2) (.slice Ao47 x206001_2.length co47)) (fun _ hk => hk.1), by (with_reducible repeat (first | apply Kd.S_alloc | apply Kd.S_drewN | apply Kd.S_drew)); exact Kd.S_mono (Kd.S_far (p := ⟨gb197, 1, none⟩) (Kd.S_far (p := ⟨gb197, 0, none⟩) (Kd.S_mono HO_206001.out (fun k_ hk => (⟨hk, hk.2.2.2.1⟩ : _ ∧ k_ ≠ gb197))) (fun _ hk => hk.2) (.slice Ao43 x206000_2.length co43)) (fun _ hk => hk.2) (.slice Ao47 x206001_2.length co47)) (fun _ hk => ⟨hk.1.1, hk.1.2.1⟩), Rgn.bq HB.out⟩
                      · replace c38 := Bool.eq_false_iff.mpr c38
                        subst c38
                        have H1 : ((impl_do.f kj30 x206000_2 x206001_2 ((rd_T93 l1 x23_2).f0) ((rd_T93 l1 x23_2).f1) ((rd_T93 l1 x23_2).f2)).bind fun bt208 => (if bt208.2.2 = true then (impl_DiskDo.l0 kj30 a2 l1 (l1.length : Int) (wrap64 (x23_2 + 1)) bt208.1 bt208.2.1) else (some (([] : List Int), ([] : List (S62)))))) = some (r1, r2) := by rw [if_neg (show ¬ (false = true) by decide)] at H; exact H
                        clear H
                        have H := H1
                        clear H1
                        replace H := Option.bind_eq_some_iff.mp H
                        obtain ⟨⟨t208, t211, t214⟩, A480, H⟩ := H
                        replace H : (if t214 = true then (impl_DiskDo.l0 kj30 a2 l1 (l1.length : Int) (wrap64 (x23_2 + 1)) t208 t211) else (some (([] : List Int), ([] : List (S62))))) = some (r1, r2) := H
                        have A48 := Aside0.mk A480
                        clear A480
                        by_cases c49 : t214 = true
                        · subst c49
                          have H1 : (impl_DiskDo.l0 kj30 a2 l1 (l1.length : Int) (wrap64 (x23_2 + 1)) t208 t211) = some (r1, r2) := by rw [if_pos rfl] at H; exact H
                          clear H
                          have H := H1
                          clear H1
                          have H' := Aside0.mk H
                          clear H
                          have hnb50 := NB207_196.out
                          have hnc50 := NB196_207.out
                          have hnb51 := NB207_197.out
                          have hnc51 := NB197_207.out
                          have hnb52 := NB207_205.out
                          have hnc52 := NB205_207.out
                          have hcz53_0 : wc.cell? ⟨gb207, 0, none⟩ = some (.int .i64 ((rd_T93 l1 x23_2).f0)) := (blk_cell BK207.out 0).trans rfl
                          have hcz53_1 : wc.cell? ⟨gb207, 1, none⟩ = some (.int .i64 ((rd_T93 l1 x23_2).f1)) := (blk_cell BK207.out 1).trans rfl
                          have hcz53_2 : wc.cell? ⟨gb207, 2, none⟩ = some (.slice A206_2 ((rd_T93 l1 x23_2).f2).length c206_2) := (blk_cell BK207.out 2).trans rfl
                          have hfz53_0 := blk_frozen BK207.out 0
                          have hfz53_1 := blk_frozen BK207.out 1
                          have hfz53_2 := blk_frozen BK207.out 2
                          have hnb54 := NB205_196.out
                          have hnc54 := NB196_205.out
                          have hnb55 := NB205_197.out
                          have hnc55 := NB197_205.out
                          have hcz56_0 : wc.cell? ⟨gb205, 0, none⟩ = some (u206000) := (blk_cell BK205.out 0).trans rfl
                          have hcz56_1 : wc.cell? ⟨gb205, 1, none⟩ = some (u206001) := (blk_cell BK205.out 1).trans rfl
                          have hfz56_0 := blk_frozen BK205.out 0
                          have hfz56_1 := blk_frozen BK205.out 1
                          obtain ⟨Ao57, co57, eo57⟩ := Kd.R_slice HO_206000.out
                          subst eo57
                          obtain ⟨Ao58, co58, eo58⟩ := Kd.S_slice HO_206001.out
                          subst eo58
                          go_wp2_with (first | ((with_reducible refine gate_callee (f := 85) rfl ?_); refine Rgn.gl (some 36) Try.func85 #[.pointer (some ⟨gb205, 0, none⟩), .agg #[.int .i64 ((rd_T93 l1 x23_2).f0), .int .i64 ((rd_T93 l1 x23_2).f1), .slice A206_2 ((rd_T93 l1 x23_2).f2).length c206_2]] ?_; (with_reducible refine (impl_do.calls kj30 gb205 (fun k_ => some k_ = (.slice Ao57 x206000_2.length co57 : Value).ownBlock) (.slice Ao57 x206000_2.length co57) x206000_2 (fun k_ => ((w.heap.size ≤ k_) ∧ (some k_ ≠ (.slice Ao57 x206000_2.length co57 : Value).ownBlock ∧ (k_ ≠ gb196 ∧ (k_ ≠ gb197 ∧ (k_ ≠ gb205 ∧ k_ ≠ gb207)))))) Ao58 co58 x206001_2 ((rd_T93 l1 x23_2).f0) ((rd_T93 l1 x23_2).f1) _ _ ((rd_T93 l1 x23_2).f2) t208 t211 true w _ ?side1 ?sg1 ?sg2 ?side2 ?side3 ?side4 ?side5 A48.out).mono ?_); (case side1 => exact Rgn.bq HB.out); (case sg1 => exact GE205.out); (case sg2 => exact Rgn.kb BK205.out); (case side2 => exact Kd.R_tight rfl HO_206000.out); (case side3 => exact Kd.S_mono (HO_206001.out) (fun k_ hk_ => ⟨hk_, hk_.2.1⟩)); (case side4 => exact Kd.C_kept_came (Kd.heap_int .u8) HR206_2.out (Rgn.bq HB.out) (fun k_ hs_ => Or.elim hs_ (fun hs_ => Or.elim hs_ (fun e_ => Kd.R_base HO_206000.out k_ e_.symm) (fun h_ => h_.1)) (fun e_ => by rw [e_]; exact GE205.out))); (case side5 => exact HC206_2.out); rintro e w59 ⟨rfl, v209, v212, hbx, ho0, ho1, hb, hkp⟩; refine ⟨_, rfl, ?_⟩; have n0_ := Aside0.mk trivial; have n1_ := Aside0.mk (blk_kept (Rgn.kb BK196.out) hkp (fun hs_ => Or.elim hs_ (fun hs_ => Or.elim hs_ (fun e_ => (Kd.R_ne HO_206000.out BK196.out (by decide)) e_) (fun h_ => h_.2.2.1 rfl)) (fun e_ => NB196_205.out e_))); have n2_ := Aside0.mk (blk_kept (Rgn.kb BK197.out) hkp (fun hs_ => Or.elim hs_ (fun hs_ => Or.elim hs_ (fun e_ => (Kd.R_ne HO_206000.out BK197.out (by decide)) e_) (fun h_ => h_.2.2.2.1 rfl)) (fun e_ => NB197_205.out e_))); have n3_ := Aside0.mk hbx; have n4_ := Aside0.mk (blk_kept (Rgn.kb BK207.out) hkp (fun hs_ => Or.elim hs_ (fun hs_ => Or.elim hs_ (fun e_ => (Kd.R_ne HO_206000.out BK207.out (by decide)) e_) (fun h_ => h_.2.2.2.2.2 rfl)) (fun e_ => NB207_205.out e_))); have n5_ := Aside0.mk (Kd.R_mono (ok' := fun k_ => (w.heap.size ≤ k_)) ho0 (fun k_ hk_ => Or.elim hk_ (fun hs_ => (HO_206000.out.1 k_ (hs_).symm)) (fun hn_ => (Nat.le_trans (below_size (Rgn.bq HB.out)) hn_)))); have n6_ := Aside0.mk (Kd.S_mono (ok' := fun k_ => (w.heap.size ≤ k_) ∧ some k_ ≠ (v209 : Value).ownBlock ∧ k_ ≠ gb196 ∧ k_ ≠ gb197 ∧ k_ ≠ gb205 ∧ k_ ≠ gb207) ho1 (fun k_ hk_ => ⟨Or.elim hk_.1 (fun hs_ => Or.elim hs_ (fun hs_ => (HO_206000.out.1 k_ (hs_).symm)) (fun hs_ => hs_.1)) (fun hn_ => (Nat.le_trans (below_size (Rgn.bq HB.out)) hn_)), hk_.2, Or.elim hk_.1 (fun hs_ => Or.elim hs_ (fun hs_ => fun e_ => (Kd.R_ne HO_206000.out BK196.out (by decide)) (by rw [← e_]; exact hs_)) (fun hs_ => hs_.2.2.1)) (fun hn_ => (Kd.freshB (g := gb196) (o := .cells #[.slice A0_0 l0_0.length c0_0, .slice A0_1 l0_1.length c0_1] 29 (0, 0)) (Rgn.kb BK196.out) k_ hn_)), Or.elim hk_.1 (fun hs_ => Or.elim hs_ (fun hs_ => fun e_ => (Kd.R_ne HO_206000.out BK197.out (by decide)) (by rw [← e_]; exact hs_)) (fun hs_ => hs_.2.2.2.1)) (fun hn_ => (Kd.freshB (g := gb197) (o := .cells #[.slice none 0 0, .slice none 0 0] 29 (0, 0)) (Rgn.kb BK197.out) k_ hn_)), Or.elim hk_.1 (fun hs_ => Or.elim hs_ (fun hs_ => fun e_ => (Kd.R_ne HO_206000.out BK205.out (by decide)) (by rw [← e_]; exact hs_)) (fun hs_ => hs_.2.2.2.2.1)) (fun hn_ => (Kd.freshB (g := gb205) (o := .cells #[.slice Ao57 x206000_2.length co57, .slice Ao58 x206001_2.length co58] 29 (0, 0)) (Rgn.kb BK205.out) k_ hn_)), Or.elim hk_.1 (fun hs_ => Or.elim hs_ (fun hs_ => fun e_ => (Kd.R_ne HO_206000.out BK207.out (by decide)) (by rw [← e_]; exact hs_)) (fun hs_ => hs_.2.2.2.2.2)) (fun hn_ => (Kd.freshB (g := gb207) (o := .cells #[.int .i64 ((rd_T93 l1 x23_2).f0), .int .i64 ((rd_T93 l1 x23_2).f1), .slice A206_2 ((rd_T93 l1 x23_2).f2).length c206_2] 93 (0, 0)) (Rgn.kb BK207.out) k_ hn_))⟩)); have n7_ := Aside0.mk (hb); clear HO_206001; clear BK196; clear BK197; clear BK205; clear BK207; clear HB; clear HO_206000; have HO_206001 := n0_; have BK196 := n1_; have BK197 := n2_; have BK205 := n3_; have BK207 := n4_; have HO210 := n5_; have HO213 := n6_; have HB := n7_; clear n0_ n1_ n2_ n3_ n4_ n5_ n6_ n7_; (try clear hb); (try clear hkp); (try clear ho0); (try clear ho1); obtain ⟨Ao60, co60, eo60⟩ := Kd.R_slice HO210.out; subst eo60; obtain ⟨Ao62, co62, eo62⟩ := Kd.S_slice HO213.out; subst eo62))
                          go_roundg kj30
                          case measure => have := HJ3.out; have := HK2.out; have := HJ30.out; omega
                          case rel => exact ⟨(wrap64 (x23_2 + 1)), (t208), (t211), (.slice Ao60 t208.length co60), (.slice Ao62 t211.length co62), (by first | rfl | (simp; done) | (simp [*]; done)), H', ⟨by have := HJ3.out; have := HK2.out; have := HJ30.out; omega⟩, ⟨Rgn.rq HO210.out⟩, ⟨by (with_reducible repeat (first | apply Kd.S_alloc | apply Kd.S_drewN | apply Kd.S_drew)); exact Kd.S_mono HO213.out (fun _ hk => ⟨hk.1, hk.2.1, hk.2.2.1, hk.2.2.2.1, hk.2.2.2.2.1⟩)⟩, ⟨Rgn.kb BK196.out⟩, ⟨Rgn.kb BK197.out⟩, ⟨Rgn.kb BK205.out⟩, ⟨Rgn.bq HB.out⟩⟩
                        · replace c49 := Bool.eq_false_iff.mpr c49
                          subst c49
                          have H1 : (some (([] : List Int), ([] : List (S62)))) = some (r1, r2) := by rw [if_neg (show ¬ (false = true) by decide)] at H; exact H
                          clear H
                          have H := H1
                          clear H1
                          simp only [Option.some.injEq, Prod.mk.injEq] at H
                          obtain ⟨rfl, rfl⟩ := H
                          have hnb63 := NB207_196.out
                          have hnc63 := NB196_207.out
                          have hnb64 := NB207_197.out
                          have hnc64 := NB197_207.out
                          have hnb65 := NB207_205.out
                          have hnc65 := NB205_207.out
                          have hcz66_0 : wc.cell? ⟨gb207, 0, none⟩ = some (.int .i64 ((rd_T93 l1 x23_2).f0)) := (blk_cell BK207.out 0).trans rfl
                          have hcz66_1 : wc.cell? ⟨gb207, 1, none⟩ = some (.int .i64 ((rd_T93 l1 x23_2).f1)) := (blk_cell BK207.out 1).trans rfl
                          have hcz66_2 : wc.cell? ⟨gb207, 2, none⟩ = some (.slice A206_2 ((rd_T93 l1 x23_2).f2).length c206_2) := (blk_cell BK207.out 2).trans rfl
                          have hfz66_0 := blk_frozen BK207.out 0
                          have hfz66_1 := blk_frozen BK207.out 1
                          have hfz66_2 := blk_frozen BK207.out 2
                          have hnb67 := NB205_196.out
                          have hnc67 := NB196_205.out
                          have hnb68 := NB205_197.out
                          have hnc68 := NB197_205.out
                          have hcz69_0 : wc.cell? ⟨gb205, 0, none⟩ = some (u206000) := (blk_cell BK205.out 0).trans rfl
                          have hcz69_1 : wc.cell? ⟨gb205, 1, none⟩ = some (u206001) := (blk_cell BK205.out 1).trans rfl
                          have hfz69_0 := blk_frozen BK205.out 0
                          have hfz69_1 := blk_frozen BK205.out 1
                          obtain ⟨Ao70, co70, eo70⟩ := Kd.R_slice HO_206000.out
                          subst eo70
                          obtain ⟨Ao71, co71, eo71⟩ := Kd.S_slice HO_206001.out
                          subst eo71
                          go_wp2_with (first | ((with_reducible refine gate_callee (f := 85) rfl ?_); refine Rgn.gl (some 36) Try.func85 #[.pointer (some ⟨gb205, 0, none⟩), .agg #[.int .i64 ((rd_T93 l1 x23_2).f0), .int .i64 ((rd_T93 l1 x23_2).f1), .slice A206_2 ((rd_T93 l1 x23_2).f2).length c206_2]] ?_; (with_reducible refine (impl_do.calls kj30 gb205 (fun k_ => some k_ = (.slice Ao70 x206000_2.length co70 : Value).ownBlock) (.slice Ao70 x206000_2.length co70) x206000_2 (fun k_ => ((w.heap.size ≤ k_) ∧ (some k_ ≠ (.slice Ao70 x206000_2.length co70 : Value).ownBlock ∧ (k_ ≠ gb196 ∧ (k_ ≠ gb197 ∧ (k_ ≠ gb205 ∧ k_ ≠ gb207)))))) Ao71 co71 x206001_2 ((rd_T93 l1 x23_2).f0) ((rd_T93 l1 x23_2).f1) _ _ ((rd_T93 l1 x23_2).f2) t208 t211 false w _ ?side1 ?sg1 ?sg2 ?side2 ?side3 ?side4 ?side5 A48.out).mono ?_); (case side1 => exact Rgn.bq HB.out); (case sg1 => exact GE205.out); (case sg2 => exact Rgn.kb BK205.out); (case side2 => exact Kd.R_tight rfl HO_206000.out); (case side3 => exact Kd.S_mono (HO_206001.out) (fun k_ hk_ => ⟨hk_, hk_.2.1⟩)); (case side4 => exact Kd.C_kept_came (Kd.heap_int .u8) HR206_2.out (Rgn.bq HB.out) (fun k_ hs_ => Or.elim hs_ (fun hs_ => Or.elim hs_ (fun e_ => Kd.R_base HO_206000.out k_ e_.symm) (fun h_ => h_.1)) (fun e_ => by rw [e_]; exact GE205.out))); (case side5 => exact HC206_2.out); rintro e w72 ⟨rfl, v209, v212, hbx, ho0, ho1, hb, hkp⟩; refine ⟨_, rfl, ?_⟩; have n0_ := Aside0.mk trivial; have n1_ := Aside0.mk (blk_kept (Rgn.kb BK196.out) hkp (fun hs_ => Or.elim hs_ (fun hs_ => Or.elim hs_ (fun e_ => (Kd.R_ne HO_206000.out BK196.out (by decide)) e_) (fun h_ => h_.2.2.1 rfl)) (fun e_ => NB196_205.out e_))); have n2_ := Aside0.mk (blk_kept (Rgn.kb BK197.out) hkp (fun hs_ => Or.elim hs_ (fun hs_ => Or.elim hs_ (fun e_ => (Kd.R_ne HO_206000.out BK197.out (by decide)) e_) (fun h_ => h_.2.2.2.1 rfl)) (fun e_ => NB197_205.out e_))); have n3_ := Aside0.mk hbx; have n4_ := Aside0.mk (blk_kept (Rgn.kb BK207.out) hkp (fun hs_ => Or.elim hs_ (fun hs_ => Or.elim hs_ (fun e_ => (Kd.R_ne HO_206000.out BK207.out (by decide)) e_) (fun h_ => h_.2.2.2.2.2 rfl)) (fun e_ => NB207_205.out e_))); have n5_ := Aside0.mk (Kd.R_mono (ok' := fun k_ => (w.heap.size ≤ k_)) ho0 (fun k_ hk_ => Or.elim hk_ (fun hs_ => (HO_206000.out.1 k_ (hs_).symm)) (fun hn_ => (Nat.le_trans (below_size (Rgn.bq HB.out)) hn_)))); have n6_ := Aside0.mk (Kd.S_mono (ok' := fun k_ => (w.heap.size ≤ k_) ∧ some k_ ≠ (v209 : Value).ownBlock ∧ k_ ≠ gb196 ∧ k_ ≠ gb197 ∧ k_ ≠ gb205 ∧ k_ ≠ gb207) ho1 (fun k_ hk_ => ⟨Or.elim hk_.1 (fun hs_ => Or.elim hs_ (fun hs_ => (HO_206000.out.1 k_ (hs_).symm)) (fun hs_ => hs_.1)) (fun hn_ => (Nat.le_trans (below_size (Rgn.bq HB.out)) hn_)), hk_.2, Or.elim hk_.1 (fun hs_ => Or.elim hs_ (fun hs_ => fun e_ => (Kd.R_ne HO_206000.out BK196.out (by decide)) (by rw [← e_]; exact hs_)) (fun hs_ => hs_.2.2.1)) (fun hn_ => (Kd.freshB (g := gb196) (o := .cells #[.slice A0_0 l0_0.length c0_0, .slice A0_1 l0_1.length c0_1] 29 (0, 0)) (Rgn.kb BK196.out) k_ hn_)), Or.elim hk_.1 (fun hs_ => Or.elim hs_ (fun hs_ => fun e_ => (Kd.R_ne HO_206000.out BK197.out (by decide)) (by rw [← e_]; exact hs_)) (fun hs_ => hs_.2.2.2.1)) (fun hn_ => (Kd.freshB (g := gb197) (o := .cells #[.slice none 0 0, .slice none 0 0] 29 (0, 0)) (Rgn.kb BK197.out) k_ hn_)), Or.elim hk_.1 (fun hs_ => Or.elim hs_ (fun hs_ => fun e_ => (Kd.R_ne HO_206000.out BK205.out (by decide)) (by rw [← e_]; exact hs_)) (fun hs_ => hs_.2.2.2.2.1)) (fun hn_ => (Kd.freshB (g := gb205) (o := .cells #[.slice Ao70 x206000_2.length co70, .slice Ao71 x206001_2.length co71] 29 (0, 0)) (Rgn.kb BK205.out) k_ hn_)), Or.elim hk_.1 (fun hs_ => Or.elim hs_ (fun hs_ => fun e_ => (Kd.R_ne HO_206000.out BK207.out (by decide)) (by rw [← e_]; exact hs_)) (fun hs_ => hs_.2.2.2.2.2)) (fun hn_ => (Kd.freshB (g := gb207) (o := .cells #[.int .i64 ((rd_T93 l1 x23_2).f0), .int .i64 ((rd_T93 l1 x23_2).f1), .slice A206_2 ((rd_T93 l1 x23_2).f2).length c206_2] 93 (0, 0)) (Rgn.kb BK207.out) k_ hn_))⟩)); have n7_ := Aside0.mk (hb); clear HO_206001; clear BK196; clear BK197; clear BK205; clear BK207; clear HB; clear HO_206000; have HO_206001 := n0_; have BK196 := n1_; have BK197 := n2_; have BK205 := n3_; have BK207 := n4_; have HO210 := n5_; have HO213 := n6_; have HB := n7_; clear n0_ n1_ n2_ n3_ n4_ n5_ n6_ n7_; (try clear hb); (try clear hkp); (try clear ho0); (try clear ho1); obtain ⟨Ao73, co73, eo73⟩ := Kd.R_slice HO210.out; subst eo73; obtain ⟨Ao75, co75, eo75⟩ := Kd.S_slice HO213.out; subst eo75; have hnb76 := NB197_196.out; have hnc76 := NB196_197.out; have hcz77_0 : w72.cell? ⟨gb197, 0, none⟩ = some (.slice none 0 0) := (blk_cell BK197.out 0).trans rfl; have hcz77_1 : w72.cell? ⟨gb197, 1, none⟩ = some (.slice none 0 0) := (blk_cell BK197.out 1).trans rfl; have hfz77_0 := blk_frozen BK197.out 0; have hfz77_1 := blk_frozen BK197.out 1))
                          refine bodyPost_ret (results_cell_row rfl _ _ gb197 29 #[.slice none 0 0, .slice none 0 0] (0, 0) _ rfl (by (with_reducible repeat (first | refine blk_drewN ?_ _ | refine blk_drew ?_ | refine blk_alloc ?_ _)); refine blk_put (cs := #[.slice none 0 0, .slice none 0 0]) ?_ 1 _ rfl; (with_reducible repeat (first | refine blk_drewN ?_ _ | refine blk_drew ?_ | refine blk_alloc ?_ _)); refine blk_put (cs := #[.slice none 0 0, .slice none 0 0]) ?_ 0 _ rfl; (with_reducible repeat (first | refine blk_drewN ?_ _ | refine blk_drew ?_ | refine blk_alloc ?_ _)); exact BK197.out) Try.underlying29 rfl (by kernel_rfl)) rfl ?_
                          exact ⟨_, _, by first | rfl | (simp [errW_none, errW_some] <;> rfl) | (simp [*, errW_none, errW_some] <;> rfl), by first | exact Kd.R_nil _ _ _ _ _ | exact Kd.N_nil _ _ _ _ _ | exact Kd.V_nil _ _ _ _ _ | exact Kd.Q_nil _ _ _ _ _ | exact Kd.S_nil _ _ _ _ _, (by first | exact Kd.S_nil _ _ _ _ _ | exact Kd.N_nil _ _ _ _ _ | exact Kd.V_nil _ _ _ _ _ | exact Kd.Q_nil _ _ _ _ _ | exact Kd.R_nil _ _ _ _ _), Rgn.bq HB.out⟩
                · rw [if_neg c30] at H
                  exact absurd H (by simp)
              · rw [if_neg c29] at H
                exact absurd H (by simp)
            · rw [if_neg c28] at H
              have c28b0 : decide (x23_2 < (l1.length : Int)) = false := decide_eq_false c28
              clear c28
              simp only [Option.some.injEq, Prod.mk.injEq] at H
              obtain ⟨rfl, rfl⟩ := H
              have hnb78 := NB205_196.out
              have hnc78 := NB196_205.out
              have hnb79 := NB205_197.out
              have hnc79 := NB197_205.out
              have hcz80_0 : wr.cell? ⟨gb205, 0, none⟩ = some (u206000) := (blk_cell BK205.out 0).trans rfl
              have hcz80_1 : wr.cell? ⟨gb205, 1, none⟩ = some (u206001) := (blk_cell BK205.out 1).trans rfl
              have hfz80_0 := blk_frozen BK205.out 0
              have hfz80_1 := blk_frozen BK205.out 1
              obtain ⟨Ao81, co81, eo81⟩ := Kd.R_slice HO_206000.out
              subst eo81
              have hnb82 := NB197_196.out
              have hnc82 := NB196_197.out
              have hcz83_0 : wr.cell? ⟨gb197, 0, none⟩ = some (.slice none 0 0) := (blk_cell BK197.out 0).trans rfl
              have hcz83_1 : wr.cell? ⟨gb197, 1, none⟩ = some (.slice none 0 0) := (blk_cell BK197.out 1).trans rfl
              have hfz83_0 := blk_frozen BK197.out 0
              have hfz83_1 := blk_frozen BK197.out 1
              obtain ⟨Ao84, co84, eo84⟩ := Kd.S_slice HO_206001.out
              subst eo84
              go_wp2
              refine bodyPost_ret (results_cell_row rfl _ _ gb197 29 #[.slice Ao81 x206000_2.length co81, .slice Ao84 x206001_2.length co84] (0, 0) _ rfl (by (with_reducible repeat (first | refine blk_drewN ?_ _ | refine blk_drew ?_ | refine blk_alloc ?_ _)); refine blk_put (cs := #[.slice Ao81 x206000_2.length co81, .slice none 0 0]) ?_ 1 _ rfl; (with_reducible repeat (first | refine blk_drewN ?_ _ | refine blk_drew ?_ | refine blk_alloc ?_ _)); refine blk_put (cs := #[.slice none 0 0, .slice none 0 0]) ?_ 0 _ rfl; (with_reducible repeat (first | refine blk_drewN ?_ _ | refine blk_drew ?_ | refine blk_alloc ?_ _)); exact BK197.out) Try.underlying29 rfl (by kernel_rfl)) rfl ?_
              exact ⟨_, _, by first | rfl | (simp [errW_none, errW_some] <;> rfl) | (simp [*, errW_none, errW_some] <;> rfl), by (with_reducible repeat (first | apply Kd.R_alloc | apply Kd.R_drewN | apply Kd.R_drew)); exact Kd.R_mono (Kd.R_far (p := ⟨gb197, 1, none⟩) (Kd.R_far (p := ⟨gb197, 0, none⟩) (Kd.R_types HO_206000.out BK197.out (by decide)) (fun _ hk => hk.2) (.slice Ao81 x206000_2.length co81)) (fun _ hk => hk.2) (.slice Ao84 x206001_2.length co84)) (fun _ hk => hk.1), by (with_reducible repeat (first | apply Kd.S_alloc | apply Kd.S_drewN | apply Kd.S_drew)); exact Kd.S_mono (Kd.S_far (p := ⟨gb197, 1, none⟩) (Kd.S_far (p := ⟨gb197, 0, none⟩) (Kd.S_mono HO_206001.out (fun k_ hk => (⟨hk, hk.2.2.2.1⟩ : _ ∧ k_ ≠ gb197))) (fun _ hk => hk.2) (.slice Ao81 x206000_2.length co81)) (fun _ hk => hk.2) (.slice Ao84 x206001_2.length co84)) (fun _ hk => ⟨hk.1.1, hk.1.2.1⟩), Rgn.bq HB.out⟩

/-! ### spec_l1Blocks: function 70 -/
def spec_l1Blocks.f (l0_0 : List Int) (l0_1 : List (S62)) : Option (Int) := some (wrap64 ((l0_0.length : Int) / 64))
set_option maxHeartbeats 8000000 in
set_option maxRecDepth 100000 in
theorem spec_l1Blocks.calls (A0_0 : Option Addr) (c0_0 : Nat) (l0_0 : List Int) (A0_1 : Option Addr) (c0_1 : Nat) (l0_1 : List (S62)) (r : Int) (w : World) (hr0_0 : Kd.C (Kd.int .u8) w A0_0 l0_0.length l0_0) (hc0_0 : l0_0.length ≤ c0_0) (hr0_1 : Kd.C k62 w A0_1 l0_1.length l0_1) (hc0_1 : l0_1.length ≤ c0_1) (h : spec_l1Blocks.f l0_0 l0_1 = some r) :
    Calls Try.prog 70 #[.agg #[.slice A0_0 l0_0.length c0_0, .slice A0_1 l0_1.length c0_1]] w fun e w' => e = .returned (.int .i64 r) ∧ Below w.heap.size w w' := by
  have hu29 := Try.underlying29
  have HR0_0 := Aside0.mk hr0_0
  have HC0_0 := Aside0.mk hc0_0
  clear hr0_0 hc0_0
  have HR0_1 := Aside0.mk hr0_1
  have HC0_1 := Aside0.mk hc0_1
  clear hr0_1 hc0_1
  have HB := Aside0.mk (Below.refl w.heap.size w)
  have H : (some (wrap64 ((l0_0.length : Int) / 64))) = some r := h
  clear h
  obtain rfl := Option.some.inj H
  go_enter Try.func70, Try.ntmps70
  go_wp2_with (first | ((with_reducible refine gate_dst (N := 1) rfl ?_); refine box_event ?hg (N := 1) ?hd (cs := #[.slice A0_0 l0_0.length c0_0, .slice A0_1 l0_1.length c0_1]) (t := 29) ?hr ?_; (case hd => rfl); (case hg => rfl); (case hr => first | (go_simp; done) | (go_simp; rfl)); intro gb215 hg w2 hbox hb; have n0_ := Aside0.mk (below_step (Rgn.bq HB.out) hb); have n1_ := Aside0.mk (hbox); have n2_ := Aside0.mk ((by rw [hg]; exact (below_size (Rgn.bq HB.out)) : w.heap.size ≤ gb215)); have n3_ := Aside0.mk ((by rw [hg]; exact (below_size (Rgn.bq HB.out)) : w.heap.size ≤ gb215)); clear HB; have HB := n0_; have BK215 := n1_; have GW215 := n2_; have GE215 := n3_; clear n0_ n1_ n2_ n3_; clear hb hbox hg; have hcz3_0 : w2.cell? ⟨gb215, 0, none⟩ = some (.slice A0_0 l0_0.length c0_0) := (blk_cell BK215.out 0).trans rfl; have hcz3_1 : w2.cell? ⟨gb215, 1, none⟩ = some (.slice A0_1 l0_1.length c0_1) := (blk_cell BK215.out 1).trans rfl; have hfz3_0 := blk_frozen BK215.out 0; have hfz3_1 := blk_frozen BK215.out 1))
  go_ret
  exact ⟨by first | rfl | (simp [errW_none, errW_some] <;> rfl) | (simp [*, errW_none, errW_some] <;> rfl), Rgn.bq HB.out⟩

end Go.Proofs.Ytdhjhadcadcceaa.PFnExactDiskDo
