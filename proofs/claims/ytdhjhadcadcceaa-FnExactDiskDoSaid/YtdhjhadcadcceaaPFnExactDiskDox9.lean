-- written by a program of this session (wip/src/print2.py)
import Derived.Test.YtdhjhadcadcceaaPFnExactDiskDox0
import Derived.Test.YtdhjhadcadcceaaPFnExactDiskDox7
import Derived.Test.YtdhjhadcadcceaaPFnExactDiskDox8
namespace Go.Proofs.Ytdhjhadcadcceaa.PFnExactDiskDo
open Go.RowKit Go.Proofs.YtdhjhadcadcceaaW.PrintWords Go.Proofs.YtdhjhadcadcceaaW.PrintLast Go.Proofs.YtdhjhadcadcceaaW.PrintMore
attribute [local go_sem] max2_int min2_int max_two min_two max_three min_three max_four min_four   -- for this text's walks alone
set_option linter.unusedVariables false
set_option linter.unusedSimpArgs false

/-! ### spec_DiskDo: function 47 -/
mutual
def spec_DiskDo.j0 : Nat → List (S93) → Int → Bool → List Int → List (S62) → Option (List Int × (List (S62)))
  | 0, _, _, _, _, _ => none
  | k + 1, x1, x2, x18, x258000, x258001 => if x18 = true then (some (([] : List Int), ([] : List (S62)))) else ((spec_l1CopyDisk.f k x258000 x258001).bind fun bt260 => (spec_DiskDo.l0 k x1 x2 0 bt260.1 bt260.2))
def spec_DiskDo.l0 : Nat → List (S93) → Int → Int → List Int → List (S62) → Option (List Int × (List (S62)))
  | 0, _, _, _, _, _ => none
  | k + 1, x1, x2, x8, x267000, x267001 => if x8 < (x1.length : Int) then (if x2 < 0 then (spec_DiskDo.j2 k x1 x2 x8 true x267000 x267001) else (spec_DiskDo.j2 k x1 x2 x8 (decide (x8 < x2)) x267000 x267001)) else (spec_DiskDo.j2 k x1 x2 x8 false x267000 x267001)
def spec_DiskDo.j2 : Nat → List (S93) → Int → Int → Bool → List Int → List (S62) → Option (List Int × (List (S62)))
  | 0, _, _, _, _, _, _ => none
  | k + 1, x1, x2, x8, x34, x267000, x267001 => if x34 = true then (if 0 ≤ x8 then (if x8 < (x1.length : Int) then ((spec_l1Do.f k x267000 x267001 ((rd_T93 x1 x8).f0) ((rd_T93 x1 x8).f1) ((rd_T93 x1 x8).f2)).bind fun bt268 => (if bt268.2.2 = true then (spec_DiskDo.l0 k x1 x2 (wrap64 (x8 + 1)) bt268.1 bt268.2.1) else (some (([] : List Int), ([] : List (S62)))))) else (none)) else (none)) else (some (x267000, x267001))
end
def spec_DiskDo.f (k : Nat) (l0_0 : List Int) (l0_1 : List (S62)) (l1 : List (S93)) (a2 : Int) : Option (List Int × (List (S62))) := (spec_ValidDisk.f k l0_0 l0_1).bind fun t259 => (if t259 = true then (spec_DiskDo.j0 k l1 a2 (decide ((l1.length : Int) > 4000)) l0_0 l0_1) else (spec_DiskDo.j0 k l1 a2 true l0_0 l0_1))
theorem spec_DiskDo.mono_l : ∀ k, (∀ y0 y1 y2 y3 y4, LeO (spec_DiskDo.j0 k y0 y1 y2 y3 y4) (spec_DiskDo.j0 (k + 1) y0 y1 y2 y3 y4)) ∧ (∀ y0 y1 y2 y3 y4, LeO (spec_DiskDo.l0 k y0 y1 y2 y3 y4) (spec_DiskDo.l0 (k + 1) y0 y1 y2 y3 y4)) ∧ (∀ y0 y1 y2 y3 y4 y5, LeO (spec_DiskDo.j2 k y0 y1 y2 y3 y4 y5) (spec_DiskDo.j2 (k + 1) y0 y1 y2 y3 y4 y5))
  | 0 => ⟨fun _ _ _ _ _ r h => by simp [spec_DiskDo.j0] at h, fun _ _ _ _ _ r h => by simp [spec_DiskDo.l0] at h, fun _ _ _ _ _ _ r h => by simp [spec_DiskDo.j2] at h⟩
  | k + 1 => by
    obtain ⟨ih0, ih1, ih2⟩ := spec_DiskDo.mono_l k
    refine ⟨?_, ?_, ?_⟩
    · intro y0 y1 y2 y3 y4
      unfold spec_DiskDo.j0
      repeat' first
      | (with_reducible exact ih0 _ _ _ _ _)
      | (with_reducible exact ih1 _ _ _ _ _)
      | (with_reducible exact ih2 _ _ _ _ _ _)
      | (with_reducible exact spec_ValidDisk.mono _ _ _)
      | (with_reducible exact spec_l1CopyDisk.mono _ _ _)
      | (with_reducible exact spec_l1Do.mono _ _ _ _ _ _)
      | (with_reducible exact LeO.refl _)
      | (with_reducible exact LeO.none _)
      | (with_reducible refine LeO.ite ?_ ?_)
      | (with_reducible refine LeO.bind ?_ (fun _ => ?_))
      | exact ih0 _ _ _ _ _
      | exact ih1 _ _ _ _ _
      | exact ih2 _ _ _ _ _ _
      | exact spec_ValidDisk.mono _ _ _
      | exact spec_l1CopyDisk.mono _ _ _
      | exact spec_l1Do.mono _ _ _ _ _ _
      | exact LeO.none _
      | refine LeO.ite ?_ ?_
      | refine LeO.bind ?_ (fun _ => ?_)
    · intro y0 y1 y2 y3 y4
      unfold spec_DiskDo.l0
      repeat' first
      | (with_reducible exact ih0 _ _ _ _ _)
      | (with_reducible exact ih1 _ _ _ _ _)
      | (with_reducible exact ih2 _ _ _ _ _ _)
      | (with_reducible exact spec_ValidDisk.mono _ _ _)
      | (with_reducible exact spec_l1CopyDisk.mono _ _ _)
      | (with_reducible exact spec_l1Do.mono _ _ _ _ _ _)
      | (with_reducible exact LeO.refl _)
      | (with_reducible exact LeO.none _)
      | (with_reducible refine LeO.ite ?_ ?_)
      | (with_reducible refine LeO.bind ?_ (fun _ => ?_))
      | exact ih0 _ _ _ _ _
      | exact ih1 _ _ _ _ _
      | exact ih2 _ _ _ _ _ _
      | exact spec_ValidDisk.mono _ _ _
      | exact spec_l1CopyDisk.mono _ _ _
      | exact spec_l1Do.mono _ _ _ _ _ _
      | exact LeO.none _
      | refine LeO.ite ?_ ?_
      | refine LeO.bind ?_ (fun _ => ?_)
    · intro y0 y1 y2 y3 y4 y5
      unfold spec_DiskDo.j2
      repeat' first
      | (with_reducible exact ih0 _ _ _ _ _)
      | (with_reducible exact ih1 _ _ _ _ _)
      | (with_reducible exact ih2 _ _ _ _ _ _)
      | (with_reducible exact spec_ValidDisk.mono _ _ _)
      | (with_reducible exact spec_l1CopyDisk.mono _ _ _)
      | (with_reducible exact spec_l1Do.mono _ _ _ _ _ _)
      | (with_reducible exact LeO.refl _)
      | (with_reducible exact LeO.none _)
      | (with_reducible refine LeO.ite ?_ ?_)
      | (with_reducible refine LeO.bind ?_ (fun _ => ?_))
      | exact ih0 _ _ _ _ _
      | exact ih1 _ _ _ _ _
      | exact ih2 _ _ _ _ _ _
      | exact spec_ValidDisk.mono _ _ _
      | exact spec_l1CopyDisk.mono _ _ _
      | exact spec_l1Do.mono _ _ _ _ _ _
      | exact LeO.none _
      | refine LeO.ite ?_ ?_
      | refine LeO.bind ?_ (fun _ => ?_)
theorem spec_DiskDo.mono : ∀ a0 a1 a2 a3 k, LeO (spec_DiskDo.f k a0 a1 a2 a3) (spec_DiskDo.f (k + 1) a0 a1 a2 a3) := by
  intro a0 a1 a2 a3 k
  obtain ⟨ih0, ih1, ih2⟩ := spec_DiskDo.mono_l k
  unfold spec_DiskDo.f
  repeat' first
      | (with_reducible exact ih0 _ _ _ _ _)
      | (with_reducible exact ih1 _ _ _ _ _)
      | (with_reducible exact ih2 _ _ _ _ _ _)
      | (with_reducible exact spec_ValidDisk.mono _ _ _)
      | (with_reducible exact spec_l1CopyDisk.mono _ _ _)
      | (with_reducible exact spec_l1Do.mono _ _ _ _ _ _)
      | (with_reducible exact LeO.refl _)
      | (with_reducible exact LeO.none _)
      | (with_reducible refine LeO.ite ?_ ?_)
      | (with_reducible refine LeO.bind ?_ (fun _ => ?_))
      | exact ih0 _ _ _ _ _
      | exact ih1 _ _ _ _ _
      | exact ih2 _ _ _ _ _ _
      | exact spec_ValidDisk.mono _ _ _
      | exact spec_l1CopyDisk.mono _ _ _
      | exact spec_l1Do.mono _ _ _ _ _ _
      | exact LeO.none _
      | refine LeO.ite ?_ ?_
      | refine LeO.bind ?_ (fun _ => ?_)
def spec_DiskDo.T7 : Bool × List (List Nat × List Nat) := (true, [([], []), ([], []), ([], []), ([1, 2], [1, 2]), ([3], [3]), ([0, 4], [0, 4]), ([5], [5]), ([6], [6]), ([6], [6]), ([], []), ([9, 7, 5, 0, 1, 2, 3, 4, 5, 6, 7, 9], [7, 9]), ([8, 10, 0, 1, 2, 3, 4, 5, 6, 7, 8, 9, 10], [8])])
def spec_DiskDo.B7 : List Nat := [0, 0, 0, 6, 14, 31, 63, 127, 127, 0, 767, 2047]
theorem spec_DiskDo.tab7 : rtab .any (opsOf Try.f47 7) = spec_DiskDo.T7 := by kernel_rfl
theorem spec_DiskDo.bits7 : waitsOk spec_DiskDo.T7.2 spec_DiskDo.B7 = true := by kernel_rfl
set_option maxHeartbeats 8000000 in
set_option maxRecDepth 100000 in
theorem spec_DiskDo.calls (k : Nat) (A0_0 : Option Addr) (c0_0 : Nat) (l0_0 : List Int) (A0_1 : Option Addr) (c0_1 : Nat) (l0_1 : List (S62)) (A1 : Option Addr) (c1 : Nat) (l1 : List (S93)) (a2 : Int) (r1 : List Int) (r2 : List (S62)) (w : World) (hr0_0 : Kd.C (Kd.int .u8) w A0_0 l0_0.length l0_0) (hc0_0 : l0_0.length ≤ c0_0) (hr0_1 : Kd.C k62 w A0_1 l0_1.length l0_1) (hc0_1 : l0_1.length ≤ c0_1) (hr1 : Kd.C k93 w A1 l1.length l1) (hc1 : l1.length ≤ c1) (h : spec_DiskDo.f k l0_0 l0_1 l1 a2 = some (r1, r2)) :
    Calls Try.prog 47 #[.agg #[.slice A0_0 l0_0.length c0_0, .slice A0_1 l0_1.length c0_1], .slice A1 l1.length c1, .int .i64 a2] w fun e w' => ∃ v0_ v1_ : Value, e = .returned (.agg #[v0_, v1_]) ∧ Kd.R (Kd.int .u8) 5 w' w.heap.size (fun k_ => (w.heap.size ≤ k_)) v0_ r1 ∧ Kd.S k62 62 w' w.heap.size (fun k_ => (w.heap.size ≤ k_) ∧ some k_ ≠ (v0_ : Value).ownBlock) v1_ r2 ∧ Below w.heap.size w w' := by
  have hu29 := Try.underlying29
  have hu93 := Try.underlying93
  have HR0_0 := Aside0.mk hr0_0
  have HC0_0 := Aside0.mk hc0_0
  clear hr0_0 hc0_0
  have HR0_1 := Aside0.mk hr0_1
  have HC0_1 := Aside0.mk hc0_1
  clear hr0_1 hc0_1
  have HR1 := Aside0.mk hr1
  have HC1 := Aside0.mk hc1
  clear hr1 hc1
  have HB := Aside0.mk (Below.refl w.heap.size w)
  have H : ((spec_ValidDisk.f k l0_0 l0_1).bind fun t259 => (if t259 = true then (spec_DiskDo.j0 k l1 a2 (decide ((l1.length : Int) > 4000)) l0_0 l0_1) else (spec_DiskDo.j0 k l1 a2 true l0_0 l0_1))) = some (r1, r2) := h
  clear h
  have HC4 := Aside0.mk H
  clear H
  go_enter Try.func47, Try.ntmps47
  go_upto_region 1 with (first | ((with_reducible refine gate_dst (N := 3) rfl ?_); (try (refine gate_guard (by rfl) ?_; dsimp only)); refine box_event ?hg (N := 3) ?hd (cs := #[.slice A0_0 l0_0.length c0_0, .slice A0_1 l0_1.length c0_1]) (t := 29) ?hr ?_; (case hd => rfl); (case hg => rfl); (case hr => first | (go_simp; done) | (go_simp; rfl)); intro gb257 hg w5 hbox hb; have n0_ := Aside0.mk (below_step (Rgn.bq HB.out) hb); have n1_ := Aside0.mk (hbox); have n2_ := Aside0.mk ((by rw [hg]; exact (below_size (Rgn.bq HB.out)) : w.heap.size ≤ gb257)); have n3_ := Aside0.mk ((by rw [hg]; exact (below_size (Rgn.bq HB.out)) : w.heap.size ≤ gb257)); clear HB; have HB := n0_; have BK257 := n1_; have GW257 := n2_; have GE257 := n3_; clear n0_ n1_ n2_ n3_; clear hb hbox hg) | ((with_reducible refine gate_dst (N := 6) rfl ?_); (try (refine gate_guard (by rfl) ?_; dsimp only)); refine box_event ?hg (N := 6) ?hd (cs := #[.slice none 0 0, .slice none 0 0]) (t := 29) ?hr ?_; (case hd => rfl); (case hg => rfl); (case hr => first | (go_simp; done) | (go_simp; rfl)); intro gb258 hg w6 hbox hb; have n0_ := Aside0.mk (Rgn.bb BK257.out hb); have n1_ := Aside0.mk (below_step (Rgn.bq HB.out) hb); have n2_ := Aside0.mk (hbox); have n3_ := Aside0.mk ((by rw [hg]; exact (below_size (Rgn.bq HB.out)) : w.heap.size ≤ gb258)); have n4_ := Aside0.mk ((by rw [hg]; exact (below_size (Rgn.bq HB.out)) : w.heap.size ≤ gb258)); have n5_ := Aside0.mk ((by rw [hg]; exact Nat.ne_of_lt (blk_lt (g := gb257) (o := .cells #[.slice A0_0 l0_0.length c0_0, .slice A0_1 l0_1.length c0_1] 29 (0, 0)) (Rgn.kb BK257.out)) : gb257 ≠ gb258)); have n6_ := Aside0.mk ((by rw [hg]; exact Nat.ne_of_gt (blk_lt (g := gb257) (o := .cells #[.slice A0_0 l0_0.length c0_0, .slice A0_1 l0_1.length c0_1] 29 (0, 0)) (Rgn.kb BK257.out)) : gb258 ≠ gb257)); clear BK257; clear HB; have BK257 := n0_; have HB := n1_; have BK258 := n2_; have GW258 := n3_; have GE258 := n4_; have NB257_258 := n5_; have NB258_257 := n6_; clear n0_ n1_ n2_ n3_ n4_ n5_ n6_; clear hb hbox hg))
  (try simp only [Act.put, List.setIfInBounds_toArray, List.set_cons_zero, List.set_cons_succ])
  go_cut [18] (fun v18 wc => ∃ (kq : Nat) (x18_3 : Bool), v18 = .bool x18_3 ∧ Aside0 (spec_DiskDo.j0 kq l1 a2 x18_3 l0_0 l0_1 = some (r1, r2)) ∧ Aside0 (kq ≤ k) ∧ Aside0 (wc.heap[gb257]? = some (.cells #[(.slice A0_0 l0_0.length c0_0), (.slice A0_1 l0_1.length c0_1)] 29 (0, 0))) ∧ Aside0 (wc.heap[gb258]? = some (.cells #[(.slice none 0 0), (.slice none 0 0)] 29 (0, 0))) ∧ Aside0 (Below w.heap.size w wc))
  case first =>
    have H := HC4.out
    clear HC4
    replace H := Option.bind_eq_some_iff.mp H
    obtain ⟨t259, A70, H⟩ := H
    replace H : (if t259 = true then (spec_DiskDo.j0 k l1 a2 (decide ((l1.length : Int) > 4000)) l0_0 l0_1) else (spec_DiskDo.j0 k l1 a2 true l0_0 l0_1)) = some (r1, r2) := H
    have A7 := Aside0.mk A70
    clear A70
    by_cases c8 : t259 = true
    · subst c8
      have H1 : (spec_DiskDo.j0 k l1 a2 (decide ((l1.length : Int) > 4000)) l0_0 l0_1) = some (r1, r2) := by rw [if_pos rfl] at H; exact H
      clear H
      have H := H1
      clear H1
      have H' := Aside0.mk H
      clear H
      have hnb9 := NB257_258.out
      have hnc9 := NB258_257.out
      have hcz10_0 : w6.cell? ⟨gb257, 0, none⟩ = some (.slice A0_0 l0_0.length c0_0) := (blk_cell BK257.out 0).trans rfl
      have hcz10_1 : w6.cell? ⟨gb257, 1, none⟩ = some (.slice A0_1 l0_1.length c0_1) := (blk_cell BK257.out 1).trans rfl
      have hfz10_0 := blk_frozen BK257.out 0
      have hfz10_1 := blk_frozen BK257.out 1
      go_wp2_with (first | ((with_reducible refine gate_callee (f := 26) rfl ?_); refine Rgn.gl (some 12) Try.func26 #[.agg #[.slice A0_0 l0_0.length c0_0, .slice A0_1 l0_1.length c0_1]] ?_; (with_reducible refine (spec_ValidDisk.calls k _ _ l0_0 _ _ l0_1 true _ ?side1 ?side2 ?side3 ?side4 A7.out).mono ?_); (case side1 => exact Rgn.cq (Kd.C_below HR0_0.out HB.out)); (case side2 => exact HC0_0.out); (case side3 => exact Rgn.cq (Kd.C_below HR0_1.out HB.out)); (case side4 => exact HC0_1.out); rintro e w11 ⟨rfl, hb⟩; refine ⟨_, rfl, ?_⟩; have n0_ := Aside0.mk (Rgn.bb BK257.out hb); have n1_ := Aside0.mk (Rgn.bb BK258.out hb); have n2_ := Aside0.mk (below_step (Rgn.bq HB.out) hb); clear BK257; clear BK258; clear HB; have BK257 := n0_; have BK258 := n1_; have HB := n2_; clear n0_ n1_ n2_; (try clear hb); (try clear hb2); (try clear hk); (try clear hi)))
      go_meet
      case rel => exact ⟨_, (decide ((l1.length : Int) > 4000)), (by first | rfl | (simp; done) | (simp [*]; done)), H', ⟨by first | omega | exact Nat.le_refl _⟩, ⟨Rgn.kb BK257.out⟩, ⟨Rgn.kb BK258.out⟩, ⟨Rgn.bq HB.out⟩⟩
    · replace c8 := Bool.eq_false_iff.mpr c8
      subst c8
      have H1 : (spec_DiskDo.j0 k l1 a2 true l0_0 l0_1) = some (r1, r2) := by rw [if_neg (show ¬ (false = true) by decide)] at H; exact H
      clear H
      have H := H1
      clear H1
      have H' := Aside0.mk H
      clear H
      have hnb12 := NB257_258.out
      have hnc12 := NB258_257.out
      have hcz13_0 : w6.cell? ⟨gb257, 0, none⟩ = some (.slice A0_0 l0_0.length c0_0) := (blk_cell BK257.out 0).trans rfl
      have hcz13_1 : w6.cell? ⟨gb257, 1, none⟩ = some (.slice A0_1 l0_1.length c0_1) := (blk_cell BK257.out 1).trans rfl
      have hfz13_0 := blk_frozen BK257.out 0
      have hfz13_1 := blk_frozen BK257.out 1
      go_wp2_with (first | ((with_reducible refine gate_callee (f := 26) rfl ?_); refine Rgn.gl (some 12) Try.func26 #[.agg #[.slice A0_0 l0_0.length c0_0, .slice A0_1 l0_1.length c0_1]] ?_; (with_reducible refine (spec_ValidDisk.calls k _ _ l0_0 _ _ l0_1 false _ ?side1 ?side2 ?side3 ?side4 A7.out).mono ?_); (case side1 => exact Rgn.cq (Kd.C_below HR0_0.out HB.out)); (case side2 => exact HC0_0.out); (case side3 => exact Rgn.cq (Kd.C_below HR0_1.out HB.out)); (case side4 => exact HC0_1.out); rintro e w14 ⟨rfl, hb⟩; refine ⟨_, rfl, ?_⟩; have n0_ := Aside0.mk (Rgn.bb BK257.out hb); have n1_ := Aside0.mk (Rgn.bb BK258.out hb); have n2_ := Aside0.mk (below_step (Rgn.bq HB.out) hb); clear BK257; clear BK258; clear HB; have BK257 := n0_; have BK258 := n1_; have HB := n2_; clear n0_ n1_ n2_; (try clear hb); (try clear hb2); (try clear hk); (try clear hi)))
      go_meet
      case rel => exact ⟨_, (true), (by first | rfl | (simp; done) | (simp [*]; done)), H', ⟨by first | omega | exact Nat.le_refl _⟩, ⟨Rgn.kb BK257.out⟩, ⟨Rgn.kb BK258.out⟩, ⟨Rgn.bq HB.out⟩⟩
  case rest =>
    clear HC4
    try clear c1
    try clear c2
    try clear p2
    try clear c4
    try clear c8
    try clear c9
    try clear c12
    try clear hcz10_0
    try clear hcz10_1
    try clear hcz13_0
    try clear hcz13_1
    try clear hfz10_0
    try clear hfz10_1
    try clear hfz13_0
    try clear hfz13_1
    obtain ⟨kq, x18_3, rfl, HA, HJ3, BK257, BK258, HB⟩ := hcut
    cases kq with
    | zero => exact absurd HA.out (by simp [spec_DiskDo.j0])
    | succ kj3 =>
      have H := HA.out
      clear HA
      simp only [spec_DiskDo.j0] at H
      by_cases c15 : x18_3 = true
      · subst c15
        have H1 : (some (([] : List Int), ([] : List (S62)))) = some (r1, r2) := by rw [if_pos rfl] at H; exact H
        clear H
        have H := H1
        clear H1
        simp only [Option.some.injEq, Prod.mk.injEq] at H
        obtain ⟨rfl, rfl⟩ := H
        have hnb16 := NB258_257.out
        have hnc16 := NB257_258.out
        have hcz17_0 : wc.cell? ⟨gb258, 0, none⟩ = some (.slice none 0 0) := (blk_cell BK258.out 0).trans rfl
        have hcz17_1 : wc.cell? ⟨gb258, 1, none⟩ = some (.slice none 0 0) := (blk_cell BK258.out 1).trans rfl
        have hfz17_0 := blk_frozen BK258.out 0
        have hfz17_1 := blk_frozen BK258.out 1
        go_wp2
        refine bodyPost_ret (results_cell_row rfl _ _ gb258 29 #[.slice none 0 0, .slice none 0 0] (0, 0) _ rfl (by (with_reducible repeat (first | refine blk_drewN ?_ _ | refine blk_drew ?_ | refine blk_alloc ?_ _)); refine blk_put (cs := #[.slice none 0 0, .slice none 0 0]) ?_ 1 _ rfl; (with_reducible repeat (first | refine blk_drewN ?_ _ | refine blk_drew ?_ | refine blk_alloc ?_ _)); refine blk_put (cs := #[.slice none 0 0, .slice none 0 0]) ?_ 0 _ rfl; (with_reducible repeat (first | refine blk_drewN ?_ _ | refine blk_drew ?_ | refine blk_alloc ?_ _)); exact BK258.out) Try.underlying29 rfl (by kernel_rfl)) rfl ?_
        exact ⟨_, _, by first | rfl | (simp [errW_none, errW_some] <;> rfl) | (simp [*, errW_none, errW_some] <;> rfl), by first | exact Kd.R_nil _ _ _ _ _ | exact Kd.N_nil _ _ _ _ _ | exact Kd.V_nil _ _ _ _ _ | exact Kd.Q_nil _ _ _ _ _ | exact Kd.S_nil _ _ _ _ _, (by first | exact Kd.S_nil _ _ _ _ _ | exact Kd.N_nil _ _ _ _ _ | exact Kd.V_nil _ _ _ _ _ | exact Kd.Q_nil _ _ _ _ _ | exact Kd.R_nil _ _ _ _ _), Rgn.bq HB.out⟩
      · replace c15 := Bool.eq_false_iff.mpr c15
        subst c15
        have H1 : ((spec_l1CopyDisk.f kj3 l0_0 l0_1).bind fun bt260 => (spec_DiskDo.l0 kj3 l1 a2 0 bt260.1 bt260.2)) = some (r1, r2) := by rw [if_neg (show ¬ (false = true) by decide)] at H; exact H
        clear H
        have H := H1
        clear H1
        replace H := Option.bind_eq_some_iff.mp H
        obtain ⟨⟨t260, t263⟩, A180, H⟩ := H
        replace H : (spec_DiskDo.l0 kj3 l1 a2 0 t260 t263) = some (r1, r2) := H
        have A18 := Aside0.mk A180
        clear A180
        have H' := Aside0.mk H
        clear H
        have hnb19 := NB257_258.out
        have hnc19 := NB258_257.out
        have hcz20_0 : wc.cell? ⟨gb257, 0, none⟩ = some (.slice A0_0 l0_0.length c0_0) := (blk_cell BK257.out 0).trans rfl
        have hcz20_1 : wc.cell? ⟨gb257, 1, none⟩ = some (.slice A0_1 l0_1.length c0_1) := (blk_cell BK257.out 1).trans rfl
        have hfz20_0 := blk_frozen BK257.out 0
        have hfz20_1 := blk_frozen BK257.out 1
        go_wp2_with (first | ((with_reducible refine gate_callee (f := 78) rfl ?_); refine Rgn.gl (some 21) Try.func78 #[.agg #[.slice A0_0 l0_0.length c0_0, .slice A0_1 l0_1.length c0_1]] ?_; (with_reducible refine (spec_l1CopyDisk.calls kj3 _ _ l0_0 _ _ l0_1 t260 t263 _ ?side1 ?side2 ?side3 ?side4 A18.out).mono ?_); (case side1 => exact Rgn.cq (Kd.C_below HR0_0.out HB.out)); (case side2 => exact HC0_0.out); (case side3 => exact Rgn.cq (Kd.C_below HR0_1.out HB.out)); (case side4 => exact HC0_1.out); rintro e w21 ⟨v261, v264, rfl, ho0, ho1, hb⟩; refine ⟨_, rfl, ?_⟩; have n0_ := Aside0.mk (Kd.R_lower (Kd.R_newM (M := fun k_ => (w.heap.size ≤ k_)) ho0 (below_size (Rgn.bq HB.out)) (fun k_ h_ => h_)) (below_size (Rgn.bq HB.out))); have n1_ := Aside0.mk (Kd.S_lower (Kd.S_newM (M := fun k_ => (w.heap.size ≤ k_)) ho1 (below_size (Rgn.bq HB.out)) (fun k_ h_ => h_)) (below_size (Rgn.bq HB.out))); have n2_ := Aside0.mk (Rgn.bb BK257.out hb); have n3_ := Aside0.mk (Rgn.bb BK258.out hb); have n4_ := Aside0.mk (below_step (Rgn.bq HB.out) hb); clear BK257; clear BK258; clear HB; have HO262 := n0_; have HO265 := n1_; have BK257 := n2_; have BK258 := n3_; have HB := n4_; clear n0_ n1_ n2_ n3_ n4_; (try clear hb); (try clear hb2); (try clear hk); (try clear hi); (try clear ho0); (try clear ho1)) | ((with_reducible refine gate_dst (N := 7) rfl ?_); (try (refine gate_guard (by rfl) ?_; dsimp only)); refine box_event ?hg (N := 7) ?hd (cs := #[.slice none 0 0, .slice none 0 0]) (t := 29) ?hr ?_; (case hd => rfl); (case hg => rfl); (case hr => first | (go_simp; done) | (go_simp; rfl)); intro gb266 hg w22 hbox hb; have n0_ := Aside0.mk (Kd.R_below (Rgn.rq HO262.out) hb); have n1_ := Aside0.mk (Kd.S_below (Rgn.sq HO265.out) hb); have n2_ := Aside0.mk (Rgn.bb BK257.out hb); have n3_ := Aside0.mk (Rgn.bb BK258.out hb); have n4_ := Aside0.mk (below_step (Rgn.bq HB.out) hb); have n5_ := Aside0.mk (hbox); have n6_ := Aside0.mk ((by rw [hg]; exact (below_size (Rgn.bq HB.out)) : w.heap.size ≤ gb266)); have n7_ := Aside0.mk ((by rw [hg]; exact (below_size (Rgn.bq HB.out)) : w.heap.size ≤ gb266)); have n8_ := Aside0.mk ((by rw [hg]; exact Nat.ne_of_lt (blk_lt (g := gb257) (o := .cells #[.slice A0_0 l0_0.length c0_0, .slice A0_1 l0_1.length c0_1] 29 (0, 0)) (Rgn.kb BK257.out)) : gb257 ≠ gb266)); have n9_ := Aside0.mk ((by rw [hg]; exact Nat.ne_of_gt (blk_lt (g := gb257) (o := .cells #[.slice A0_0 l0_0.length c0_0, .slice A0_1 l0_1.length c0_1] 29 (0, 0)) (Rgn.kb BK257.out)) : gb266 ≠ gb257)); have n10_ := Aside0.mk ((by rw [hg]; exact Nat.ne_of_lt (blk_lt (g := gb258) (o := .cells #[.slice none 0 0, .slice none 0 0] 29 (0, 0)) (Rgn.kb BK258.out)) : gb258 ≠ gb266)); have n11_ := Aside0.mk ((by rw [hg]; exact Nat.ne_of_gt (blk_lt (g := gb258) (o := .cells #[.slice none 0 0, .slice none 0 0] 29 (0, 0)) (Rgn.kb BK258.out)) : gb266 ≠ gb258)); clear HO262; clear HO265; clear BK257; clear BK258; clear HB; have HO262 := n0_; have HO265 := n1_; have BK257 := n2_; have BK258 := n3_; have HB := n4_; have BK266 := n5_; have GW266 := n6_; have GE266 := n7_; have NB257_266 := n8_; have NB266_257 := n9_; have NB258_266 := n10_; have NB266_258 := n11_; clear n0_ n1_ n2_ n3_ n4_ n5_ n6_ n7_ n8_ n9_ n10_ n11_; clear hb hbox hg; obtain ⟨Ao23, co23, eo23⟩ := Kd.R_slice HO262.out; subst eo23; have hnb24 := NB266_257.out; have hnc24 := NB257_266.out; have hnb25 := NB266_258.out; have hnc25 := NB258_266.out; have hcz26_0 : w22.cell? ⟨gb266, 0, none⟩ = some (.slice none 0 0) := (blk_cell BK266.out 0).trans rfl; have hcz26_1 : w22.cell? ⟨gb266, 1, none⟩ = some (.slice none 0 0) := (blk_cell BK266.out 1).trans rfl; have hfz26_0 := blk_frozen BK266.out 0; have hfz26_1 := blk_frozen BK266.out 1; obtain ⟨Ao27, co27, eo27⟩ := Kd.S_slice HO265.out; subst eo27))
        go_loopg [8] kj3 (fun kq v8 w' => ∃ (x8_2 : Int) (x267000_2 : List Int) (x267001_2 : List (S62)) (u267000 : Value) (u267001 : Value), v8 = .int .i64 x8_2 ∧ Aside0 (spec_DiskDo.l0 kq l1 a2 x8_2 x267000_2 x267001_2 = some (r1, r2)) ∧ Aside0 (kq ≤ kj3) ∧ Aside0 (Kd.R (Kd.int .u8) 5 w' w.heap.size (fun k_ => (w.heap.size ≤ k_)) u267000 x267000_2) ∧ Aside0 (Kd.S k62 62 w' w.heap.size (fun k_ => (w.heap.size ≤ k_) ∧ some k_ ≠ (u267000 : Value).ownBlock ∧ k_ ≠ gb257 ∧ k_ ≠ gb258 ∧ k_ ≠ gb266) u267001 x267001_2) ∧ Aside0 (w'.heap[gb257]? = some (.cells #[(.slice A0_0 l0_0.length c0_0), (.slice A0_1 l0_1.length c0_1)] 29 (0, 0))) ∧ Aside0 (w'.heap[gb258]? = some (.cells #[(.slice none 0 0), (.slice none 0 0)] 29 (0, 0))) ∧ Aside0 (w'.heap[gb266]? = some (.cells #[u267000, u267001] 29 (0, 0))) ∧ Aside0 (Below w.heap.size w w'))
        case atStart => exact ⟨(0), (t260), (t263), (.slice Ao23 t260.length co23), (.slice Ao27 t263.length co27), (by first | rfl | (simp; done) | (simp [*]; done)), H', ⟨Nat.le_refl _⟩, ⟨by (with_reducible repeat (first | apply Kd.R_alloc | apply Kd.R_drewN | apply Kd.R_drew)); exact Kd.R_mono (Kd.R_far (p := ⟨gb266, 1, none⟩) (Kd.R_far (p := ⟨gb266, 0, none⟩) (Kd.R_types HO262.out BK266.out (by decide)) (fun _ hk => hk.2) (.slice Ao23 t260.length co23)) (fun _ hk => hk.2) (.slice Ao27 t263.length co27)) (fun _ hk => hk.1.1)⟩, ⟨(by (with_reducible repeat (first | apply Kd.S_alloc | apply Kd.S_drewN | apply Kd.S_drew)); exact Kd.S_mono (Kd.S_far (p := ⟨gb266, 1, none⟩) (Kd.S_far (p := ⟨gb266, 0, none⟩) (Kd.S_types (Kd.S_types (Kd.S_types (Kd.S_types HO265.out BK257.out (by decide)) BK258.out (by decide)) BK266.out (by decide)) BK266.out (by decide)) (fun _ hk => hk.2) (.slice Ao23 t260.length co23)) (fun _ hk => hk.2) (.slice Ao27 t263.length co27)) (fun _ hk => ⟨hk.1.1.1.1.1, ⟨hk.1.1.1.1.2, ⟨hk.1.1.1.2, ⟨hk.1.1.2, hk.1.2⟩⟩⟩⟩))⟩, ⟨by (with_reducible repeat (first | refine blk_drewN ?_ _ | refine blk_drew ?_ | refine blk_alloc ?_ _)); refine blk_far ?_ NB257_266.out _; (with_reducible repeat (first | refine blk_drewN ?_ _ | refine blk_drew ?_ | refine blk_alloc ?_ _)); refine blk_far ?_ NB257_266.out _; (with_reducible repeat (first | refine blk_drewN ?_ _ | refine blk_drew ?_ | refine blk_alloc ?_ _)); exact BK257.out⟩, ⟨by (with_reducible repeat (first | refine blk_drewN ?_ _ | refine blk_drew ?_ | refine blk_alloc ?_ _)); refine blk_far ?_ NB258_266.out _; (with_reducible repeat (first | refine blk_drewN ?_ _ | refine blk_drew ?_ | refine blk_alloc ?_ _)); refine blk_far ?_ NB258_266.out _; (with_reducible repeat (first | refine blk_drewN ?_ _ | refine blk_drew ?_ | refine blk_alloc ?_ _)); exact BK258.out⟩, ⟨by (with_reducible repeat (first | refine blk_drewN ?_ _ | refine blk_drew ?_ | refine blk_alloc ?_ _)); refine blk_put (cs := #[.slice Ao23 t260.length co23, .slice none 0 0]) ?_ 1 _ rfl; (with_reducible repeat (first | refine blk_drewN ?_ _ | refine blk_drew ?_ | refine blk_alloc ?_ _)); refine blk_put (cs := #[.slice none 0 0, .slice none 0 0]) ?_ 0 _ rfl; (with_reducible repeat (first | refine blk_drewN ?_ _ | refine blk_drew ?_ | refine blk_alloc ?_ _)); exact BK266.out⟩, ⟨Rgn.bq HB.out⟩⟩
        case round =>
          clear H'
          try clear c1
          try clear c2
          try clear p2
          try clear c4
          try clear c7
          try clear c8
          try clear c9
          try clear c12
          try clear c15
          try clear c16
          try clear c19
          try clear c24
          try clear c25
          try clear c26
          try clear hcz10_0
          try clear hcz10_1
          try clear hcz13_0
          try clear hcz13_1
          try clear hcz17_0
          try clear hcz17_1
          try clear hcz20_0
          try clear hcz20_1
          try clear hcz26_0
          try clear hcz26_1
          try clear hfz10_0
          try clear hfz10_1
          try clear hfz13_0
          try clear hfz13_1
          try clear hfz17_0
          try clear hfz17_1
          try clear hfz20_0
          try clear hfz20_1
          try clear hfz26_0
          try clear hfz26_1
          try clear p2
          obtain ⟨x8_2, x267000_2, x267001_2, u267000, u267001, rfl, HA, HK2, HO_267000, HO_267001, BK257, BK258, BK266, HB⟩ := hrel
          cases gk with
          | zero => exact absurd HA.out (by simp [spec_DiskDo.l0])
          | succ k2 =>
            have H := HA.out
            clear HA
            simp only [spec_DiskDo.l0] at H
            have HC28 := Aside0.mk H
            clear H
            go_upto_region 5 with (fail)
            go_cut [34] (fun v34 wc => ∃ (kq : Nat) (x34_27 : Bool), v34 = .bool x34_27 ∧ Aside0 (spec_DiskDo.j2 kq l1 a2 x8_2 x34_27 x267000_2 x267001_2 = some (r1, r2)) ∧ Aside0 (kq ≤ k2) ∧ Aside0 (Kd.R (Kd.int .u8) 5 wc w.heap.size (fun k_ => (w.heap.size ≤ k_)) u267000 x267000_2) ∧ Aside0 (Kd.S k62 62 wc w.heap.size (fun k_ => (w.heap.size ≤ k_) ∧ some k_ ≠ (u267000 : Value).ownBlock ∧ k_ ≠ gb257 ∧ k_ ≠ gb258 ∧ k_ ≠ gb266) u267001 x267001_2) ∧ Aside0 (wc.heap[gb257]? = some (.cells #[(.slice A0_0 l0_0.length c0_0), (.slice A0_1 l0_1.length c0_1)] 29 (0, 0))) ∧ Aside0 (wc.heap[gb258]? = some (.cells #[(.slice none 0 0), (.slice none 0 0)] 29 (0, 0))) ∧ Aside0 (wc.heap[gb266]? = some (.cells #[u267000, u267001] 29 (0, 0))) ∧ Aside0 (Below w.heap.size w wc))
            case first =>
              have H := HC28.out
              clear HC28
              by_cases c29 : x8_2 < (l1.length : Int)
              · rw [if_pos c29] at H
                have c29b0 : decide (x8_2 < (l1.length : Int)) = true := decide_eq_true c29
                clear c29
                (first | rw [c29b0] | (simp only [i64_w, i32_w]; rw [c29b0]) | skip)
                by_cases c30 : a2 < 0
                · rw [if_pos c30] at H
                  have c30b0 : decide (a2 < 0) = true := decide_eq_true c30
                  clear c30
                  have H' := Aside0.mk H
                  clear H
                  go_wp2
                  go_meet
                  case rel => exact ⟨_, (true), (by first | rfl | (simp; done) | (simp [*]; done)), H', ⟨by have := HJ3.out; have := HK2.out; first | omega | exact Nat.le_refl _⟩, ⟨Rgn.rq HO_267000.out⟩, ⟨by (with_reducible repeat (first | apply Kd.S_alloc | apply Kd.S_drewN | apply Kd.S_drew)); exact HO_267001.out⟩, ⟨Rgn.kb BK257.out⟩, ⟨Rgn.kb BK258.out⟩, ⟨Rgn.kb BK266.out⟩, ⟨Rgn.bq HB.out⟩⟩
                · rw [if_neg c30] at H
                  have c30b0 : decide (a2 < 0) = false := decide_eq_false c30
                  clear c30
                  have H' := Aside0.mk H
                  clear H
                  go_wp2
                  go_meet
                  case rel => exact ⟨_, (decide (x8_2 < a2)), (by first | rfl | (simp; done) | (simp [*]; done)), H', ⟨by have := HJ3.out; have := HK2.out; first | omega | exact Nat.le_refl _⟩, ⟨Rgn.rq HO_267000.out⟩, ⟨by (with_reducible repeat (first | apply Kd.S_alloc | apply Kd.S_drewN | apply Kd.S_drew)); exact HO_267001.out⟩, ⟨Rgn.kb BK257.out⟩, ⟨Rgn.kb BK258.out⟩, ⟨Rgn.kb BK266.out⟩, ⟨Rgn.bq HB.out⟩⟩
              · rw [if_neg c29] at H
                have c29b0 : decide (x8_2 < (l1.length : Int)) = false := decide_eq_false c29
                clear c29
                (first | rw [c29b0] | (simp only [i64_w, i32_w]; rw [c29b0]) | skip)
                have H' := Aside0.mk H
                clear H
                go_wp2
                go_meet
                case rel => exact ⟨_, (false), (by first | rfl | (simp; done) | (simp [*]; done)), H', ⟨by have := HJ3.out; have := HK2.out; first | omega | exact Nat.le_refl _⟩, ⟨Rgn.rq HO_267000.out⟩, ⟨by (with_reducible repeat (first | apply Kd.S_alloc | apply Kd.S_drewN | apply Kd.S_drew)); exact HO_267001.out⟩, ⟨Rgn.kb BK257.out⟩, ⟨Rgn.kb BK258.out⟩, ⟨Rgn.kb BK266.out⟩, ⟨Rgn.bq HB.out⟩⟩
            case rest =>
              clear HC28
              try clear c1
              try clear c2
              try clear p2
              try clear c3
              try clear c4
              try clear c7
              try clear c8
              try clear c9
              try clear c12
              try clear c15
              try clear c16
              try clear c19
              try clear c24
              try clear c25
              try clear c26
              try clear c29
              try clear c29b0
              try clear c30
              try clear c30b0
              try clear hcz10_0
              try clear hcz10_1
              try clear hcz13_0
              try clear hcz13_1
              try clear hcz17_0
              try clear hcz17_1
              try clear hcz20_0
              try clear hcz20_1
              try clear hcz26_0
              try clear hcz26_1
              try clear hfz10_0
              try clear hfz10_1
              try clear hfz13_0
              try clear hfz13_1
              try clear hfz17_0
              try clear hfz17_1
              try clear hfz20_0
              try clear hfz20_1
              try clear hfz26_0
              try clear hfz26_1
              try clear p2
              obtain ⟨kq, x34_27, rfl, HA, HJ27, HO_267000, HO_267001, BK257, BK258, BK266, HB⟩ := hcut
              cases kq with
              | zero => exact absurd HA.out (by simp [spec_DiskDo.j2])
              | succ kj27 =>
                have H := HA.out
                clear HA
                simp only [spec_DiskDo.j2] at H
                by_cases c31 : x34_27 = true
                · subst c31
                  have H1 : (if 0 ≤ x8_2 then (if x8_2 < (l1.length : Int) then ((spec_l1Do.f kj27 x267000_2 x267001_2 ((rd_T93 l1 x8_2).f0) ((rd_T93 l1 x8_2).f1) ((rd_T93 l1 x8_2).f2)).bind fun bt268 => (if bt268.2.2 = true then (spec_DiskDo.l0 kj27 l1 a2 (wrap64 (x8_2 + 1)) bt268.1 bt268.2.1) else (some (([] : List Int), ([] : List (S62)))))) else (none)) else (none)) = some (r1, r2) := by rw [if_pos rfl] at H; exact H
                  clear H
                  have H := H1
                  clear H1
                  by_cases c32 : 0 ≤ x8_2
                  · rw [if_pos c32] at H
                    have c32b0 : decide (0 ≤ x8_2) = true := decide_eq_true c32
                    clear c32
                    by_cases c33 : x8_2 < (l1.length : Int)
                    · rw [if_pos c33] at H
                      have c33b0 : decide (x8_2 < (l1.length : Int)) = true := decide_eq_true c33
                      clear c33
                      replace H := Option.bind_eq_some_iff.mp H
                      obtain ⟨⟨t268, t271, t274⟩, A340, H⟩ := H
                      replace H : (if t274 = true then (spec_DiskDo.l0 kj27 l1 a2 (wrap64 (x8_2 + 1)) t268 t271) else (some (([] : List Int), ([] : List (S62))))) = some (r1, r2) := H
                      have A34 := Aside0.mk A340
                      clear A340
                      by_cases c35 : t274 = true
                      · subst c35
                        have H1 : (spec_DiskDo.l0 kj27 l1 a2 (wrap64 (x8_2 + 1)) t268 t271) = some (r1, r2) := by rw [if_pos rfl] at H; exact H
                        clear H
                        have H := H1
                        clear H1
                        have H' := Aside0.mk H
                        clear H
                        obtain ⟨Ao36, co36, eo36⟩ := Kd.R_slice HO_267000.out
                        subst eo36
                        obtain ⟨Ao37, co37, eo37⟩ := Kd.S_slice HO_267001.out
                        subst eo37
                        try go_wp2
                        have n0_ := Aside0.mk (Kd.R_drew HO_267000.out)
                        have n1_ := Aside0.mk (Kd.S_drew HO_267001.out)
                        have n2_ := Aside0.mk (blk_drew BK257.out)
                        have n3_ := Aside0.mk (blk_drew BK258.out)
                        have n4_ := Aside0.mk (blk_drew BK266.out)
                        have n5_ := Aside0.mk (below_drew1 HB.out)
                        clear HO_267000
                        clear HO_267001
                        clear BK257
                        clear BK258
                        clear BK266
                        clear HB
                        have HO_267000 := n0_
                        have HO_267001 := n1_
                        have BK257 := n2_
                        have BK258 := n3_
                        have BK266 := n4_
                        have HB := n5_
                        clear n0_ n1_ n2_ n3_ n4_ n5_
                        have p267 : 0 ≤ (x8_2 : Int) := of_decide_eq_true (by first | (with_reducible assumption) | assumption)
                        have q267 : x8_2 < (l1.length : Int) := of_decide_eq_true (by first | (with_reducible assumption) | assumption)
                        obtain ⟨ad267, A267_2, c267_2, e267, hx267_0, hx267_1, hx267_2, hl267_2, hi267_2⟩ := at_T93 HR1.out x8_2 p267 q267
                        have hw267_2 := hx267_2
                        have hw267_1 := hx267_1
                        have hw267_0 := hx267_0
                        cases e267
                        replace hx267_0 := (HB.out.cell (World.block_lt_of_cell? w _ hx267_0)).trans hx267_0
                        replace hx267_1 := (HB.out.cell (World.block_lt_of_cell? w _ hx267_1)).trans hx267_1
                        replace hx267_2 := (HB.out.cell (World.block_lt_of_cell? w _ hx267_2)).trans hx267_2
                        have HR267_2 := Aside0.mk hi267_2
                        have HC267_2 := Aside0.mk hl267_2
                        clear hi267_2 hl267_2
                        replace p267 := eq_true p267
                        replace q267 := eq_true q267
                        refine start_ (n := 12) (S := fun w' => w'.cell? ⟨gb266, 0, none⟩ = some (.slice Ao36 x267000_2.length co36) ∧ w'.cell? ⟨gb266, 1, none⟩ = some (.slice Ao37 x267001_2.length co37) ∧ w'.cell? (ad267.add ((x8_2).toNat * 3)) = some (.int .i64 ((rd_T93 l1 x8_2).f0)) ∧ w'.cell? ⟨(ad267.add ((x8_2).toNat * 3)).block, (ad267.add ((x8_2).toNat * 3)).off + 1, none⟩ = some (.int .i64 ((rd_T93 l1 x8_2).f1)) ∧ w'.cell? ⟨(ad267.add ((x8_2).toNat * 3)).block, (ad267.add ((x8_2).toNat * 3)).off + 2, none⟩ = some (.slice A267_2 ((rd_T93 l1 x8_2).f2).length c267_2)) (ds := []) #[false, false, false, false, false, false, false, false, false, false, false, false] (by kernel_rfl) rfl rfl ⟨(blk_cell BK266.out 0).trans rfl, (blk_cell BK266.out 1).trans rfl, ((HB.out.cell (World.block_lt_of_cell? w _ hw267_0)).trans hw267_0), ((HB.out.cell (World.block_lt_of_cell? w _ hw267_1)).trans hw267_1), ((HB.out.cell (World.block_lt_of_cell? w _ hw267_2)).trans hw267_2)⟩ (fun hHeld => ?_); refine with_tabW spec_DiskDo.tab7 spec_DiskDo.bits7 (fun HT_ HW_ => ?_)
                        generalize wc.drew = w38 at HO_267000 HO_267001 BK257 BK258 BK266 HB HR267_2 hx267_0 hx267_1 hx267_2 hHeld ⊢
                        refine Rgn.pu HT_.out 1 39 ?_
                        refine Rgn.pu HT_.out 2 40 ?_
                        refine Rgn.pu HT_.out 3 41 ?_
                        refine Rgn.tk HT_.out HW_.out 0 38 hHeld ?_
                        refine Rgn.tk HT_.out HW_.out 4 42 hHeld ?_
                        refine join_ (σ := Value × Value × Nat) 2 #[true, true, true, true, true, true, true, true, true, true, false, false] (fun s_ => [(43, .tuple #[.agg #[s_.1, s_.2.1], .bool true]), (9, .pointer (some ⟨s_.2.2, 0, none⟩)), (37, .tuple #[.agg #[s_.1, s_.2.1], .bool true]), (44, .agg #[s_.1, s_.2.1]), (45, .bool true)]) (fun s_ w' => (w'.cell? ⟨gb266, 0, none⟩ = some (.slice Ao36 x267000_2.length co36) ∧ w'.cell? ⟨gb266, 1, none⟩ = some (.slice Ao37 x267001_2.length co37) ∧ w'.cell? (ad267.add ((x8_2).toNat * 3)) = some (.int .i64 ((rd_T93 l1 x8_2).f0)) ∧ w'.cell? ⟨(ad267.add ((x8_2).toNat * 3)).block, (ad267.add ((x8_2).toNat * 3)).off + 1, none⟩ = some (.int .i64 ((rd_T93 l1 x8_2).f1)) ∧ w'.cell? ⟨(ad267.add ((x8_2).toNat * 3)).block, (ad267.add ((x8_2).toNat * 3)).off + 2, none⟩ = some (.slice A267_2 ((rd_T93 l1 x8_2).f2).length c267_2)) ∧ (Kd.R (Kd.int .u8) 5 w' w.heap.size (fun k_ => (w.heap.size ≤ k_)) s_.1 t268) ∧ (Kd.S k62 62 w' w.heap.size (fun k_ => (w.heap.size ≤ k_) ∧ some k_ ≠ (s_.1 : Value).ownBlock ∧ k_ ≠ gb257 ∧ k_ ≠ gb258 ∧ k_ ≠ gb266 ∧ k_ ≠ s_.2.2) s_.2.1 t271) ∧ True ∧ (w'.heap[gb257]? = some (.cells #[.slice A0_0 l0_0.length c0_0, .slice A0_1 l0_1.length c0_1] 29 (0, 0))) ∧ (w'.heap[gb258]? = some (.cells #[.slice none 0 0, .slice none 0 0] 29 (0, 0))) ∧ (w'.heap[gb266]? = some (.cells #[.slice Ao36 x267000_2.length co36, .slice Ao37 x267001_2.length co37] 29 (0, 0))) ∧ (w'.heap[s_.2.2]? = some (.cells #[.slice none 0 0, .slice none 0 0] 29 (0, 0))) ∧ (w.heap.size ≤ s_.2.2) ∧ (w.heap.size ≤ s_.2.2) ∧ (gb257 ≠ s_.2.2) ∧ (s_.2.2 ≠ gb257) ∧ (gb258 ≠ s_.2.2) ∧ (s_.2.2 ≠ gb258) ∧ (gb266 ≠ s_.2.2) ∧ (s_.2.2 ≠ gb266) ∧ (Below w.heap.size w w')) ?_ ?_
                        rotate_left
                        · intro hCont
                          refine two_ (i := 5) (j := 9) (Ni := some 43) (Nj := some 9) #[true, true, true, true, true, true, false, false, false, false, false, false] #[true, true, true, true, true, false, false, false, false, true, false, false] rfl rfl rfl rfl (two_of HT_.out (by kernel_rfl)) (by decide) (by decide) (fun K hK => ?_) (fun K hK => ?_)
                          · skip
                            refine Rgn.gs Try.func86 #[.agg #[.slice Ao36 x267000_2.length co36, .slice Ao37 x267001_2.length co37], .agg #[.int .i64 ((rd_T93 l1 x8_2).f0), .int .i64 ((rd_T93 l1 x8_2).f1), .slice A267_2 ((rd_T93 l1 x8_2).f2).length c267_2]] ?_
                            with_reducible refine (spec_l1Do.calls kj27 (fun k_ => some k_ = (.slice Ao36 x267000_2.length co36 : Value).ownBlock) (.slice Ao36 x267000_2.length co36) x267000_2 (fun k_ => ((w.heap.size ≤ k_) ∧ (some k_ ≠ (.slice Ao36 x267000_2.length co36 : Value).ownBlock ∧ (k_ ≠ gb257 ∧ (k_ ≠ gb258 ∧ k_ ≠ gb266))))) _ _ x267001_2 ((rd_T93 l1 x8_2).f0) ((rd_T93 l1 x8_2).f1) _ _ ((rd_T93 l1 x8_2).f2) t268 t271 true w _ ?side1 ?side2 ?side3 ?side4 ?side5 A34.out).mono ?_
                            (case side1 => exact Rgn.bq HB.out)
                            (case side2 => exact Kd.R_tight rfl HO_267000.out)
                            (case side3 => exact Kd.S_mono (HO_267001.out) (fun k_ hk_ => ⟨hk_, hk_.2.1⟩))
                            (case side4 => exact Kd.C_kept_came (Kd.heap_int .u8) HR267_2.out (Rgn.bq HB.out) (fun k_ hs_ => Or.elim hs_ (fun e_ => Kd.R_base HO_267000.out k_ e_.symm) (fun h_ => h_.1)))
                            (case side5 => exact HC267_2.out)
                            rintro e w39 ⟨v269, v272, rfl, ho0, ho1, hb, hkp⟩
                            refine ⟨_, rfl, ?_⟩
                            have n0_ := Aside0.mk trivial
                            have n1_ := Aside0.mk (blk_kept (Rgn.kb BK257.out) hkp (fun hs_ => Or.elim hs_ (fun e_ => (Kd.R_ne HO_267000.out BK257.out (by decide)) e_) (fun h_ => h_.2.2.1 rfl)))
                            have n2_ := Aside0.mk (blk_kept (Rgn.kb BK258.out) hkp (fun hs_ => Or.elim hs_ (fun e_ => (Kd.R_ne HO_267000.out BK258.out (by decide)) e_) (fun h_ => h_.2.2.2.1 rfl)))
                            have n3_ := Aside0.mk (blk_kept (Rgn.kb BK266.out) hkp (fun hs_ => Or.elim hs_ (fun e_ => (Kd.R_ne HO_267000.out BK266.out (by decide)) e_) (fun h_ => h_.2.2.2.2 rfl)))
                            have n4_ := Aside0.mk (Kd.R_mono (ok' := fun k_ => (w.heap.size ≤ k_)) ho0 (fun k_ hk_ => Or.elim hk_ (fun hs_ => (HO_267000.out.1 k_ (hs_).symm)) (fun hn_ => (Nat.le_trans (below_size (Rgn.bq HB.out)) hn_))))
                            have n5_ := Aside0.mk (Kd.S_mono (ok' := fun k_ => (w.heap.size ≤ k_) ∧ some k_ ≠ (v269 : Value).ownBlock ∧ k_ ≠ gb257 ∧ k_ ≠ gb258 ∧ k_ ≠ gb266) ho1 (fun k_ hk_ => ⟨Or.elim hk_.1 (fun hs_ => Or.elim hs_ (fun hs_ => (HO_267000.out.1 k_ (hs_).symm)) (fun hs_ => hs_.1)) (fun hn_ => (Nat.le_trans (below_size (Rgn.bq HB.out)) hn_)), hk_.2, Or.elim hk_.1 (fun hs_ => Or.elim hs_ (fun hs_ => fun e_ => (Kd.R_ne HO_267000.out BK257.out (by decide)) (by rw [← e_]; exact hs_)) (fun hs_ => hs_.2.2.1)) (fun hn_ => (Kd.freshB (g := gb257) (o := .cells #[.slice A0_0 l0_0.length c0_0, .slice A0_1 l0_1.length c0_1] 29 (0, 0)) (Rgn.kb BK257.out) k_ hn_)), Or.elim hk_.1 (fun hs_ => Or.elim hs_ (fun hs_ => fun e_ => (Kd.R_ne HO_267000.out BK258.out (by decide)) (by rw [← e_]; exact hs_)) (fun hs_ => hs_.2.2.2.1)) (fun hn_ => (Kd.freshB (g := gb258) (o := .cells #[.slice none 0 0, .slice none 0 0] 29 (0, 0)) (Rgn.kb BK258.out) k_ hn_)), Or.elim hk_.1 (fun hs_ => Or.elim hs_ (fun hs_ => fun e_ => (Kd.R_ne HO_267000.out BK266.out (by decide)) (by rw [← e_]; exact hs_)) (fun hs_ => hs_.2.2.2.2)) (fun hn_ => (Kd.freshB (g := gb266) (o := .cells #[.slice Ao36 x267000_2.length co36, .slice Ao37 x267001_2.length co37] 29 (0, 0)) (Rgn.kb BK266.out) k_ hn_))⟩))
                            have n6_ := Aside0.mk (hb)
                            clear HO_267001
                            clear BK257
                            clear BK258
                            clear BK266
                            clear HB
                            clear HO_267000
                            have HO_267001 := n0_
                            have BK257 := n1_
                            have BK258 := n2_
                            have BK266 := n3_
                            have HO270 := n4_
                            have HO273 := n5_
                            have HB := n6_
                            clear n0_ n1_ n2_ n3_ n4_ n5_ n6_
                            (try clear hb)
                            (try clear hkp)
                            (try clear ho0)
                            (try clear ho1)
                            refine hK.out _ _ ⟨(blk_cell BK266.out 0).trans rfl, (blk_cell BK266.out 1).trans rfl, ((HB.out.cell (World.block_lt_of_cell? w _ hw267_0)).trans hw267_0), ((HB.out.cell (World.block_lt_of_cell? w _ hw267_1)).trans hw267_1), ((HB.out.cell (World.block_lt_of_cell? w _ hw267_2)).trans hw267_2)⟩ (fun hHeld => ?_)
                            clear hK K
                            refine norm_ (a' := ?_) ?_ ?_
                            rotate_left
                            · show Act.put _ (some 43) _ = _
                              simp only [Act.put, List.setIfInBounds_toArray, List.set_cons_zero, List.set_cons_succ, i64_w, i32_w]
                              rfl
                            refine Rgn.pu HT_.out 6 37 ?_
                            refine Rgn.pu HT_.out 7 44 ?_
                            refine Rgn.pu HT_.out 8 45 ?_
                            refine one_ (i := 9) (N := some 9) #[true, true, true, true, true, true, true, true, true, true, false, false] rfl rfl (one_of HT_.out (by kernel_rfl)) (by decide) (fun K hK => ?_)
                            refine box_step ?hg (N := 9) ?hd (cs := #[.slice none 0 0, .slice none 0 0]) (t := 29) ?hr ?_; (case hd => rfl); (case hg => rfl); (case hr => first | (go_simp; done) | (go_simp; rfl))
                            intro gb275 hg w40 hbox hb
                            have n0_ := Aside0.mk trivial
                            have n1_ := Aside0.mk (Kd.R_below (Rgn.rq HO270.out) hb)
                            have n2_ := Aside0.mk (Kd.S_below (Kd.S_elderB (by (with_reducible repeat (first | apply Kd.S_alloc | apply Kd.S_drewN | apply Kd.S_drew)); exact HO273.out) gb275 (Nat.le_of_eq hg.symm)) hb)
                            have n3_ := Aside0.mk (Rgn.bb BK257.out hb)
                            have n4_ := Aside0.mk (Rgn.bb BK258.out hb)
                            have n5_ := Aside0.mk (Rgn.bb BK266.out hb)
                            have n6_ := Aside0.mk (below_step (Rgn.bq HB.out) hb)
                            have n7_ := Aside0.mk (hbox)
                            have n8_ := Aside0.mk ((by rw [hg]; exact (below_size (Rgn.bq HB.out)) : w.heap.size ≤ gb275))
                            have n9_ := Aside0.mk ((by rw [hg]; exact (below_size (Rgn.bq HB.out)) : w.heap.size ≤ gb275))
                            have n10_ := Aside0.mk ((by rw [hg]; exact Nat.ne_of_lt (blk_lt (g := gb257) (o := .cells #[.slice A0_0 l0_0.length c0_0, .slice A0_1 l0_1.length c0_1] 29 (0, 0)) (Rgn.kb BK257.out)) : gb257 ≠ gb275))
                            have n11_ := Aside0.mk ((by rw [hg]; exact Nat.ne_of_gt (blk_lt (g := gb257) (o := .cells #[.slice A0_0 l0_0.length c0_0, .slice A0_1 l0_1.length c0_1] 29 (0, 0)) (Rgn.kb BK257.out)) : gb275 ≠ gb257))
                            have n12_ := Aside0.mk ((by rw [hg]; exact Nat.ne_of_lt (blk_lt (g := gb258) (o := .cells #[.slice none 0 0, .slice none 0 0] 29 (0, 0)) (Rgn.kb BK258.out)) : gb258 ≠ gb275))
                            have n13_ := Aside0.mk ((by rw [hg]; exact Nat.ne_of_gt (blk_lt (g := gb258) (o := .cells #[.slice none 0 0, .slice none 0 0] 29 (0, 0)) (Rgn.kb BK258.out)) : gb275 ≠ gb258))
                            have n14_ := Aside0.mk ((by rw [hg]; exact Nat.ne_of_lt (blk_lt (g := gb266) (o := .cells #[.slice Ao36 x267000_2.length co36, .slice Ao37 x267001_2.length co37] 29 (0, 0)) (Rgn.kb BK266.out)) : gb266 ≠ gb275))
                            have n15_ := Aside0.mk ((by rw [hg]; exact Nat.ne_of_gt (blk_lt (g := gb266) (o := .cells #[.slice Ao36 x267000_2.length co36, .slice Ao37 x267001_2.length co37] 29 (0, 0)) (Rgn.kb BK266.out)) : gb275 ≠ gb266))
                            clear HO_267001
                            clear HO270
                            clear HO273
                            clear BK257
                            clear BK258
                            clear BK266
                            clear HB
                            have HO_267001 := n0_
                            have HO270 := n1_
                            have HO273 := n2_
                            have BK257 := n3_
                            have BK258 := n4_
                            have BK266 := n5_
                            have HB := n6_
                            have BK275 := n7_
                            have GW275 := n8_
                            have GE275 := n9_
                            have NB257_275 := n10_
                            have NB275_257 := n11_
                            have NB258_275 := n12_
                            have NB275_258 := n13_
                            have NB266_275 := n14_
                            have NB275_266 := n15_
                            clear n0_ n1_ n2_ n3_ n4_ n5_ n6_ n7_ n8_ n9_ n10_ n11_ n12_ n13_ n14_ n15_
                            clear hb hbox hg
                            refine hK.out _ _ ⟨(blk_cell BK266.out 0).trans rfl, (blk_cell BK266.out 1).trans rfl, ((HB.out.cell (World.block_lt_of_cell? w _ hw267_0)).trans hw267_0), ((HB.out.cell (World.block_lt_of_cell? w _ hw267_1)).trans hw267_1), ((HB.out.cell (World.block_lt_of_cell? w _ hw267_2)).trans hw267_2)⟩ (fun hHeld => ?_)
                            clear hK K
                            refine norm_ (a' := ?_) ?_ ?_
                            rotate_left
                            · show Act.put _ (some 9) _ = _
                              simp only [Act.put, List.setIfInBounds_toArray, List.set_cons_zero, List.set_cons_succ, i64_w, i32_w]
                              rfl
                            exact norm_ (by simp only [putAll, Act.put, List.setIfInBounds_toArray, List.set_cons_zero, List.set_cons_succ]) (hCont (v269, v272, gb275) _ ⟨hHeld, (Rgn.rq HO270.out), (by (with_reducible repeat (first | apply Kd.S_alloc | apply Kd.S_drewN | apply Kd.S_drew)); exact Kd.S_mono HO273.out (fun _ hk => ⟨hk.1.1, ⟨hk.1.2.1, ⟨hk.1.2.2.1, ⟨hk.1.2.2.2.1, ⟨hk.1.2.2.2.2, hk.2⟩⟩⟩⟩⟩)), trivial, (Rgn.kb BK257.out), (Rgn.kb BK258.out), (Rgn.kb BK266.out), (Rgn.kb BK275.out), GW275.out, GE275.out, NB257_275.out, NB275_257.out, NB258_275.out, NB275_258.out, NB266_275.out, NB275_266.out, (Rgn.bq HB.out)⟩)
                          · skip
                            refine box_step ?hg (N := 9) ?hd (cs := #[.slice none 0 0, .slice none 0 0]) (t := 29) ?hr ?_; (case hd => rfl); (case hg => rfl); (case hr => first | (go_simp; done) | (go_simp; rfl))
                            intro gb275 hg w39 hbox hb
                            have n0_ := Aside0.mk (Kd.R_below (Rgn.rq HO_267000.out) hb)
                            have n1_ := Aside0.mk (Kd.S_below (Kd.S_elderB (by (with_reducible repeat (first | apply Kd.S_alloc | apply Kd.S_drewN | apply Kd.S_drew)); exact HO_267001.out) gb275 (Nat.le_of_eq hg.symm)) hb)
                            have n2_ := Aside0.mk (Rgn.bb BK257.out hb)
                            have n3_ := Aside0.mk (Rgn.bb BK258.out hb)
                            have n4_ := Aside0.mk (Rgn.bb BK266.out hb)
                            have n5_ := Aside0.mk (below_step (Rgn.bq HB.out) hb)
                            have n6_ := Aside0.mk (hbox)
                            have n7_ := Aside0.mk ((by rw [hg]; exact (below_size (Rgn.bq HB.out)) : w.heap.size ≤ gb275))
                            have n8_ := Aside0.mk ((by rw [hg]; exact (below_size (Rgn.bq HB.out)) : w.heap.size ≤ gb275))
                            have n9_ := Aside0.mk ((by rw [hg]; exact Nat.ne_of_lt (blk_lt (g := gb257) (o := .cells #[.slice A0_0 l0_0.length c0_0, .slice A0_1 l0_1.length c0_1] 29 (0, 0)) (Rgn.kb BK257.out)) : gb257 ≠ gb275))
                            have n10_ := Aside0.mk ((by rw [hg]; exact Nat.ne_of_gt (blk_lt (g := gb257) (o := .cells #[.slice A0_0 l0_0.length c0_0, .slice A0_1 l0_1.length c0_1] 29 (0, 0)) (Rgn.kb BK257.out)) : gb275 ≠ gb257))
                            have n11_ := Aside0.mk ((by rw [hg]; exact Nat.ne_of_lt (blk_lt (g := gb258) (o := .cells #[.slice none 0 0, .slice none 0 0] 29 (0, 0)) (Rgn.kb BK258.out)) : gb258 ≠ gb275))
                            have n12_ := Aside0.mk ((by rw [hg]; exact Nat.ne_of_gt (blk_lt (g := gb258) (o := .cells #[.slice none 0 0, .slice none 0 0] 29 (0, 0)) (Rgn.kb BK258.out)) : gb275 ≠ gb258))
                            have n13_ := Aside0.mk ((by rw [hg]; exact Nat.ne_of_lt (blk_lt (g := gb266) (o := .cells #[.slice Ao36 x267000_2.length co36, .slice Ao37 x267001_2.length co37] 29 (0, 0)) (Rgn.kb BK266.out)) : gb266 ≠ gb275))
                            have n14_ := Aside0.mk ((by rw [hg]; exact Nat.ne_of_gt (blk_lt (g := gb266) (o := .cells #[.slice Ao36 x267000_2.length co36, .slice Ao37 x267001_2.length co37] 29 (0, 0)) (Rgn.kb BK266.out)) : gb275 ≠ gb266))
                            clear HO_267000
                            clear HO_267001
                            clear BK257
                            clear BK258
                            clear BK266
                            clear HB
                            have HO_267000 := n0_
                            have HO_267001 := n1_
                            have BK257 := n2_
                            have BK258 := n3_
                            have BK266 := n4_
                            have HB := n5_
                            have BK275 := n6_
                            have GW275 := n7_
                            have GE275 := n8_
                            have NB257_275 := n9_
                            have NB275_257 := n10_
                            have NB258_275 := n11_
                            have NB275_258 := n12_
                            have NB266_275 := n13_
                            have NB275_266 := n14_
                            clear n0_ n1_ n2_ n3_ n4_ n5_ n6_ n7_ n8_ n9_ n10_ n11_ n12_ n13_ n14_
                            clear hb hbox hg
                            refine hK.out _ _ ⟨(blk_cell BK266.out 0).trans rfl, (blk_cell BK266.out 1).trans rfl, ((HB.out.cell (World.block_lt_of_cell? w _ hw267_0)).trans hw267_0), ((HB.out.cell (World.block_lt_of_cell? w _ hw267_1)).trans hw267_1), ((HB.out.cell (World.block_lt_of_cell? w _ hw267_2)).trans hw267_2)⟩ (fun hHeld => ?_)
                            clear hK K
                            refine norm_ (a' := ?_) ?_ ?_
                            rotate_left
                            · show Act.put _ (some 9) _ = _
                              simp only [Act.put, List.setIfInBounds_toArray, List.set_cons_zero, List.set_cons_succ, i64_w, i32_w]
                              rfl
                            refine one_ (i := 5) (N := some 43) #[true, true, true, true, true, true, false, false, false, true, false, false] rfl rfl (one_of HT_.out (by kernel_rfl)) (by decide) (fun K hK => ?_)
                            refine Rgn.gs Try.func86 #[.agg #[.slice Ao36 x267000_2.length co36, .slice Ao37 x267001_2.length co37], .agg #[.int .i64 ((rd_T93 l1 x8_2).f0), .int .i64 ((rd_T93 l1 x8_2).f1), .slice A267_2 ((rd_T93 l1 x8_2).f2).length c267_2]] ?_
                            with_reducible refine (spec_l1Do.calls kj27 (fun k_ => some k_ = (.slice Ao36 x267000_2.length co36 : Value).ownBlock) (.slice Ao36 x267000_2.length co36) x267000_2 (fun k_ => (((w.heap.size ≤ k_) ∧ (some k_ ≠ (.slice Ao36 x267000_2.length co36 : Value).ownBlock ∧ (k_ ≠ gb257 ∧ (k_ ≠ gb258 ∧ k_ ≠ gb266)))) ∧ k_ ≠ gb275)) _ _ x267001_2 ((rd_T93 l1 x8_2).f0) ((rd_T93 l1 x8_2).f1) _ _ ((rd_T93 l1 x8_2).f2) t268 t271 true w _ ?side1 ?side2 ?side3 ?side4 ?side5 A34.out).mono ?_
                            (case side1 => exact Rgn.bq HB.out)
                            (case side2 => exact Kd.R_tight rfl HO_267000.out)
                            (case side3 => exact Kd.S_mono (HO_267001.out) (fun k_ hk_ => ⟨hk_, hk_.1.2.1⟩))
                            (case side4 => exact Kd.C_kept_came (Kd.heap_int .u8) HR267_2.out (Rgn.bq HB.out) (fun k_ hs_ => Or.elim hs_ (fun e_ => Kd.R_base HO_267000.out k_ e_.symm) (fun h_ => h_.1.1)))
                            (case side5 => exact HC267_2.out)
                            rintro e w40 ⟨v269, v272, rfl, ho0, ho1, hb, hkp⟩
                            refine ⟨_, rfl, ?_⟩
                            have n0_ := Aside0.mk trivial
                            have n1_ := Aside0.mk (blk_kept (Rgn.kb BK257.out) hkp (fun hs_ => Or.elim hs_ (fun e_ => (Kd.R_ne HO_267000.out BK257.out (by decide)) e_) (fun h_ => h_.1.2.2.1 rfl)))
                            have n2_ := Aside0.mk (blk_kept (Rgn.kb BK258.out) hkp (fun hs_ => Or.elim hs_ (fun e_ => (Kd.R_ne HO_267000.out BK258.out (by decide)) e_) (fun h_ => h_.1.2.2.2.1 rfl)))
                            have n3_ := Aside0.mk (blk_kept (Rgn.kb BK266.out) hkp (fun hs_ => Or.elim hs_ (fun e_ => (Kd.R_ne HO_267000.out BK266.out (by decide)) e_) (fun h_ => h_.1.2.2.2.2 rfl)))
                            have n4_ := Aside0.mk (blk_kept (Rgn.kb BK275.out) hkp (fun hs_ => Or.elim hs_ (fun e_ => (Kd.R_ne HO_267000.out BK275.out (by decide)) e_) (fun h_ => h_.2 rfl)))
                            have n5_ := Aside0.mk (Kd.R_mono (ok' := fun k_ => (w.heap.size ≤ k_)) ho0 (fun k_ hk_ => Or.elim hk_ (fun hs_ => (HO_267000.out.1 k_ (hs_).symm)) (fun hn_ => (Nat.le_trans (below_size (Rgn.bq HB.out)) hn_))))
                            have n6_ := Aside0.mk (Kd.S_mono (ok' := fun k_ => (w.heap.size ≤ k_) ∧ some k_ ≠ (v269 : Value).ownBlock ∧ k_ ≠ gb257 ∧ k_ ≠ gb258 ∧ k_ ≠ gb266 ∧ k_ ≠ gb275) ho1 (fun k_ hk_ => ⟨Or.elim hk_.1 (fun hs_ => Or.elim hs_ (fun hs_ => (HO_267000.out.1 k_ (hs_).symm)) (fun hs_ => hs_.1.1)) (fun hn_ => (Nat.le_trans (below_size (Rgn.bq HB.out)) hn_)), hk_.2, Or.elim hk_.1 (fun hs_ => Or.elim hs_ (fun hs_ => fun e_ => (Kd.R_ne HO_267000.out BK257.out (by decide)) (by rw [← e_]; exact hs_)) (fun hs_ => hs_.1.2.2.1)) (fun hn_ => (Kd.freshB (g := gb257) (o := .cells #[.slice A0_0 l0_0.length c0_0, .slice A0_1 l0_1.length c0_1] 29 (0, 0)) (Rgn.kb BK257.out) k_ hn_)), Or.elim hk_.1 (fun hs_ => Or.elim hs_ (fun hs_ => fun e_ => (Kd.R_ne HO_267000.out BK258.out (by decide)) (by rw [← e_]; exact hs_)) (fun hs_ => hs_.1.2.2.2.1)) (fun hn_ => (Kd.freshB (g := gb258) (o := .cells #[.slice none 0 0, .slice none 0 0] 29 (0, 0)) (Rgn.kb BK258.out) k_ hn_)), Or.elim hk_.1 (fun hs_ => Or.elim hs_ (fun hs_ => fun e_ => (Kd.R_ne HO_267000.out BK266.out (by decide)) (by rw [← e_]; exact hs_)) (fun hs_ => hs_.1.2.2.2.2)) (fun hn_ => (Kd.freshB (g := gb266) (o := .cells #[.slice Ao36 x267000_2.length co36, .slice Ao37 x267001_2.length co37] 29 (0, 0)) (Rgn.kb BK266.out) k_ hn_)), Or.elim hk_.1 (fun hs_ => Or.elim hs_ (fun hs_ => fun e_ => (Kd.R_ne HO_267000.out BK275.out (by decide)) (by rw [← e_]; exact hs_)) (fun hs_ => hs_.2)) (fun hn_ => (Kd.freshB (g := gb275) (o := .cells #[.slice none 0 0, .slice none 0 0] 29 (0, 0)) (Rgn.kb BK275.out) k_ hn_))⟩))
                            have n7_ := Aside0.mk (hb)
                            clear HO_267001
                            clear BK257
                            clear BK258
                            clear BK266
                            clear BK275
                            clear HB
                            clear HO_267000
                            have HO_267001 := n0_
                            have BK257 := n1_
                            have BK258 := n2_
                            have BK266 := n3_
                            have BK275 := n4_
                            have HO270 := n5_
                            have HO273 := n6_
                            have HB := n7_
                            clear n0_ n1_ n2_ n3_ n4_ n5_ n6_ n7_
                            (try clear hb)
                            (try clear hkp)
                            (try clear ho0)
                            (try clear ho1)
                            refine hK.out _ _ ⟨(blk_cell BK266.out 0).trans rfl, (blk_cell BK266.out 1).trans rfl, ((HB.out.cell (World.block_lt_of_cell? w _ hw267_0)).trans hw267_0), ((HB.out.cell (World.block_lt_of_cell? w _ hw267_1)).trans hw267_1), ((HB.out.cell (World.block_lt_of_cell? w _ hw267_2)).trans hw267_2)⟩ (fun hHeld => ?_)
                            clear hK K
                            refine norm_ (a' := ?_) ?_ ?_
                            rotate_left
                            · show Act.put _ (some 43) _ = _
                              simp only [Act.put, List.setIfInBounds_toArray, List.set_cons_zero, List.set_cons_succ, i64_w, i32_w]
                              rfl
                            refine Rgn.pu HT_.out 6 37 ?_
                            refine Rgn.pu HT_.out 7 44 ?_
                            refine Rgn.pu HT_.out 8 45 ?_
                            exact norm_ (by simp only [putAll, Act.put, List.setIfInBounds_toArray, List.set_cons_zero, List.set_cons_succ]) (hCont (v269, v272, gb275) _ ⟨hHeld, (Rgn.rq HO270.out), (by (with_reducible repeat (first | apply Kd.S_alloc | apply Kd.S_drewN | apply Kd.S_drew)); exact HO273.out), trivial, (Rgn.kb BK257.out), (Rgn.kb BK258.out), (Rgn.kb BK266.out), (Rgn.kb BK275.out), GW275.out, GE275.out, NB257_275.out, NB275_257.out, NB258_275.out, NB275_258.out, NB266_275.out, NB275_266.out, (Rgn.bq HB.out)⟩)
                        rintro ⟨v269, v272, gb275⟩ w41 ⟨hS_, h0_, h1_, h2_, h3_, h4_, h5_, h6_, h7_, h8_, h9_, h10_, h11_, h12_, h13_, h14_, h15_⟩
                        have n0_ : Aside0 (Kd.R (Kd.int .u8) 5 w41 w.heap.size (fun k_ => (w.heap.size ≤ k_)) v269 t268) := ⟨h0_⟩
                        have n1_ : Aside0 (Kd.S k62 62 w41 w.heap.size (fun k_ => (w.heap.size ≤ k_) ∧ some k_ ≠ (v269 : Value).ownBlock ∧ k_ ≠ gb257 ∧ k_ ≠ gb258 ∧ k_ ≠ gb266 ∧ k_ ≠ gb275) v272 t271) := ⟨h1_⟩
                        have n2_ : Aside0 True := ⟨h2_⟩
                        have n3_ : Aside0 (w41.heap[gb257]? = some (.cells #[.slice A0_0 l0_0.length c0_0, .slice A0_1 l0_1.length c0_1] 29 (0, 0))) := ⟨h3_⟩
                        have n4_ : Aside0 (w41.heap[gb258]? = some (.cells #[.slice none 0 0, .slice none 0 0] 29 (0, 0))) := ⟨h4_⟩
                        have n5_ : Aside0 (w41.heap[gb266]? = some (.cells #[.slice Ao36 x267000_2.length co36, .slice Ao37 x267001_2.length co37] 29 (0, 0))) := ⟨h5_⟩
                        have n6_ : Aside0 (w41.heap[gb275]? = some (.cells #[.slice none 0 0, .slice none 0 0] 29 (0, 0))) := ⟨h6_⟩
                        have n7_ : Aside0 (w.heap.size ≤ gb275) := ⟨h7_⟩
                        have n8_ : Aside0 (w.heap.size ≤ gb275) := ⟨h8_⟩
                        have n9_ : Aside0 (gb257 ≠ gb275) := ⟨h9_⟩
                        have n10_ : Aside0 (gb275 ≠ gb257) := ⟨h10_⟩
                        have n11_ : Aside0 (gb258 ≠ gb275) := ⟨h11_⟩
                        have n12_ : Aside0 (gb275 ≠ gb258) := ⟨h12_⟩
                        have n13_ : Aside0 (gb266 ≠ gb275) := ⟨h13_⟩
                        have n14_ : Aside0 (gb275 ≠ gb266) := ⟨h14_⟩
                        have n15_ : Aside0 (Below w.heap.size w w41) := ⟨h15_⟩
                        clear HO_267000
                        clear HO_267001
                        clear BK257
                        clear BK258
                        clear BK266
                        clear HB
                        clear h0_ h1_ h2_ h3_ h4_ h5_ h6_ h7_ h8_ h9_ h10_ h11_ h12_ h13_ h14_ h15_
                        have HO270 := n0_
                        have HO273 := n1_
                        have HO_267001 := n2_
                        have BK257 := n3_
                        have BK258 := n4_
                        have BK266 := n5_
                        have BK275 := n6_
                        have GW275 := n7_
                        have GE275 := n8_
                        have NB257_275 := n9_
                        have NB275_257 := n10_
                        have NB258_275 := n11_
                        have NB275_258 := n12_
                        have NB266_275 := n13_
                        have NB275_266 := n14_
                        have HB := n15_
                        clear n0_ n1_ n2_ n3_ n4_ n5_ n6_ n7_ n8_ n9_ n10_ n11_ n12_ n13_ n14_ n15_
                        have hHeld : w41.cell? ⟨gb266, 0, none⟩ = some (.slice Ao36 x267000_2.length co36) ∧ w41.cell? ⟨gb266, 1, none⟩ = some (.slice Ao37 x267001_2.length co37) ∧ w41.cell? (ad267.add ((x8_2).toNat * 3)) = some (.int .i64 ((rd_T93 l1 x8_2).f0)) ∧ w41.cell? ⟨(ad267.add ((x8_2).toNat * 3)).block, (ad267.add ((x8_2).toNat * 3)).off + 1, none⟩ = some (.int .i64 ((rd_T93 l1 x8_2).f1)) ∧ w41.cell? ⟨(ad267.add ((x8_2).toNat * 3)).block, (ad267.add ((x8_2).toNat * 3)).off + 2, none⟩ = some (.slice A267_2 ((rd_T93 l1 x8_2).f2).length c267_2) := hS_
                        obtain ⟨Ao42, co42, eo42⟩ := Kd.R_slice HO270.out
                        (first | subst eo42 | (injection eo42 with f1_ f2_ f3_; have f4_ := f1_.symm; have f5_ := f3_.symm; clear f1_ f2_ f3_; subst f4_; subst f5_))
                        obtain ⟨Ao44, co44, eo44⟩ := Kd.S_slice HO273.out
                        (first | subst eo44 | (injection eo44 with f1_ f2_ f3_; have f4_ := f1_.symm; have f5_ := f3_.symm; clear f1_ f2_ f3_; subst f4_; subst f5_))
                        refine norm_ (a' := ?_) ?_ ?_
                        rotate_left
                        · simp only [putAll, Act.put, List.setIfInBounds_toArray, List.set_cons_zero, List.set_cons_succ]
                          rfl
                        refine one_ (i := 10) (N := none) #[true, true, true, true, true, true, true, true, true, true, true, false] rfl rfl (one_of HT_.out (by kernel_rfl)) (by decide) (fun K hK => ?_)
                        have hs43 : w41.cell? ⟨gb275, 0, none⟩ = some (.slice none 0 0) := (blk_cell BK275.out 0).trans rfl
                        have hfs43 := blk_frozen BK275.out 0
                        have hns43_0 := NB257_275.out
                        have hns43_1 := NB258_275.out
                        have hns43_2 := NB266_275.out
                        have hms43_0 := NB275_257.out
                        have hms43_1 := NB275_258.out
                        have hms43_2 := NB275_266.out
                        have hs45 : w41.cell? ⟨gb275, 1, none⟩ = some (.slice none 0 0) := (blk_cell BK275.out 1).trans rfl
                        have hfs45 := blk_frozen BK275.out 1
                        have hns45_0 := NB257_275.out
                        have hns45_1 := NB258_275.out
                        have hns45_2 := NB266_275.out
                        have hms45_0 := NB275_257.out
                        have hms45_1 := NB275_258.out
                        have hms45_2 := NB275_266.out
                        refine skip_ (w1 := ?_) (by rfl) rfl ?_ ?_
                        rotate_left
                        · go_simp
                          rfl
                        refine hK.out _ _ ⟨((cell_far (p := ⟨gb275, _, none⟩) NB266_275.out _).trans (((cell_far (p := ⟨gb275, _, none⟩) NB266_275.out _).trans (hHeld.1)))), ((cell_far (p := ⟨gb275, _, none⟩) NB266_275.out _).trans (((cell_far (p := ⟨gb275, _, none⟩) NB266_275.out _).trans (hHeld.2.1)))), ((cell_far (p := ⟨gb275, _, none⟩) (by first | exact Nat.ne_of_lt (Nat.lt_of_lt_of_le (by have := World.block_lt_of_cell? _ _ hw267_0; first | rwa [add_block] at this | exact this) GW275.out) | (rw [add_block]; exact Nat.ne_of_lt (Nat.lt_of_lt_of_le (by have := World.block_lt_of_cell? _ _ hw267_0; first | rwa [add_block] at this | exact this) GW275.out)) | (show (Addr.add _ _).block ≠ _; rw [add_block]; exact Nat.ne_of_lt (Nat.lt_of_lt_of_le (by have := World.block_lt_of_cell? _ _ hw267_0; first | rwa [add_block] at this | exact this) GW275.out)) | (dsimp only; exact Nat.ne_of_lt (Nat.lt_of_lt_of_le (by have := World.block_lt_of_cell? _ _ hw267_0; first | rwa [add_block] at this | exact this) GW275.out))) _).trans (((cell_far (p := ⟨gb275, _, none⟩) (by first | exact Nat.ne_of_lt (Nat.lt_of_lt_of_le (by have := World.block_lt_of_cell? _ _ hw267_0; first | rwa [add_block] at this | exact this) GW275.out) | (rw [add_block]; exact Nat.ne_of_lt (Nat.lt_of_lt_of_le (by have := World.block_lt_of_cell? _ _ hw267_0; first | rwa [add_block] at this | exact this) GW275.out)) | (show (Addr.add _ _).block ≠ _; rw [add_block]; exact Nat.ne_of_lt (Nat.lt_of_lt_of_le (by have := World.block_lt_of_cell? _ _ hw267_0; first | rwa [add_block] at this | exact this) GW275.out)) | (dsimp only; exact Nat.ne_of_lt (Nat.lt_of_lt_of_le (by have := World.block_lt_of_cell? _ _ hw267_0; first | rwa [add_block] at this | exact this) GW275.out))) _).trans (hHeld.2.2.1)))), ((cell_far (p := ⟨gb275, _, none⟩) (by first | exact Nat.ne_of_lt (Nat.lt_of_lt_of_le (by have := World.block_lt_of_cell? _ _ hw267_1; first | rwa [add_block] at this | exact this) GW275.out) | (rw [add_block]; exact Nat.ne_of_lt (Nat.lt_of_lt_of_le (by have := World.block_lt_of_cell? _ _ hw267_1; first | rwa [add_block] at this | exact this) GW275.out)) | (show (Addr.add _ _).block ≠ _; rw [add_block]; exact Nat.ne_of_lt (Nat.lt_of_lt_of_le (by have := World.block_lt_of_cell? _ _ hw267_1; first | rwa [add_block] at this | exact this) GW275.out)) | (dsimp only; exact Nat.ne_of_lt (Nat.lt_of_lt_of_le (by have := World.block_lt_of_cell? _ _ hw267_1; first | rwa [add_block] at this | exact this) GW275.out))) _).trans (((cell_far (p := ⟨gb275, _, none⟩) (by first | exact Nat.ne_of_lt (Nat.lt_of_lt_of_le (by have := World.block_lt_of_cell? _ _ hw267_1; first | rwa [add_block] at this | exact this) GW275.out) | (rw [add_block]; exact Nat.ne_of_lt (Nat.lt_of_lt_of_le (by have := World.block_lt_of_cell? _ _ hw267_1; first | rwa [add_block] at this | exact this) GW275.out)) | (show (Addr.add _ _).block ≠ _; rw [add_block]; exact Nat.ne_of_lt (Nat.lt_of_lt_of_le (by have := World.block_lt_of_cell? _ _ hw267_1; first | rwa [add_block] at this | exact this) GW275.out)) | (dsimp only; exact Nat.ne_of_lt (Nat.lt_of_lt_of_le (by have := World.block_lt_of_cell? _ _ hw267_1; first | rwa [add_block] at this | exact this) GW275.out))) _).trans (hHeld.2.2.2.1)))), ((cell_far (p := ⟨gb275, _, none⟩) (by first | exact Nat.ne_of_lt (Nat.lt_of_lt_of_le (by have := World.block_lt_of_cell? _ _ hw267_2; first | rwa [add_block] at this | exact this) GW275.out) | (rw [add_block]; exact Nat.ne_of_lt (Nat.lt_of_lt_of_le (by have := World.block_lt_of_cell? _ _ hw267_2; first | rwa [add_block] at this | exact this) GW275.out)) | (show (Addr.add _ _).block ≠ _; rw [add_block]; exact Nat.ne_of_lt (Nat.lt_of_lt_of_le (by have := World.block_lt_of_cell? _ _ hw267_2; first | rwa [add_block] at this | exact this) GW275.out)) | (dsimp only; exact Nat.ne_of_lt (Nat.lt_of_lt_of_le (by have := World.block_lt_of_cell? _ _ hw267_2; first | rwa [add_block] at this | exact this) GW275.out))) _).trans (((cell_far (p := ⟨gb275, _, none⟩) (by first | exact Nat.ne_of_lt (Nat.lt_of_lt_of_le (by have := World.block_lt_of_cell? _ _ hw267_2; first | rwa [add_block] at this | exact this) GW275.out) | (rw [add_block]; exact Nat.ne_of_lt (Nat.lt_of_lt_of_le (by have := World.block_lt_of_cell? _ _ hw267_2; first | rwa [add_block] at this | exact this) GW275.out)) | (show (Addr.add _ _).block ≠ _; rw [add_block]; exact Nat.ne_of_lt (Nat.lt_of_lt_of_le (by have := World.block_lt_of_cell? _ _ hw267_2; first | rwa [add_block] at this | exact this) GW275.out)) | (dsimp only; exact Nat.ne_of_lt (Nat.lt_of_lt_of_le (by have := World.block_lt_of_cell? _ _ hw267_2; first | rwa [add_block] at this | exact this) GW275.out))) _).trans (hHeld.2.2.2.2))))⟩ (fun hHeld => ?_)
                        clear hK K
                        refine Rgn.pu HT_.out 11 10 ?_
                        refine done_ (done_of HT_.out (by kernel_rfl)) ?_
                        have hnb46 := NB275_257.out
                        have hnc46 := NB257_275.out
                        have hnb47 := NB275_258.out
                        have hnc47 := NB258_275.out
                        have hnb48 := NB275_266.out
                        have hnc48 := NB266_275.out
                        have hcz49_0 : w41.cell? ⟨gb275, 0, none⟩ = some (.slice none 0 0) := (blk_cell BK275.out 0).trans rfl
                        have hcz49_1 : w41.cell? ⟨gb275, 1, none⟩ = some (.slice none 0 0) := (blk_cell BK275.out 1).trans rfl
                        have hfz49_0 := blk_frozen BK275.out 0
                        have hfz49_1 := blk_frozen BK275.out 1
                        have hnb50 := NB266_257.out
                        have hnc50 := NB257_266.out
                        have hnb51 := NB266_258.out
                        have hnc51 := NB258_266.out
                        have hcz52_0 : w41.cell? ⟨gb266, 0, none⟩ = some (.slice Ao36 x267000_2.length co36) := (blk_cell BK266.out 0).trans rfl
                        have hcz52_1 : w41.cell? ⟨gb266, 1, none⟩ = some (.slice Ao37 x267001_2.length co37) := (blk_cell BK266.out 1).trans rfl
                        have hfz52_0 := blk_frozen BK266.out 0
                        have hfz52_1 := blk_frozen BK266.out 1
                        try go_wp2
                        go_roundg kj27
                        case measure => have := HJ3.out; have := HK2.out; have := HJ27.out; omega
                        case rel => exact ⟨(wrap64 (x8_2 + 1)), (t268), (t271), (.slice Ao42 t268.length co42), (.slice Ao44 t271.length co44), (by first | rfl | (simp; done) | (simp [*]; done)), H', ⟨by have := HJ3.out; have := HK2.out; have := HJ27.out; omega⟩, ⟨by (with_reducible repeat (first | apply Kd.R_alloc | apply Kd.R_drewN | apply Kd.R_drew)); exact Kd.R_mono (Kd.R_far (p := ⟨gb266, 1, none⟩) (Kd.R_far (p := ⟨gb266, 0, none⟩) (Kd.R_far (p := ⟨gb275, 1, none⟩) (Kd.R_far (p := ⟨gb275, 0, none⟩) (Kd.R_types (Kd.R_types HO270.out BK275.out (by decide)) BK266.out (by decide)) (fun _ hk => hk.1.2) (.slice Ao42 t268.length co42)) (fun _ hk => hk.1.2) (.slice Ao44 t271.length co44)) (fun _ hk => hk.2) (.slice Ao42 t268.length co42)) (fun _ hk => hk.2) (.slice Ao44 t271.length co44)) (fun _ hk => hk.1.1)⟩, ⟨by (with_reducible repeat (first | apply Kd.S_alloc | apply Kd.S_drewN | apply Kd.S_drew)); exact Kd.S_mono (Kd.S_far (p := ⟨gb266, 1, none⟩) (Kd.S_far (p := ⟨gb266, 0, none⟩) (Kd.S_far (p := ⟨gb275, 1, none⟩) (Kd.S_far (p := ⟨gb275, 0, none⟩) (Kd.S_mono (Kd.S_mono HO273.out (fun k_ hk => (⟨hk, hk.2.2.2.2.2⟩ : _ ∧ k_ ≠ gb275))) (fun k_ hk => (⟨hk, hk.1.2.2.2.2.1⟩ : _ ∧ k_ ≠ gb266))) (fun _ hk => hk.1.2) (.slice Ao42 t268.length co42)) (fun _ hk => hk.1.2) (.slice Ao44 t271.length co44)) (fun _ hk => hk.2) (.slice Ao42 t268.length co42)) (fun _ hk => hk.2) (.slice Ao44 t271.length co44)) (fun _ hk => ⟨hk.1.1.1, ⟨hk.1.1.2.1, ⟨hk.1.1.2.2.1, ⟨hk.1.1.2.2.2.1, hk.1.1.2.2.2.2.1⟩⟩⟩⟩)⟩, ⟨by (with_reducible repeat (first | refine blk_drewN ?_ _ | refine blk_drew ?_ | refine blk_alloc ?_ _)); refine blk_far ?_ NB257_266.out _; (with_reducible repeat (first | refine blk_drewN ?_ _ | refine blk_drew ?_ | refine blk_alloc ?_ _)); refine blk_far ?_ NB257_266.out _; (with_reducible repeat (first | refine blk_drewN ?_ _ | refine blk_drew ?_ | refine blk_alloc ?_ _)); refine blk_far ?_ NB257_275.out _; (with_reducible repeat (first | refine blk_drewN ?_ _ | refine blk_drew ?_ | refine blk_alloc ?_ _)); refine blk_far ?_ NB257_275.out _; (with_reducible repeat (first | refine blk_drewN ?_ _ | refine blk_drew ?_ | refine blk_alloc ?_ _)); exact BK257.out⟩, ⟨by (with_reducible repeat (first | refine blk_drewN ?_ _ | refine blk_drew ?_ | refine blk_alloc ?_ _)); refine blk_far ?_ NB258_266.out _; (with_reducible repeat (first | refine blk_drewN ?_ _ | refine blk_drew ?_ | refine blk_alloc ?_ _)); refine blk_far ?_ NB258_266.out _; (with_reducible repeat (first | refine blk_drewN ?_ _ | refine blk_drew ?_ | refine blk_alloc ?_ _)); refine blk_far ?_ NB258_275.out _; (with_reducible repeat (first | refine blk_drewN ?_ _ | refine blk_drew ?_ | refine blk_alloc ?_ _)); refine blk_far ?_ NB258_275.out _; (with_reducible repeat (first | refine blk_drewN ?_ _ | refine blk_drew ?_ | refine blk_alloc ?_ _)); exact BK258.out⟩, ⟨by (with_reducible repeat (first | refine blk_drewN ?_ _ | refine blk_drew ?_ | refine blk_alloc ?_ _)); refine blk_put (cs := #[.slice Ao42 t268.length co42, .slice Ao37 x267001_2.length co37]) ?_ 1 _ rfl; (with_reducible repeat (first | refine blk_drewN ?_ _ | refine blk_drew ?_ | refine blk_alloc ?_ _)); refine blk_put (cs := #[.slice Ao36 x267000_2.length co36, .slice Ao37 x267001_2.length co37]) ?_ 0 _ rfl; (with_reducible repeat (first | refine blk_drewN ?_ _ | refine blk_drew ?_ | refine blk_alloc ?_ _)); refine blk_far ?_ NB266_275.out _; (with_reducible repeat (first | refine blk_drewN ?_ _ | refine blk_drew ?_ | refine blk_alloc ?_ _)); refine blk_far ?_ NB266_275.out _; (with_reducible repeat (first | refine blk_drewN ?_ _ | refine blk_drew ?_ | refine blk_alloc ?_ _)); exact BK266.out⟩, ⟨Rgn.bq HB.out⟩⟩
                      · replace c35 := Bool.eq_false_iff.mpr c35
                        subst c35
                        have H1 : (some (([] : List Int), ([] : List (S62)))) = some (r1, r2) := by rw [if_neg (show ¬ (false = true) by decide)] at H; exact H
                        clear H
                        have H := H1
                        clear H1
                        simp only [Option.some.injEq, Prod.mk.injEq] at H
                        obtain ⟨rfl, rfl⟩ := H
                        obtain ⟨Ao53, co53, eo53⟩ := Kd.R_slice HO_267000.out
                        subst eo53
                        obtain ⟨Ao54, co54, eo54⟩ := Kd.S_slice HO_267001.out
                        subst eo54
                        try go_wp2
                        have n0_ := Aside0.mk (Kd.R_drew HO_267000.out)
                        have n1_ := Aside0.mk (Kd.S_drew HO_267001.out)
                        have n2_ := Aside0.mk (blk_drew BK257.out)
                        have n3_ := Aside0.mk (blk_drew BK258.out)
                        have n4_ := Aside0.mk (blk_drew BK266.out)
                        have n5_ := Aside0.mk (below_drew1 HB.out)
                        clear HO_267000
                        clear HO_267001
                        clear BK257
                        clear BK258
                        clear BK266
                        clear HB
                        have HO_267000 := n0_
                        have HO_267001 := n1_
                        have BK257 := n2_
                        have BK258 := n3_
                        have BK266 := n4_
                        have HB := n5_
                        clear n0_ n1_ n2_ n3_ n4_ n5_
                        have p267 : 0 ≤ (x8_2 : Int) := of_decide_eq_true (by first | (with_reducible assumption) | assumption)
                        have q267 : x8_2 < (l1.length : Int) := of_decide_eq_true (by first | (with_reducible assumption) | assumption)
                        obtain ⟨ad267, A267_2, c267_2, e267, hx267_0, hx267_1, hx267_2, hl267_2, hi267_2⟩ := at_T93 HR1.out x8_2 p267 q267
                        have hw267_2 := hx267_2
                        have hw267_1 := hx267_1
                        have hw267_0 := hx267_0
                        cases e267
                        replace hx267_0 := (HB.out.cell (World.block_lt_of_cell? w _ hx267_0)).trans hx267_0
                        replace hx267_1 := (HB.out.cell (World.block_lt_of_cell? w _ hx267_1)).trans hx267_1
                        replace hx267_2 := (HB.out.cell (World.block_lt_of_cell? w _ hx267_2)).trans hx267_2
                        have HR267_2 := Aside0.mk hi267_2
                        have HC267_2 := Aside0.mk hl267_2
                        clear hi267_2 hl267_2
                        replace p267 := eq_true p267
                        replace q267 := eq_true q267
                        refine start_ (n := 12) (S := fun w' => w'.cell? ⟨gb266, 0, none⟩ = some (.slice Ao53 x267000_2.length co53) ∧ w'.cell? ⟨gb266, 1, none⟩ = some (.slice Ao54 x267001_2.length co54) ∧ w'.cell? (ad267.add ((x8_2).toNat * 3)) = some (.int .i64 ((rd_T93 l1 x8_2).f0)) ∧ w'.cell? ⟨(ad267.add ((x8_2).toNat * 3)).block, (ad267.add ((x8_2).toNat * 3)).off + 1, none⟩ = some (.int .i64 ((rd_T93 l1 x8_2).f1)) ∧ w'.cell? ⟨(ad267.add ((x8_2).toNat * 3)).block, (ad267.add ((x8_2).toNat * 3)).off + 2, none⟩ = some (.slice A267_2 ((rd_T93 l1 x8_2).f2).length c267_2)) (ds := []) #[false, false, false, false, false, false, false, false, false, false, false, false] (by kernel_rfl) rfl rfl ⟨(blk_cell BK266.out 0).trans rfl, (blk_cell BK266.out 1).trans rfl, ((HB.out.cell (World.block_lt_of_cell? w _ hw267_0)).trans hw267_0), ((HB.out.cell (World.block_lt_of_cell? w _ hw267_1)).trans hw267_1), ((HB.out.cell (World.block_lt_of_cell? w _ hw267_2)).trans hw267_2)⟩ (fun hHeld => ?_); refine with_tabW spec_DiskDo.tab7 spec_DiskDo.bits7 (fun HT_ HW_ => ?_)
                        generalize wc.drew = w55 at HO_267000 HO_267001 BK257 BK258 BK266 HB HR267_2 hx267_0 hx267_1 hx267_2 hHeld ⊢
                        refine Rgn.pu HT_.out 1 39 ?_
                        refine Rgn.pu HT_.out 2 40 ?_
                        refine Rgn.pu HT_.out 3 41 ?_
                        refine Rgn.tk HT_.out HW_.out 0 38 hHeld ?_
                        refine Rgn.tk HT_.out HW_.out 4 42 hHeld ?_
                        refine join_ (σ := Value × Value × Nat) 2 #[true, true, true, true, true, true, true, true, true, true, false, false] (fun s_ => [(43, .tuple #[.agg #[s_.1, s_.2.1], .bool false]), (9, .pointer (some ⟨s_.2.2, 0, none⟩)), (37, .tuple #[.agg #[s_.1, s_.2.1], .bool false]), (44, .agg #[s_.1, s_.2.1]), (45, .bool false)]) (fun s_ w' => (w'.cell? ⟨gb266, 0, none⟩ = some (.slice Ao53 x267000_2.length co53) ∧ w'.cell? ⟨gb266, 1, none⟩ = some (.slice Ao54 x267001_2.length co54) ∧ w'.cell? (ad267.add ((x8_2).toNat * 3)) = some (.int .i64 ((rd_T93 l1 x8_2).f0)) ∧ w'.cell? ⟨(ad267.add ((x8_2).toNat * 3)).block, (ad267.add ((x8_2).toNat * 3)).off + 1, none⟩ = some (.int .i64 ((rd_T93 l1 x8_2).f1)) ∧ w'.cell? ⟨(ad267.add ((x8_2).toNat * 3)).block, (ad267.add ((x8_2).toNat * 3)).off + 2, none⟩ = some (.slice A267_2 ((rd_T93 l1 x8_2).f2).length c267_2)) ∧ (Kd.R (Kd.int .u8) 5 w' w.heap.size (fun k_ => (w.heap.size ≤ k_)) s_.1 t268) ∧ (Kd.S k62 62 w' w.heap.size (fun k_ => (w.heap.size ≤ k_) ∧ some k_ ≠ (s_.1 : Value).ownBlock ∧ k_ ≠ gb257 ∧ k_ ≠ gb258 ∧ k_ ≠ gb266 ∧ k_ ≠ s_.2.2) s_.2.1 t271) ∧ True ∧ (w'.heap[gb257]? = some (.cells #[.slice A0_0 l0_0.length c0_0, .slice A0_1 l0_1.length c0_1] 29 (0, 0))) ∧ (w'.heap[gb258]? = some (.cells #[.slice none 0 0, .slice none 0 0] 29 (0, 0))) ∧ (w'.heap[gb266]? = some (.cells #[.slice Ao53 x267000_2.length co53, .slice Ao54 x267001_2.length co54] 29 (0, 0))) ∧ (w'.heap[s_.2.2]? = some (.cells #[.slice none 0 0, .slice none 0 0] 29 (0, 0))) ∧ (w.heap.size ≤ s_.2.2) ∧ (w.heap.size ≤ s_.2.2) ∧ (gb257 ≠ s_.2.2) ∧ (s_.2.2 ≠ gb257) ∧ (gb258 ≠ s_.2.2) ∧ (s_.2.2 ≠ gb258) ∧ (gb266 ≠ s_.2.2) ∧ (s_.2.2 ≠ gb266) ∧ (Below w.heap.size w w')) ?_ ?_
                        rotate_left
                        · intro hCont
                          refine two_ (i := 5) (j := 9) (Ni := some 43) (Nj := some 9) #[true, true, true, true, true, true, false, false, false, false, false, false] #[true, true, true, true, true, false, false, false, false, true, false, false] rfl rfl rfl rfl (two_of HT_.out (by kernel_rfl)) (by decide) (by decide) (fun K hK => ?_) (fun K hK => ?_)
                          · skip
                            refine Rgn.gs Try.func86 #[.agg #[.slice Ao53 x267000_2.length co53, .slice Ao54 x267001_2.length co54], .agg #[.int .i64 ((rd_T93 l1 x8_2).f0), .int .i64 ((rd_T93 l1 x8_2).f1), .slice A267_2 ((rd_T93 l1 x8_2).f2).length c267_2]] ?_
                            with_reducible refine (spec_l1Do.calls kj27 (fun k_ => some k_ = (.slice Ao53 x267000_2.length co53 : Value).ownBlock) (.slice Ao53 x267000_2.length co53) x267000_2 (fun k_ => ((w.heap.size ≤ k_) ∧ (some k_ ≠ (.slice Ao53 x267000_2.length co53 : Value).ownBlock ∧ (k_ ≠ gb257 ∧ (k_ ≠ gb258 ∧ k_ ≠ gb266))))) _ _ x267001_2 ((rd_T93 l1 x8_2).f0) ((rd_T93 l1 x8_2).f1) _ _ ((rd_T93 l1 x8_2).f2) t268 t271 false w _ ?side1 ?side2 ?side3 ?side4 ?side5 A34.out).mono ?_
                            (case side1 => exact Rgn.bq HB.out)
                            (case side2 => exact Kd.R_tight rfl HO_267000.out)
                            (case side3 => exact Kd.S_mono (HO_267001.out) (fun k_ hk_ => ⟨hk_, hk_.2.1⟩))
                            (case side4 => exact Kd.C_kept_came (Kd.heap_int .u8) HR267_2.out (Rgn.bq HB.out) (fun k_ hs_ => Or.elim hs_ (fun e_ => Kd.R_base HO_267000.out k_ e_.symm) (fun h_ => h_.1)))
                            (case side5 => exact HC267_2.out)
                            rintro e w56 ⟨v269, v272, rfl, ho0, ho1, hb, hkp⟩
                            refine ⟨_, rfl, ?_⟩
                            have n0_ := Aside0.mk trivial
                            have n1_ := Aside0.mk (blk_kept (Rgn.kb BK257.out) hkp (fun hs_ => Or.elim hs_ (fun e_ => (Kd.R_ne HO_267000.out BK257.out (by decide)) e_) (fun h_ => h_.2.2.1 rfl)))
                            have n2_ := Aside0.mk (blk_kept (Rgn.kb BK258.out) hkp (fun hs_ => Or.elim hs_ (fun e_ => (Kd.R_ne HO_267000.out BK258.out (by decide)) e_) (fun h_ => h_.2.2.2.1 rfl)))
                            have n3_ := Aside0.mk (blk_kept (Rgn.kb BK266.out) hkp (fun hs_ => Or.elim hs_ (fun e_ => (Kd.R_ne HO_267000.out BK266.out (by decide)) e_) (fun h_ => h_.2.2.2.2 rfl)))
                            have n4_ := Aside0.mk (Kd.R_mono (ok' := fun k_ => (w.heap.size ≤ k_)) ho0 (fun k_ hk_ => Or.elim hk_ (fun hs_ => (HO_267000.out.1 k_ (hs_).symm)) (fun hn_ => (Nat.le_trans (below_size (Rgn.bq HB.out)) hn_))))
                            have n5_ := Aside0.mk (Kd.S_mono (ok' := fun k_ => (w.heap.size ≤ k_) ∧ some k_ ≠ (v269 : Value).ownBlock ∧ k_ ≠ gb257 ∧ k_ ≠ gb258 ∧ k_ ≠ gb266) ho1 (fun k_ hk_ => ⟨Or.elim hk_.1 (fun hs_ => Or.elim hs_ (fun hs_ => (HO_267000.out.1 k_ (hs_).symm)) (fun hs_ => hs_.1)) (fun hn_ => (Nat.le_trans (below_size (Rgn.bq HB.out)) hn_)), hk_.2, Or.elim hk_.1 (fun hs_ => Or.elim hs_ (fun hs_ => fun e_ => (Kd.R_ne HO_267000.out BK257.out (by decide)) (by rw [← e_]; exact hs_)) (fun hs_ => hs_.2.2.1)) (fun hn_ => (Kd.freshB (g := gb257) (o := .cells #[.slice A0_0 l0_0.length c0_0, .slice A0_1 l0_1.length c0_1] 29 (0, 0)) (Rgn.kb BK257.out) k_ hn_)), Or.elim hk_.1 (fun hs_ => Or.elim hs_ (fun hs_ => fun e_ => (Kd.R_ne HO_267000.out BK258.out (by decide)) (by rw [← e_]; exact hs_)) (fun hs_ => hs_.2.2.2.1)) (fun hn_ => (Kd.freshB (g := gb258) (o := .cells #[.slice none 0 0, .slice none 0 0] 29 (0, 0)) (Rgn.kb BK258.out) k_ hn_)), Or.elim hk_.1 (fun hs_ => Or.elim hs_ (fun hs_ => fun e_ => (Kd.R_ne HO_267000.out BK266.out (by decide)) (by rw [← e_]; exact hs_)) (fun hs_ => hs_.2.2.2.2)) (fun hn_ => (Kd.freshB (g := gb266) (o := .cells #[.slice Ao53 x267000_2.length co53, .slice Ao54 x267001_2.length co54] 29 (0, 0)) (Rgn.kb BK266.out) k_ hn_))⟩))
                            have n6_ := Aside0.mk (hb)
                            clear HO_267001
                            clear BK257
                            clear BK258
                            clear BK266
                            clear HB
                            clear HO_267000
                            have HO_267001 := n0_
                            have BK257 := n1_
                            have BK258 := n2_
                            have BK266 := n3_
                            have HO270 := n4_
                            have HO273 := n5_
                            have HB := n6_
                            clear n0_ n1_ n2_ n3_ n4_ n5_ n6_
                            (try clear hb)
                            (try clear hkp)
                            (try clear ho0)
                            (try clear ho1)
                            refine hK.out _ _ ⟨(blk_cell BK266.out 0).trans rfl, (blk_cell BK266.out 1).trans rfl, ((HB.out.cell (World.block_lt_of_cell? w _ hw267_0)).trans hw267_0), ((HB.out.cell (World.block_lt_of_cell? w _ hw267_1)).trans hw267_1), ((HB.out.cell (World.block_lt_of_cell? w _ hw267_2)).trans hw267_2)⟩ (fun hHeld => ?_)
                            clear hK K
                            refine norm_ (a' := ?_) ?_ ?_
                            rotate_left
                            · show Act.put _ (some 43) _ = _
                              simp only [Act.put, List.setIfInBounds_toArray, List.set_cons_zero, List.set_cons_succ, i64_w, i32_w]
                              rfl
                            refine Rgn.pu HT_.out 6 37 ?_
                            refine Rgn.pu HT_.out 7 44 ?_
                            refine Rgn.pu HT_.out 8 45 ?_
                            refine one_ (i := 9) (N := some 9) #[true, true, true, true, true, true, true, true, true, true, false, false] rfl rfl (one_of HT_.out (by kernel_rfl)) (by decide) (fun K hK => ?_)
                            refine box_step ?hg (N := 9) ?hd (cs := #[.slice none 0 0, .slice none 0 0]) (t := 29) ?hr ?_; (case hd => rfl); (case hg => rfl); (case hr => first | (go_simp; done) | (go_simp; rfl))
                            intro gb275 hg w57 hbox hb
                            have n0_ := Aside0.mk trivial
                            have n1_ := Aside0.mk (Kd.R_below (Rgn.rq HO270.out) hb)
                            have n2_ := Aside0.mk (Kd.S_below (Kd.S_elderB (by (with_reducible repeat (first | apply Kd.S_alloc | apply Kd.S_drewN | apply Kd.S_drew)); exact HO273.out) gb275 (Nat.le_of_eq hg.symm)) hb)
                            have n3_ := Aside0.mk (Rgn.bb BK257.out hb)
                            have n4_ := Aside0.mk (Rgn.bb BK258.out hb)
                            have n5_ := Aside0.mk (Rgn.bb BK266.out hb)
                            have n6_ := Aside0.mk (below_step (Rgn.bq HB.out) hb)
                            have n7_ := Aside0.mk (hbox)
                            have n8_ := Aside0.mk ((by rw [hg]; exact (below_size (Rgn.bq HB.out)) : w.heap.size ≤ gb275))
                            have n9_ := Aside0.mk ((by rw [hg]; exact (below_size (Rgn.bq HB.out)) : w.heap.size ≤ gb275))
                            have n10_ := Aside0.mk ((by rw [hg]; exact Nat.ne_of_lt (blk_lt (g := gb257) (o := .cells #[.slice A0_0 l0_0.length c0_0, .slice A0_1 l0_1.length c0_1] 29 (0, 0)) (Rgn.kb BK257.out)) : gb257 ≠ gb275))
                            have n11_ := Aside0.mk ((by rw [hg]; exact Nat.ne_of_gt (blk_lt (g := gb257) (o := .cells #[.slice A0_0 l0_0.length c0_0, .slice A0_1 l0_1.length c0_1] 29 (0, 0)) (Rgn.kb BK257.out)) : gb275 ≠ gb257))
                            have n12_ := Aside0.mk ((by rw [hg]; exact Nat.ne_of_lt (blk_lt (g := gb258) (o := .cells #[.slice none 0 0, .slice none 0 0] 29 (0, 0)) (Rgn.kb BK258.out)) : gb258 ≠ gb275))
                            have n13_ := Aside0.mk ((by rw [hg]; exact Nat.ne_of_gt (blk_lt (g := gb258) (o := .cells #[.slice none 0 0, .slice none 0 0] 29 (0, 0)) (Rgn.kb BK258.out)) : gb275 ≠ gb258))
                            have n14_ := Aside0.mk ((by rw [hg]; exact Nat.ne_of_lt (blk_lt (g := gb266) (o := .cells #[.slice Ao53 x267000_2.length co53, .slice Ao54 x267001_2.length co54] 29 (0, 0)) (Rgn.kb BK266.out)) : gb266 ≠ gb275))
                            have n15_ := Aside0.mk ((by rw [hg]; exact Nat.ne_of_gt (blk_lt (g := gb266) (o := .cells #[.slice Ao53 x267000_2.length co53, .slice Ao54 x267001_2.length co54] 29 (0, 0)) (Rgn.kb BK266.out)) : gb275 ≠ gb266))
                            clear HO_267001
                            clear HO270
                            clear HO273
                            clear BK257
                            clear BK258
                            clear BK266
                            clear HB
                            have HO_267001 := n0_
                            have HO270 := n1_
                            have HO273 := n2_
                            have BK257 := n3_
                            have BK258 := n4_
                            have BK266 := n5_
                            have HB := n6_
                            have BK275 := n7_
                            have GW275 := n8_
                            have GE275 := n9_
                            have NB257_275 := n10_
                            have NB275_257 := n11_
                            have NB258_275 := n12_
                            have NB275_258 := n13_
                            have NB266_275 := n14_
                            have NB275_266 := n15_
                            clear n0_ n1_ n2_ n3_ n4_ n5_ n6_ n7_ n8_ n9_ n10_ n11_ n12_ n13_ n14_ n15_
                            clear hb hbox hg
                            refine hK.out _ _ ⟨(blk_cell BK266.out 0).trans rfl, (blk_cell BK266.out 1).trans rfl, ((HB.out.cell (World.block_lt_of_cell? w _ hw267_0)).trans hw267_0), ((HB.out.cell (World.block_lt_of_cell? w _ hw267_1)).trans hw267_1), ((HB.out.cell (World.block_lt_of_cell? w _ hw267_2)).trans hw267_2)⟩ (fun hHeld => ?_)
                            clear hK K
                            refine norm_ (a' := ?_) ?_ ?_
                            rotate_left
                            · show Act.put _ (some 9) _ = _
                              simp only [Act.put, List.setIfInBounds_toArray, List.set_cons_zero, List.set_cons_succ, i64_w, i32_w]
                              rfl
                            exact norm_ (by simp only [putAll, Act.put, List.setIfInBounds_toArray, List.set_cons_zero, List.set_cons_succ]) (hCont (v269, v272, gb275) _ ⟨hHeld, (Rgn.rq HO270.out), (by (with_reducible repeat (first | apply Kd.S_alloc | apply Kd.S_drewN | apply Kd.S_drew)); exact Kd.S_mono HO273.out (fun _ hk => ⟨hk.1.1, ⟨hk.1.2.1, ⟨hk.1.2.2.1, ⟨hk.1.2.2.2.1, ⟨hk.1.2.2.2.2, hk.2⟩⟩⟩⟩⟩)), trivial, (Rgn.kb BK257.out), (Rgn.kb BK258.out), (Rgn.kb BK266.out), (Rgn.kb BK275.out), GW275.out, GE275.out, NB257_275.out, NB275_257.out, NB258_275.out, NB275_258.out, NB266_275.out, NB275_266.out, (Rgn.bq HB.out)⟩)
                          · skip
                            refine box_step ?hg (N := 9) ?hd (cs := #[.slice none 0 0, .slice none 0 0]) (t := 29) ?hr ?_; (case hd => rfl); (case hg => rfl); (case hr => first | (go_simp; done) | (go_simp; rfl))
                            intro gb275 hg w56 hbox hb
                            have n0_ := Aside0.mk (Kd.R_below (Rgn.rq HO_267000.out) hb)
                            have n1_ := Aside0.mk (Kd.S_below (Kd.S_elderB (by (with_reducible repeat (first | apply Kd.S_alloc | apply Kd.S_drewN | apply Kd.S_drew)); exact HO_267001.out) gb275 (Nat.le_of_eq hg.symm)) hb)
                            have n2_ := Aside0.mk (Rgn.bb BK257.out hb)
                            have n3_ := Aside0.mk (Rgn.bb BK258.out hb)
                            have n4_ := Aside0.mk (Rgn.bb BK266.out hb)
                            have n5_ := Aside0.mk (below_step (Rgn.bq HB.out) hb)
                            have n6_ := Aside0.mk (hbox)
                            have n7_ := Aside0.mk ((by rw [hg]; exact (below_size (Rgn.bq HB.out)) : w.heap.size ≤ gb275))
                            have n8_ := Aside0.mk ((by rw [hg]; exact (below_size (Rgn.bq HB.out)) : w.heap.size ≤ gb275))
                            have n9_ := Aside0.mk ((by rw [hg]; exact Nat.ne_of_lt (blk_lt (g := gb257) (o := .cells #[.slice A0_0 l0_0.length c0_0, .slice A0_1 l0_1.length c0_1] 29 (0, 0)) (Rgn.kb BK257.out)) : gb257 ≠ gb275))
                            have n10_ := Aside0.mk ((by rw [hg]; exact Nat.ne_of_gt (blk_lt (g := gb257) (o := .cells #[.slice A0_0 l0_0.length c0_0, .slice A0_1 l0_1.length c0_1] 29 (0, 0)) (Rgn.kb BK257.out)) : gb275 ≠ gb257))
                            have n11_ := Aside0.mk ((by rw [hg]; exact Nat.ne_of_lt (blk_lt (g := gb258) (o := .cells #[.slice none 0 0, .slice none 0 0] 29 (0, 0)) (Rgn.kb BK258.out)) : gb258 ≠ gb275))
                            have n12_ := Aside0.mk ((by rw [hg]; exact Nat.ne_of_gt (blk_lt (g := gb258) (o := .cells #[.slice none 0 0, .slice none 0 0] 29 (0, 0)) (Rgn.kb BK258.out)) : gb275 ≠ gb258))
                            have n13_ := Aside0.mk ((by rw [hg]; exact Nat.ne_of_lt (blk_lt (g := gb266) (o := .cells #[.slice Ao53 x267000_2.length co53, .slice Ao54 x267001_2.length co54] 29 (0, 0)) (Rgn.kb BK266.out)) : gb266 ≠ gb275))
                            have n14_ := Aside0.mk ((by rw [hg]; exact Nat.ne_of_gt (blk_lt (g := gb266) (o := .cells #[.slice Ao53 x267000_2.length co53, .slice Ao54 x267001_2.length co54] 29 (0, 0)) (Rgn.kb BK266.out)) : gb275 ≠ gb266))
                            clear HO_267000
                            clear HO_267001
                            clear BK257
                            clear BK258
                            clear BK266
                            clear HB
                            have HO_267000 := n0_
                            have HO_267001 := n1_
                            have BK257 := n2_
                            have BK258 := n3_
                            have BK266 := n4_
                            have HB := n5_
                            have BK275 := n6_
                            have GW275 := n7_
                            have GE275 := n8_
                            have NB257_275 := n9_
                            have NB275_257 := n10_
                            have NB258_275 := n11_
                            have NB275_258 := n12_
                            have NB266_275 := n13_
                            have NB275_266 := n14_
                            clear n0_ n1_ n2_ n3_ n4_ n5_ n6_ n7_ n8_ n9_ n10_ n11_ n12_ n13_ n14_
                            clear hb hbox hg
                            refine hK.out _ _ ⟨(blk_cell BK266.out 0).trans rfl, (blk_cell BK266.out 1).trans rfl, ((HB.out.cell (World.block_lt_of_cell? w _ hw267_0)).trans hw267_0), ((HB.out.cell (World.block_lt_of_cell? w _ hw267_1)).trans hw267_1), ((HB.out.cell (World.block_lt_of_cell? w _ hw267_2)).trans hw267_2)⟩ (fun hHeld => ?_)
                            clear hK K
                            refine norm_ (a' := ?_) ?_ ?_
                            rotate_left
                            · show Act.put _ (some 9) _ = _
                              simp only [Act.put, List.setIfInBounds_toArray, List.set_cons_zero, List.set_cons_succ, i64_w, i32_w]
                              rfl
                            refine one_ (i := 5) (N := some 43) #[true, true, true, true, true, true, false, false, false, true, false, false] rfl rfl (one_of HT_.out (by kernel_rfl)) (by decide) (fun K hK => ?_)
                            refine Rgn.gs Try.func86 #[.agg #[.slice Ao53 x267000_2.length co53, .slice Ao54 x267001_2.length co54], .agg #[.int .i64 ((rd_T93 l1 x8_2).f0), .int .i64 ((rd_T93 l1 x8_2).f1), .slice A267_2 ((rd_T93 l1 x8_2).f2).length c267_2]] ?_
                            with_reducible refine (spec_l1Do.calls kj27 (fun k_ => some k_ = (.slice Ao53 x267000_2.length co53 : Value).ownBlock) (.slice Ao53 x267000_2.length co53) x267000_2 (fun k_ => (((w.heap.size ≤ k_) ∧ (some k_ ≠ (.slice Ao53 x267000_2.length co53 : Value).ownBlock ∧ (k_ ≠ gb257 ∧ (k_ ≠ gb258 ∧ k_ ≠ gb266)))) ∧ k_ ≠ gb275)) _ _ x267001_2 ((rd_T93 l1 x8_2).f0) ((rd_T93 l1 x8_2).f1) _ _ ((rd_T93 l1 x8_2).f2) t268 t271 false w _ ?side1 ?side2 ?side3 ?side4 ?side5 A34.out).mono ?_
                            (case side1 => exact Rgn.bq HB.out)
                            (case side2 => exact Kd.R_tight rfl HO_267000.out)
                            (case side3 => exact Kd.S_mono (HO_267001.out) (fun k_ hk_ => ⟨hk_, hk_.1.2.1⟩))
                            (case side4 => exact Kd.C_kept_came (Kd.heap_int .u8) HR267_2.out (Rgn.bq HB.out) (fun k_ hs_ => Or.elim hs_ (fun e_ => Kd.R_base HO_267000.out k_ e_.symm) (fun h_ => h_.1.1)))
                            (case side5 => exact HC267_2.out)
                            rintro e w57 ⟨v269, v272, rfl, ho0, ho1, hb, hkp⟩
                            refine ⟨_, rfl, ?_⟩
                            have n0_ := Aside0.mk trivial
                            have n1_ := Aside0.mk (blk_kept (Rgn.kb BK257.out) hkp (fun hs_ => Or.elim hs_ (fun e_ => (Kd.R_ne HO_267000.out BK257.out (by decide)) e_) (fun h_ => h_.1.2.2.1 rfl)))
                            have n2_ := Aside0.mk (blk_kept (Rgn.kb BK258.out) hkp (fun hs_ => Or.elim hs_ (fun e_ => (Kd.R_ne HO_267000.out BK258.out (by decide)) e_) (fun h_ => h_.1.2.2.2.1 rfl)))
                            have n3_ := Aside0.mk (blk_kept (Rgn.kb BK266.out) hkp (fun hs_ => Or.elim hs_ (fun e_ => (Kd.R_ne HO_267000.out BK266.out (by decide)) e_) (fun h_ => h_.1.2.2.2.2 rfl)))
                            have n4_ := Aside0.mk (blk_kept (Rgn.kb BK275.out) hkp (fun hs_ => Or.elim hs_ (fun e_ => (Kd.R_ne HO_267000.out BK275.out (by decide)) e_) (fun h_ => h_.2 rfl)))
                            have n5_ := Aside0.mk (Kd.R_mono (ok' := fun k_ => (w.heap.size ≤ k_)) ho0 (fun k_ hk_ => Or.elim hk_ (fun hs_ => (HO_267000.out.1 k_ (hs_).symm)) (fun hn_ => (Nat.le_trans (below_size (Rgn.bq HB.out)) hn_))))
                            have n6_ := Aside0.mk (Kd.S_mono (ok' := fun k_ => (w.heap.size ≤ k_) ∧ some k_ ≠ (v269 : Value).ownBlock ∧ k_ ≠ gb257 ∧ k_ ≠ gb258 ∧ k_ ≠ gb266 ∧ k_ ≠ gb275) ho1 (fun k_ hk_ => ⟨Or.elim hk_.1 (fun hs_ => Or.elim hs_ (fun hs_ => (HO_267000.out.1 k_ (hs_).symm)) (fun hs_ => hs_.1.1)) (fun hn_ => (Nat.le_trans (below_size (Rgn.bq HB.out)) hn_)), hk_.2, Or.elim hk_.1 (fun hs_ => Or.elim hs_ (fun hs_ => fun e_ => (Kd.R_ne HO_267000.out BK257.out (by decide)) (by rw [← e_]; exact hs_)) (fun hs_ => hs_.1.2.2.1)) (fun hn_ => (Kd.freshB (g := gb257) (o := .cells #[.slice A0_0 l0_0.length c0_0, .slice A0_1 l0_1.length c0_1] 29 (0, 0)) (Rgn.kb BK257.out) k_ hn_)), Or.elim hk_.1 (fun hs_ => Or.elim hs_ (fun hs_ => fun e_ => (Kd.R_ne HO_267000.out BK258.out (by decide)) (by rw [← e_]; exact hs_)) (fun hs_ => hs_.1.2.2.2.1)) (fun hn_ => (Kd.freshB (g := gb258) (o := .cells #[.slice none 0 0, .slice none 0 0] 29 (0, 0)) (Rgn.kb BK258.out) k_ hn_)), Or.elim hk_.1 (fun hs_ => Or.elim hs_ (fun hs_ => fun e_ => (Kd.R_ne HO_267000.out BK266.out (by decide)) (by rw [← e_]; exact hs_)) (fun hs_ => hs_.1.2.2.2.2)) (fun hn_ => (Kd.freshB (g := gb266) (o := .cells #[.slice Ao53 x267000_2.length co53, .slice Ao54 x267001_2.length co54] 29 (0, 0)) (Rgn.kb BK266.out) k_ hn_)), Or.elim hk_.1 (fun hs_ => Or.elim hs_ (fun hs_ => fun e_ => (Kd.R_ne HO_267000.out BK275.out (by decide)) (by rw [← e_]; exact hs_)) (fun hs_ => hs_.2)) (fun hn_ => (Kd.freshB (g := gb275) (o := .cells #[.slice none 0 0, .slice none 0 0] 29 (0, 0)) (Rgn.kb BK275.out) k_ hn_))⟩))
                            have n7_ := Aside0.mk (hb)
                            clear HO_267001
                            clear BK257
                            clear BK258
                            clear BK266
                            clear BK275
                            clear HB
                            clear HO_267000
                            have HO_267001 := n0_
                            have BK257 := n1_
                            have BK258 := n2_
                            have BK266 := n3_
                            have BK275 := n4_
                            have HO270 := n5_
                            have HO273 := n6_
                            have HB := n7_
                            clear n0_ n1_ n2_ n3_ n4_ n5_ n6_ n7_
                            (try clear hb)
                            (try clear hkp)
                            (try clear ho0)
                            (try clear ho1)
                            refine hK.out _ _ ⟨(blk_cell BK266.out 0).trans rfl, (blk_cell BK266.out 1).trans rfl, ((HB.out.cell (World.block_lt_of_cell? w _ hw267_0)).trans hw267_0), ((HB.out.cell (World.block_lt_of_cell? w _ hw267_1)).trans hw267_1), ((HB.out.cell (World.block_lt_of_cell? w _ hw267_2)).trans hw267_2)⟩ (fun hHeld => ?_)
                            clear hK K
                            refine norm_ (a' := ?_) ?_ ?_
                            rotate_left
                            · show Act.put _ (some 43) _ = _
                              simp only [Act.put, List.setIfInBounds_toArray, List.set_cons_zero, List.set_cons_succ, i64_w, i32_w]
                              rfl
                            refine Rgn.pu HT_.out 6 37 ?_
                            refine Rgn.pu HT_.out 7 44 ?_
                            refine Rgn.pu HT_.out 8 45 ?_
                            exact norm_ (by simp only [putAll, Act.put, List.setIfInBounds_toArray, List.set_cons_zero, List.set_cons_succ]) (hCont (v269, v272, gb275) _ ⟨hHeld, (Rgn.rq HO270.out), (by (with_reducible repeat (first | apply Kd.S_alloc | apply Kd.S_drewN | apply Kd.S_drew)); exact HO273.out), trivial, (Rgn.kb BK257.out), (Rgn.kb BK258.out), (Rgn.kb BK266.out), (Rgn.kb BK275.out), GW275.out, GE275.out, NB257_275.out, NB275_257.out, NB258_275.out, NB275_258.out, NB266_275.out, NB275_266.out, (Rgn.bq HB.out)⟩)
                        rintro ⟨v269, v272, gb275⟩ w58 ⟨hS_, h0_, h1_, h2_, h3_, h4_, h5_, h6_, h7_, h8_, h9_, h10_, h11_, h12_, h13_, h14_, h15_⟩
                        have n0_ : Aside0 (Kd.R (Kd.int .u8) 5 w58 w.heap.size (fun k_ => (w.heap.size ≤ k_)) v269 t268) := ⟨h0_⟩
                        have n1_ : Aside0 (Kd.S k62 62 w58 w.heap.size (fun k_ => (w.heap.size ≤ k_) ∧ some k_ ≠ (v269 : Value).ownBlock ∧ k_ ≠ gb257 ∧ k_ ≠ gb258 ∧ k_ ≠ gb266 ∧ k_ ≠ gb275) v272 t271) := ⟨h1_⟩
                        have n2_ : Aside0 True := ⟨h2_⟩
                        have n3_ : Aside0 (w58.heap[gb257]? = some (.cells #[.slice A0_0 l0_0.length c0_0, .slice A0_1 l0_1.length c0_1] 29 (0, 0))) := ⟨h3_⟩
                        have n4_ : Aside0 (w58.heap[gb258]? = some (.cells #[.slice none 0 0, .slice none 0 0] 29 (0, 0))) := ⟨h4_⟩
                        have n5_ : Aside0 (w58.heap[gb266]? = some (.cells #[.slice Ao53 x267000_2.length co53, .slice Ao54 x267001_2.length co54] 29 (0, 0))) := ⟨h5_⟩
                        have n6_ : Aside0 (w58.heap[gb275]? = some (.cells #[.slice none 0 0, .slice none 0 0] 29 (0, 0))) := ⟨h6_⟩
                        have n7_ : Aside0 (w.heap.size ≤ gb275) := ⟨h7_⟩
                        have n8_ : Aside0 (w.heap.size ≤ gb275) := ⟨h8_⟩
                        have n9_ : Aside0 (gb257 ≠ gb275) := ⟨h9_⟩
                        have n10_ : Aside0 (gb275 ≠ gb257) := ⟨h10_⟩
                        have n11_ : Aside0 (gb258 ≠ gb275) := ⟨h11_⟩
                        have n12_ : Aside0 (gb275 ≠ gb258) := ⟨h12_⟩
                        have n13_ : Aside0 (gb266 ≠ gb275) := ⟨h13_⟩
                        have n14_ : Aside0 (gb275 ≠ gb266) := ⟨h14_⟩
                        have n15_ : Aside0 (Below w.heap.size w w58) := ⟨h15_⟩
                        clear HO_267000
                        clear HO_267001
                        clear BK257
                        clear BK258
                        clear BK266
                        clear HB
                        clear h0_ h1_ h2_ h3_ h4_ h5_ h6_ h7_ h8_ h9_ h10_ h11_ h12_ h13_ h14_ h15_
                        have HO270 := n0_
                        have HO273 := n1_
                        have HO_267001 := n2_
                        have BK257 := n3_
                        have BK258 := n4_
                        have BK266 := n5_
                        have BK275 := n6_
                        have GW275 := n7_
                        have GE275 := n8_
                        have NB257_275 := n9_
                        have NB275_257 := n10_
                        have NB258_275 := n11_
                        have NB275_258 := n12_
                        have NB266_275 := n13_
                        have NB275_266 := n14_
                        have HB := n15_
                        clear n0_ n1_ n2_ n3_ n4_ n5_ n6_ n7_ n8_ n9_ n10_ n11_ n12_ n13_ n14_ n15_
                        have hHeld : w58.cell? ⟨gb266, 0, none⟩ = some (.slice Ao53 x267000_2.length co53) ∧ w58.cell? ⟨gb266, 1, none⟩ = some (.slice Ao54 x267001_2.length co54) ∧ w58.cell? (ad267.add ((x8_2).toNat * 3)) = some (.int .i64 ((rd_T93 l1 x8_2).f0)) ∧ w58.cell? ⟨(ad267.add ((x8_2).toNat * 3)).block, (ad267.add ((x8_2).toNat * 3)).off + 1, none⟩ = some (.int .i64 ((rd_T93 l1 x8_2).f1)) ∧ w58.cell? ⟨(ad267.add ((x8_2).toNat * 3)).block, (ad267.add ((x8_2).toNat * 3)).off + 2, none⟩ = some (.slice A267_2 ((rd_T93 l1 x8_2).f2).length c267_2) := hS_
                        obtain ⟨Ao59, co59, eo59⟩ := Kd.R_slice HO270.out
                        (first | subst eo59 | (injection eo59 with f1_ f2_ f3_; have f4_ := f1_.symm; have f5_ := f3_.symm; clear f1_ f2_ f3_; subst f4_; subst f5_))
                        obtain ⟨Ao61, co61, eo61⟩ := Kd.S_slice HO273.out
                        (first | subst eo61 | (injection eo61 with f1_ f2_ f3_; have f4_ := f1_.symm; have f5_ := f3_.symm; clear f1_ f2_ f3_; subst f4_; subst f5_))
                        refine norm_ (a' := ?_) ?_ ?_
                        rotate_left
                        · simp only [putAll, Act.put, List.setIfInBounds_toArray, List.set_cons_zero, List.set_cons_succ]
                          rfl
                        refine one_ (i := 10) (N := none) #[true, true, true, true, true, true, true, true, true, true, true, false] rfl rfl (one_of HT_.out (by kernel_rfl)) (by decide) (fun K hK => ?_)
                        have hs60 : w58.cell? ⟨gb275, 0, none⟩ = some (.slice none 0 0) := (blk_cell BK275.out 0).trans rfl
                        have hfs60 := blk_frozen BK275.out 0
                        have hns60_0 := NB257_275.out
                        have hns60_1 := NB258_275.out
                        have hns60_2 := NB266_275.out
                        have hms60_0 := NB275_257.out
                        have hms60_1 := NB275_258.out
                        have hms60_2 := NB275_266.out
                        have hs62 : w58.cell? ⟨gb275, 1, none⟩ = some (.slice none 0 0) := (blk_cell BK275.out 1).trans rfl
                        have hfs62 := blk_frozen BK275.out 1
                        have hns62_0 := NB257_275.out
                        have hns62_1 := NB258_275.out
                        have hns62_2 := NB266_275.out
                        have hms62_0 := NB275_257.out
                        have hms62_1 := NB275_258.out
                        have hms62_2 := NB275_266.out
                        refine skip_ (w1 := ?_) (by rfl) rfl ?_ ?_
                        rotate_left
                        · go_simp
                          rfl
                        refine hK.out _ _ ⟨((cell_far (p := ⟨gb275, _, none⟩) NB266_275.out _).trans (((cell_far (p := ⟨gb275, _, none⟩) NB266_275.out _).trans (hHeld.1)))), ((cell_far (p := ⟨gb275, _, none⟩) NB266_275.out _).trans (((cell_far (p := ⟨gb275, _, none⟩) NB266_275.out _).trans (hHeld.2.1)))), ((cell_far (p := ⟨gb275, _, none⟩) (by first | exact Nat.ne_of_lt (Nat.lt_of_lt_of_le (by have := World.block_lt_of_cell? _ _ hw267_0; first | rwa [add_block] at this | exact this) GW275.out) | (rw [add_block]; exact Nat.ne_of_lt (Nat.lt_of_lt_of_le (by have := World.block_lt_of_cell? _ _ hw267_0; first | rwa [add_block] at this | exact this) GW275.out)) | (show (Addr.add _ _).block ≠ _; rw [add_block]; exact Nat.ne_of_lt (Nat.lt_of_lt_of_le (by have := World.block_lt_of_cell? _ _ hw267_0; first | rwa [add_block] at this | exact this) GW275.out)) | (dsimp only; exact Nat.ne_of_lt (Nat.lt_of_lt_of_le (by have := World.block_lt_of_cell? _ _ hw267_0; first | rwa [add_block] at this | exact this) GW275.out))) _).trans (((cell_far (p := ⟨gb275, _, none⟩) (by first | exact Nat.ne_of_lt (Nat.lt_of_lt_of_le (by have := World.block_lt_of_cell? _ _ hw267_0; first | rwa [add_block] at this | exact this) GW275.out) | (rw [add_block]; exact Nat.ne_of_lt (Nat.lt_of_lt_of_le (by have := World.block_lt_of_cell? _ _ hw267_0; first | rwa [add_block] at this | exact this) GW275.out)) | (show (Addr.add _ _).block ≠ _; rw [add_block]; exact Nat.ne_of_lt (Nat.lt_of_lt_of_le (by have := World.block_lt_of_cell? _ _ hw267_0; first | rwa [add_block] at this | exact this) GW275.out)) | (dsimp only; exact Nat.ne_of_lt (Nat.lt_of_lt_of_le (by have := World.block_lt_of_cell? _ _ hw267_0; first | rwa [add_block] at this | exact this) GW275.out))) _).trans (hHeld.2.2.1)))), ((cell_far (p := ⟨gb275, _, none⟩) (by first | exact Nat.ne_of_lt (Nat.lt_of_lt_of_le (by have := World.block_lt_of_cell? _ _ hw267_1; first | rwa [add_block] at this | exact this) GW275.out) | (rw [add_block]; exact Nat.ne_of_lt (Nat.lt_of_lt_of_le (by have := World.block_lt_of_cell? _ _ hw267_1; first | rwa [add_block] at this | exact this) GW275.out)) | (show (Addr.add _ _).block ≠ _; rw [add_block]; exact Nat.ne_of_lt (Nat.lt_of_lt_of_le (by have := World.block_lt_of_cell? _ _ hw267_1; first | rwa [add_block] at this | exact this) GW275.out)) | (dsimp only; exact Nat.ne_of_lt (Nat.lt_of_lt_of_le (by have := World.block_lt_of_cell? _ _ hw267_1; first | rwa [add_block] at this | exact this) GW275.out))) _).trans (((cell_far (p := ⟨gb275, _, none⟩) (by first | exact Nat.ne_of_lt (Nat.lt_of_lt_of_le (by have := World.block_lt_of_cell? _ _ hw267_1; first | rwa [add_block] at this | exact this) GW275.out) | (rw [add_block]; exact Nat.ne_of_lt (Nat.lt_of_lt_of_le (by have := World.block_lt_of_cell? _ _ hw267_1; first | rwa [add_block] at this | exact this) GW275.out)) | (show (Addr.add _ _).block ≠ _; rw [add_block]; exact Nat.ne_of_lt (Nat.lt_of_lt_of_le (by have := World.block_lt_of_cell? _ _ hw267_1; first | rwa [add_block] at this | exact this) GW275.out)) | (dsimp only; exact Nat.ne_of_lt (Nat.lt_of_lt_of_le (by have := World.block_lt_of_cell? _ _ hw267_1; first | rwa [add_block] at this | exact this) GW275.out))) _).trans (hHeld.2.2.2.1)))), ((cell_far (p := ⟨gb275, _, none⟩) (by first | exact Nat.ne_of_lt (Nat.lt_of_lt_of_le (by have := World.block_lt_of_cell? _ _ hw267_2; first | rwa [add_block] at this | exact this) GW275.out) | (rw [add_block]; exact Nat.ne_of_lt (Nat.lt_of_lt_of_le (by have := World.block_lt_of_cell? _ _ hw267_2; first | rwa [add_block] at this | exact this) GW275.out)) | (show (Addr.add _ _).block ≠ _; rw [add_block]; exact Nat.ne_of_lt (Nat.lt_of_lt_of_le (by have := World.block_lt_of_cell? _ _ hw267_2; first | rwa [add_block] at this | exact this) GW275.out)) | (dsimp only; exact Nat.ne_of_lt (Nat.lt_of_lt_of_le (by have := World.block_lt_of_cell? _ _ hw267_2; first | rwa [add_block] at this | exact this) GW275.out))) _).trans (((cell_far (p := ⟨gb275, _, none⟩) (by first | exact Nat.ne_of_lt (Nat.lt_of_lt_of_le (by have := World.block_lt_of_cell? _ _ hw267_2; first | rwa [add_block] at this | exact this) GW275.out) | (rw [add_block]; exact Nat.ne_of_lt (Nat.lt_of_lt_of_le (by have := World.block_lt_of_cell? _ _ hw267_2; first | rwa [add_block] at this | exact this) GW275.out)) | (show (Addr.add _ _).block ≠ _; rw [add_block]; exact Nat.ne_of_lt (Nat.lt_of_lt_of_le (by have := World.block_lt_of_cell? _ _ hw267_2; first | rwa [add_block] at this | exact this) GW275.out)) | (dsimp only; exact Nat.ne_of_lt (Nat.lt_of_lt_of_le (by have := World.block_lt_of_cell? _ _ hw267_2; first | rwa [add_block] at this | exact this) GW275.out))) _).trans (hHeld.2.2.2.2))))⟩ (fun hHeld => ?_)
                        clear hK K
                        refine Rgn.pu HT_.out 11 10 ?_
                        refine done_ (done_of HT_.out (by kernel_rfl)) ?_
                        have hnb63 := NB258_257.out
                        have hnc63 := NB257_258.out
                        have hnb64 := NB258_266.out
                        have hnc64 := NB266_258.out
                        have hnb65 := NB258_275.out
                        have hnc65 := NB275_258.out
                        have hcz66_0 : w58.cell? ⟨gb258, 0, none⟩ = some (.slice none 0 0) := (blk_cell BK258.out 0).trans rfl
                        have hcz66_1 : w58.cell? ⟨gb258, 1, none⟩ = some (.slice none 0 0) := (blk_cell BK258.out 1).trans rfl
                        have hfz66_0 := blk_frozen BK258.out 0
                        have hfz66_1 := blk_frozen BK258.out 1
                        try go_wp2
                        refine bodyPost_ret (results_cell_row rfl _ _ gb258 29 #[.slice none 0 0, .slice none 0 0] (0, 0) _ rfl (by (with_reducible repeat (first | refine blk_drewN ?_ _ | refine blk_drew ?_ | refine blk_alloc ?_ _)); refine blk_put (cs := #[.slice none 0 0, .slice none 0 0]) ?_ 1 _ rfl; (with_reducible repeat (first | refine blk_drewN ?_ _ | refine blk_drew ?_ | refine blk_alloc ?_ _)); refine blk_put (cs := #[.slice none 0 0, .slice none 0 0]) ?_ 0 _ rfl; (with_reducible repeat (first | refine blk_drewN ?_ _ | refine blk_drew ?_ | refine blk_alloc ?_ _)); refine blk_far ?_ NB258_275.out _; (with_reducible repeat (first | refine blk_drewN ?_ _ | refine blk_drew ?_ | refine blk_alloc ?_ _)); refine blk_far ?_ NB258_275.out _; (with_reducible repeat (first | refine blk_drewN ?_ _ | refine blk_drew ?_ | refine blk_alloc ?_ _)); exact BK258.out) Try.underlying29 rfl (by kernel_rfl)) rfl ?_
                        exact ⟨_, _, by first | rfl | (simp [errW_none, errW_some] <;> rfl) | (simp [*, errW_none, errW_some] <;> rfl), by first | exact Kd.R_nil _ _ _ _ _ | exact Kd.N_nil _ _ _ _ _ | exact Kd.V_nil _ _ _ _ _ | exact Kd.Q_nil _ _ _ _ _ | exact Kd.S_nil _ _ _ _ _, (by first | exact Kd.S_nil _ _ _ _ _ | exact Kd.N_nil _ _ _ _ _ | exact Kd.V_nil _ _ _ _ _ | exact Kd.Q_nil _ _ _ _ _ | exact Kd.R_nil _ _ _ _ _), Rgn.bq HB.out⟩
                    · rw [if_neg c33] at H
                      exact absurd H (by simp)
                  · rw [if_neg c32] at H
                    exact absurd H (by simp)
                · replace c31 := Bool.eq_false_iff.mpr c31
                  subst c31
                  have H1 : (some (x267000_2, x267001_2)) = some (r1, r2) := by rw [if_neg (show ¬ (false = true) by decide)] at H; exact H
                  clear H
                  have H := H1
                  clear H1
                  simp only [Option.some.injEq, Prod.mk.injEq] at H
                  obtain ⟨rfl, rfl⟩ := H
                  have hnb67 := NB266_257.out
                  have hnc67 := NB257_266.out
                  have hnb68 := NB266_258.out
                  have hnc68 := NB258_266.out
                  have hcz69_0 : wc.cell? ⟨gb266, 0, none⟩ = some (u267000) := (blk_cell BK266.out 0).trans rfl
                  have hcz69_1 : wc.cell? ⟨gb266, 1, none⟩ = some (u267001) := (blk_cell BK266.out 1).trans rfl
                  have hfz69_0 := blk_frozen BK266.out 0
                  have hfz69_1 := blk_frozen BK266.out 1
                  obtain ⟨Ao70, co70, eo70⟩ := Kd.R_slice HO_267000.out
                  subst eo70
                  have hnb71 := NB258_257.out
                  have hnc71 := NB257_258.out
                  have hcz72_0 : wc.cell? ⟨gb258, 0, none⟩ = some (.slice none 0 0) := (blk_cell BK258.out 0).trans rfl
                  have hcz72_1 : wc.cell? ⟨gb258, 1, none⟩ = some (.slice none 0 0) := (blk_cell BK258.out 1).trans rfl
                  have hfz72_0 := blk_frozen BK258.out 0
                  have hfz72_1 := blk_frozen BK258.out 1
                  obtain ⟨Ao73, co73, eo73⟩ := Kd.S_slice HO_267001.out
                  subst eo73
                  go_wp2
                  refine bodyPost_ret (results_cell_row rfl _ _ gb258 29 #[.slice Ao70 x267000_2.length co70, .slice Ao73 x267001_2.length co73] (0, 0) _ rfl (by (with_reducible repeat (first | refine blk_drewN ?_ _ | refine blk_drew ?_ | refine blk_alloc ?_ _)); refine blk_put (cs := #[.slice Ao70 x267000_2.length co70, .slice none 0 0]) ?_ 1 _ rfl; (with_reducible repeat (first | refine blk_drewN ?_ _ | refine blk_drew ?_ | refine blk_alloc ?_ _)); refine blk_put (cs := #[.slice none 0 0, .slice none 0 0]) ?_ 0 _ rfl; (with_reducible repeat (first | refine blk_drewN ?_ _ | refine blk_drew ?_ | refine blk_alloc ?_ _)); exact BK258.out) Try.underlying29 rfl (by kernel_rfl)) rfl ?_
                  exact ⟨_, _, by first | rfl | (simp [errW_none, errW_some] <;> rfl) | (simp [*, errW_none, errW_some] <;> rfl), by (with_reducible repeat (first | apply Kd.R_alloc | apply Kd.R_drewN | apply Kd.R_drew)); exact Kd.R_mono (Kd.R_far (p := ⟨gb258, 1, none⟩) (Kd.R_far (p := ⟨gb258, 0, none⟩) (Kd.R_types HO_267000.out BK258.out (by decide)) (fun _ hk => hk.2) (.slice Ao70 x267000_2.length co70)) (fun _ hk => hk.2) (.slice Ao73 x267001_2.length co73)) (fun _ hk => hk.1), by (with_reducible repeat (first | apply Kd.S_alloc | apply Kd.S_drewN | apply Kd.S_drew)); exact Kd.S_mono (Kd.S_far (p := ⟨gb258, 1, none⟩) (Kd.S_far (p := ⟨gb258, 0, none⟩) (Kd.S_mono HO_267001.out (fun k_ hk => (⟨hk, hk.2.2.2.1⟩ : _ ∧ k_ ≠ gb258))) (fun _ hk => hk.2) (.slice Ao70 x267000_2.length co70)) (fun _ hk => hk.2) (.slice Ao73 x267001_2.length co73)) (fun _ hk => ⟨hk.1.1, hk.1.2.1⟩), Rgn.bq HB.out⟩

end Go.Proofs.Ytdhjhadcadcceaa.PFnExactDiskDo
