-- written by a program of this session (wip/src/print2.py)
import Derived.Test.YtdhjhadcadcceaaPFnExactDiskDox0
import Derived.Test.YtdhjhadcadcceaaPFnExactDiskDox4
import Derived.Test.YtdhjhadcadcceaaPFnExactDiskDox6
import Derived.Test.YtdhjhadcadcceaaPFnExactDiskDox7
namespace Go.Proofs.Ytdhjhadcadcceaa.PFnExactDiskDo
open Go.RowKit Go.Proofs.YtdhjhadcadcceaaW.PrintWords Go.Proofs.YtdhjhadcadcceaaW.PrintLast Go.Proofs.YtdhjhadcadcceaaW.PrintMore
attribute [local go_sem] max2_int min2_int max_two min_two max_three min_three max_four min_four   -- for this text's walks alone
set_option linter.unusedVariables false
set_option linter.unusedSimpArgs false

/-! ### spec_l1Do: function 86 -/
mutual
def spec_l1Do.j0 : Nat → Bool → List Int → List (S62) → Int → Int → List Int → Option (List Int × (List (S62)) × Bool)
  | 0, _, _, _, _, _, _ => none
  | k + 1, x20, x242000, x242001, x243000, x243001, x243002 => if x20 = true then (spec_l1Do.l0 k 0 x242000 x242001) else (if x243000 = 1 then (if (x242001.length : Int) = 600 then (some (x242000, x242001, false)) else (if x243001 < 0 then (some (x242000, x242001, false)) else ((spec_l1Blocks.f x242000 x242001).bind fun t250 => (if x243001 ≥ t250 then (some (x242000, x242001, false)) else (if (x243002.length : Int) = 64 then ((spec_l1Copy.f x243002).bind fun t251 => (if x242001.length < 4398046511104 then (some (x242000, (x242001 ++ [(⟨x243001, t251⟩ : S62)]), true)) else (none))) else (some (x242000, x242001, false))))))) else (some (x242000, x242001, false)))
def spec_l1Do.l0 : Nat → Int → List Int → List (S62) → Option (List Int × (List (S62)) × Bool)
  | 0, _, _, _ => none
  | k + 1, x6, x242000, x242001 => if x6 < (x242001.length : Int) then (if 0 ≤ x6 then ((spec_l1Put.f k x242000 ((rd_T62 x242001 x6).f0) ((rd_T62 x242001 x6).f1)).bind fun t246 => (spec_l1Do.l0 k (wrap64 (x6 + 1)) t246 x242001)) else (none)) else (some (x242000, (([] : List (S62))), true))
end
def spec_l1Do.f (k : Nat) (l0_0 : List Int) (l0_1 : List (S62)) (a1_0 : Int) (a1_1 : Int) (l1_2 : List Int) : Option (List Int × (List (S62)) × Bool) := if a1_0 = 2 then (if a1_1 = 0 then (spec_l1Do.j0 k ((l1_2.length : Int) == 0) l0_0 l0_1 a1_0 a1_1 l1_2) else (spec_l1Do.j0 k false l0_0 l0_1 a1_0 a1_1 l1_2)) else (spec_l1Do.j0 k false l0_0 l0_1 a1_0 a1_1 l1_2)
theorem spec_l1Do.mono_l : ∀ k, (∀ y0 y1 y2 y3 y4 y5, LeO (spec_l1Do.j0 k y0 y1 y2 y3 y4 y5) (spec_l1Do.j0 (k + 1) y0 y1 y2 y3 y4 y5)) ∧ (∀ y0 y1 y2, LeO (spec_l1Do.l0 k y0 y1 y2) (spec_l1Do.l0 (k + 1) y0 y1 y2))
  | 0 => ⟨fun _ _ _ _ _ _ r h => by simp [spec_l1Do.j0] at h, fun _ _ _ r h => by simp [spec_l1Do.l0] at h⟩
  | k + 1 => by
    obtain ⟨ih0, ih1⟩ := spec_l1Do.mono_l k
    refine ⟨?_, ?_⟩
    · intro y0 y1 y2 y3 y4 y5
      unfold spec_l1Do.j0
      repeat' first
      | (with_reducible exact ih0 _ _ _ _ _ _)
      | (with_reducible exact ih1 _ _ _)
      | (with_reducible exact spec_l1Put.mono _ _ _ _)
      | (with_reducible exact LeO.refl _)
      | (with_reducible exact LeO.none _)
      | (with_reducible refine LeO.ite ?_ ?_)
      | (with_reducible refine LeO.bind ?_ (fun _ => ?_))
      | exact ih0 _ _ _ _ _ _
      | exact ih1 _ _ _
      | exact spec_l1Put.mono _ _ _ _
      | exact LeO.none _
      | refine LeO.ite ?_ ?_
      | refine LeO.bind ?_ (fun _ => ?_)
    · intro y0 y1 y2
      unfold spec_l1Do.l0
      repeat' first
      | (with_reducible exact ih0 _ _ _ _ _ _)
      | (with_reducible exact ih1 _ _ _)
      | (with_reducible exact spec_l1Put.mono _ _ _ _)
      | (with_reducible exact LeO.refl _)
      | (with_reducible exact LeO.none _)
      | (with_reducible refine LeO.ite ?_ ?_)
      | (with_reducible refine LeO.bind ?_ (fun _ => ?_))
      | exact ih0 _ _ _ _ _ _
      | exact ih1 _ _ _
      | exact spec_l1Put.mono _ _ _ _
      | exact LeO.none _
      | refine LeO.ite ?_ ?_
      | refine LeO.bind ?_ (fun _ => ?_)
theorem spec_l1Do.mono : ∀ a0 a1 a2 a3 a4 k, LeO (spec_l1Do.f k a0 a1 a2 a3 a4) (spec_l1Do.f (k + 1) a0 a1 a2 a3 a4) := by
  intro a0 a1 a2 a3 a4 k
  obtain ⟨ih0, ih1⟩ := spec_l1Do.mono_l k
  unfold spec_l1Do.f
  repeat' first
      | (with_reducible exact ih0 _ _ _ _ _ _)
      | (with_reducible exact ih1 _ _ _)
      | (with_reducible exact spec_l1Put.mono _ _ _ _)
      | (with_reducible exact LeO.refl _)
      | (with_reducible exact LeO.none _)
      | (with_reducible refine LeO.ite ?_ ?_)
      | (with_reducible refine LeO.bind ?_ (fun _ => ?_))
      | exact ih0 _ _ _ _ _ _
      | exact ih1 _ _ _
      | exact spec_l1Put.mono _ _ _ _
      | exact LeO.none _
      | refine LeO.ite ?_ ?_
      | refine LeO.bind ?_ (fun _ => ?_)
def spec_l1Do.T5 : Bool × List (List Nat × List Nat) := (true, [([], []), ([0], [0]), ([], []), ([2], [2]), ([], []), ([3, 4], [3, 4]), ([5], [5]), ([6], [6]), ([], []), ([8], [8]), ([], []), ([9, 10], [9, 10]), ([11], [11]), ([12], [12]), ([1, 7, 13], [1, 7, 13])])
def spec_l1Do.B5 : List Nat := [0, 1, 0, 4, 0, 28, 60, 124, 0, 256, 0, 1792, 3840, 7936, 16383]
theorem spec_l1Do.tab5 : rtab .any (opsOf Try.f86 5) = spec_l1Do.T5 := by kernel_rfl
theorem spec_l1Do.bits5 : waitsOk spec_l1Do.T5.2 spec_l1Do.B5 = true := by kernel_rfl
def spec_l1Do.T8 : Bool × List (List Nat × List Nat) := (true, [([], []), ([0], [0]), ([1], [1]), ([2], [2]), ([3], [3]), ([4, 3], [3, 4]), ([5, 3], [3, 5]), ([6, 3], [3, 6]), ([3, 7], [3, 7]), ([8, 3], [8]), ([9], [9]), ([10, 9], [9, 10]), ([11, 9], [9, 11]), ([9, 12], [9, 12]), ([13, 9], [13]), ([14], [14]), ([15, 14], [14, 15]), ([14], [14]), ([17, 14, 14], [14, 17]), ([16, 18, 14], [14, 16, 18]), ([14, 19], [14, 19]), ([20, 18], [20]), ([21], [21]), ([22, 21], [21, 22]), ([23, 21], [21, 23]), ([24, 21], [21, 24]), ([21, 25], [21, 25])])
def spec_l1Do.B8 : List Nat := [0, 1, 3, 7, 15, 31, 63, 127, 255, 511, 1023, 2047, 4095, 8191, 16383, 32767, 65535, 32767, 163839, 524287, 1048575, 2097151, 4194303, 8388607, 16777215, 33554431, 67108863]
theorem spec_l1Do.tab8 : rtab .any (opsOf Try.f86 8) = spec_l1Do.T8 := by kernel_rfl
theorem spec_l1Do.bits8 : waitsOk spec_l1Do.T8.2 spec_l1Do.B8 = true := by kernel_rfl
def spec_l1Do.T10 : Bool × List (List Nat × List Nat) := (true, [([], []), ([0], [0]), ([], []), ([2], [2]), ([], []), ([4], [4]), ([5], [5]), ([3, 6], [3, 6]), ([7], [7]), ([1, 8, 6], [1, 8]), ([0, 1, 2, 3, 4, 5, 6, 7, 8, 9], []), ([10, 9, 9, 0, 1, 2, 3, 4, 5, 6, 7, 8, 9], [9, 10])])
def spec_l1Do.B10 : List Nat := [0, 1, 0, 4, 0, 16, 48, 124, 252, 511, 1023, 2047]
theorem spec_l1Do.tab10 : rtab .any (opsOf Try.f86 10) = spec_l1Do.T10 := by kernel_rfl
theorem spec_l1Do.bits10 : waitsOk spec_l1Do.T10.2 spec_l1Do.B10 = true := by kernel_rfl
set_option maxHeartbeats 8000000 in
set_option maxRecDepth 100000 in
theorem spec_l1Do.calls (k : Nat) (P0_0_ : Nat → Prop) (u9000_ : Value) (l0_0 : List Int) (P0_1_ : Nat → Prop) (A0_1 : Option Addr) (c0_1 : Nat) (l0_1 : List (S62)) (a1_0 : Int) (a1_1 : Int) (A1_2 : Option Addr) (c1_2 : Nat) (l1_2 : List Int) (r1 : List Int) (r2 : List (S62)) (r3 : Bool) (w0 w : World) (hB : Below w0.heap.size w0 w) (ho0_0 : Kd.R (Kd.int .u8) 5 w w0.heap.size P0_0_ u9000_ l0_0) (hs0_1 : Kd.S k62 62 w w0.heap.size (fun k_ => P0_1_ k_ ∧ some k_ ≠ (u9000_ : Value).ownBlock) (.slice A0_1 l0_1.length c0_1) l0_1) (hr1_2 : ∀ W_, Kept w W_ (fun k_ => P0_0_ k_ ∨ P0_1_ k_) → Kd.C (Kd.int .u8) W_ A1_2 l1_2.length l1_2) (hc1_2 : l1_2.length ≤ c1_2) (h : spec_l1Do.f k l0_0 l0_1 a1_0 a1_1 l1_2 = some (r1, r2, r3)) :
    Calls Try.prog 86 #[.agg #[u9000_, .slice A0_1 l0_1.length c0_1], .agg #[.int .i64 a1_0, .int .i64 a1_1, .slice A1_2 l1_2.length c1_2]] w fun e w' => ∃ v0_ v1_ : Value, e = .returned (.tuple #[.agg #[v0_, v1_], .bool r3]) ∧ Kd.R (Kd.int .u8) 5 w' w0.heap.size (fun k_ => (P0_0_ k_ ∨ w.heap.size ≤ k_)) v0_ r1 ∧ Kd.S k62 62 w' w0.heap.size (fun k_ => ((P0_0_ k_ ∨ P0_1_ k_) ∨ w.heap.size ≤ k_) ∧ some k_ ≠ (v0_ : Value).ownBlock) v1_ r2 ∧ Below w0.heap.size w0 w' ∧ Kept w w' (fun k_ => P0_0_ k_ ∨ P0_1_ k_) := by
  have hu29 := Try.underlying29
  have hu93 := Try.underlying93
  have hu62 := Try.underlying62
  have HO0_0 := Aside0.mk (show Kd.R (Kd.int .u8) 5 w w0.heap.size (fun k_ => (P0_0_ k_ ∨ w.heap.size ≤ k_)) u9000_ l0_0 from Kd.R_mono ho0_0 (fun k_ hk => (.inl hk)))
  have HO0_1 := Aside0.mk (show Kd.S k62 62 w w0.heap.size (fun k_ => ((P0_0_ k_ ∨ P0_1_ k_) ∨ w.heap.size ≤ k_) ∧ some k_ ≠ (u9000_ : Value).ownBlock) (.slice A0_1 l0_1.length c0_1) l0_1 from Kd.S_mono hs0_1 (fun k_ hk => ⟨.inl (.inr hk.1), hk.2⟩))
  have HR1_2 := Aside0.mk hr1_2
  have HC1_2 := Aside0.mk hc1_2
  clear hr1_2 hc1_2
  have HK := Aside0.mk (Kept.refl w (fun k_ => P0_0_ k_ ∨ P0_1_ k_))
  have HW0 := Aside0.mk hB.size
  have HB := Aside0.mk hB
  clear hB
  have H : (if a1_0 = 2 then (if a1_1 = 0 then (spec_l1Do.j0 k ((l1_2.length : Int) == 0) l0_0 l0_1 a1_0 a1_1 l1_2) else (spec_l1Do.j0 k false l0_0 l0_1 a1_0 a1_1 l1_2)) else (spec_l1Do.j0 k false l0_0 l0_1 a1_0 a1_1 l1_2)) = some (r1, r2, r3) := h
  clear h
  have HC3 := Aside0.mk H
  clear H
  obtain ⟨Ao4, co4, eo4⟩ := Kd.R_slice HO0_0.out
  subst eo4
  go_enter Try.func86, Try.ntmps86
  go_upto_region 1 with (first | ((with_reducible refine gate_dst (N := 2) rfl ?_); (try (refine gate_guard (by rfl) ?_; dsimp only)); refine box_event ?hg (N := 2) ?hd (cs := #[.slice Ao4 l0_0.length co4, .slice A0_1 l0_1.length c0_1]) (t := 29) ?hr ?_; (case hd => rfl); (case hg => rfl); (case hr => first | (go_simp; done) | (go_simp; rfl)); intro gb241 hg w5 hbox hb; have n0_ := Aside0.mk (Kd.R_below (by (with_reducible repeat (first | apply Kd.R_alloc | apply Kd.R_drewN | apply Kd.R_drew)); exact HO0_0.out) hb); have n1_ := Aside0.mk (Kd.S_below (Kd.S_elderB (by (with_reducible repeat (first | apply Kd.S_alloc | apply Kd.S_drewN | apply Kd.S_drew)); exact HO0_1.out) gb241 (Nat.le_of_eq hg.symm)) hb); have n2_ := Aside0.mk (Kept.below (S := (fun k_ => P0_0_ k_ ∨ P0_1_ k_)) (Rgn.kq HK.out) hb); have n3_ := Aside0.mk (below_step (Rgn.bq HB.out) hb); have n4_ := Aside0.mk (hbox); have n5_ := Aside0.mk ((by rw [hg]; exact (by first | exact HK.out.1 | exact (show Kept w _ (fun k_ => P0_0_ k_ ∨ P0_1_ k_) from by exact Rgn.kq HK.out).1) : w.heap.size ≤ gb241)); have n6_ := Aside0.mk ((by rw [hg]; exact (below_size (Rgn.bq HB.out)) : w0.heap.size ≤ gb241)); clear HO0_0; clear HO0_1; clear HK; clear HB; have HO0_0 := n0_; have HO0_1 := n1_; have HK := n2_; have HB := n3_; have BK241 := n4_; have GW241 := n5_; have GE241 := n6_; clear n0_ n1_ n2_ n3_ n4_ n5_ n6_; clear hb hbox hg) | ((with_reducible refine gate_dst (N := 3) rfl ?_); (try (refine gate_guard (by rfl) ?_; dsimp only)); refine box_event ?hg (N := 3) ?hd (cs := #[.int .i64 a1_0, .int .i64 a1_1, .slice A1_2 l1_2.length c1_2]) (t := 93) ?hr ?_; (case hd => rfl); (case hg => rfl); (case hr => first | (go_simp; done) | (go_simp; rfl)); intro gb242 hg w6 hbox hb; have n0_ := Aside0.mk (Kd.R_below (by (with_reducible repeat (first | apply Kd.R_alloc | apply Kd.R_drewN | apply Kd.R_drew)); exact HO0_0.out) hb); have n1_ := Aside0.mk (Kd.S_below (Kd.S_elderB (by (with_reducible repeat (first | apply Kd.S_alloc | apply Kd.S_drewN | apply Kd.S_drew)); exact HO0_1.out) gb242 (Nat.le_of_eq hg.symm)) hb); have n2_ := Aside0.mk (Rgn.bb BK241.out hb); have n3_ := Aside0.mk (Kept.below (S := (fun k_ => P0_0_ k_ ∨ P0_1_ k_)) (by repeat (first | (with_reducible first | exact HK.out | apply Kept.alloc | apply Kept.drewN | apply Kept.drew | refine Kept.setCell ?_ (.inr GW241.out) _) | exact HK.out)) hb); have n4_ := Aside0.mk (below_step (Rgn.bq HB.out) hb); have n5_ := Aside0.mk (hbox); have n6_ := Aside0.mk ((by rw [hg]; exact (by first | exact HK.out.1 | exact (show Kept w _ (fun k_ => P0_0_ k_ ∨ P0_1_ k_) from by repeat (first | (with_reducible first | exact HK.out | apply Kept.alloc | apply Kept.drewN | apply Kept.drew | refine Kept.setCell ?_ (.inr GW241.out) _) | exact HK.out)).1) : w.heap.size ≤ gb242)); have n7_ := Aside0.mk ((by rw [hg]; exact (below_size (Rgn.bq HB.out)) : w0.heap.size ≤ gb242)); have n8_ := Aside0.mk ((by rw [hg]; exact Nat.ne_of_lt (blk_lt (g := gb241) (o := .cells #[.slice Ao4 l0_0.length co4, .slice A0_1 l0_1.length c0_1] 29 (0, 0)) (Rgn.kb BK241.out)) : gb241 ≠ gb242)); have n9_ := Aside0.mk ((by rw [hg]; exact Nat.ne_of_gt (blk_lt (g := gb241) (o := .cells #[.slice Ao4 l0_0.length co4, .slice A0_1 l0_1.length c0_1] 29 (0, 0)) (Rgn.kb BK241.out)) : gb242 ≠ gb241)); clear HO0_0; clear HO0_1; clear BK241; clear HK; clear HB; have HO0_0 := n0_; have HO0_1 := n1_; have BK241 := n2_; have HK := n3_; have HB := n4_; have BK242 := n5_; have GW242 := n6_; have GE242 := n7_; have NB241_242 := n8_; have NB242_241 := n9_; clear n0_ n1_ n2_ n3_ n4_ n5_ n6_ n7_ n8_ n9_; clear hb hbox hg) | ((with_reducible refine gate_dst (N := 4) rfl ?_); (try (refine gate_guard (by rfl) ?_; dsimp only)); refine box_event ?hg (N := 4) ?hd (cs := #[.slice none 0 0, .slice none 0 0]) (t := 29) ?hr ?_; (case hd => rfl); (case hg => rfl); (case hr => first | (go_simp; done) | (go_simp; rfl)); intro gb243 hg w7 hbox hb; have n0_ := Aside0.mk (Kd.R_below (by (with_reducible repeat (first | apply Kd.R_alloc | apply Kd.R_drewN | apply Kd.R_drew)); exact HO0_0.out) hb); have n1_ := Aside0.mk (Kd.S_below (Kd.S_elderB (by (with_reducible repeat (first | apply Kd.S_alloc | apply Kd.S_drewN | apply Kd.S_drew)); exact HO0_1.out) gb243 (Nat.le_of_eq hg.symm)) hb); have n2_ := Aside0.mk (Rgn.bb BK241.out hb); have n3_ := Aside0.mk (Rgn.bb BK242.out hb); have n4_ := Aside0.mk (Kept.below (S := (fun k_ => P0_0_ k_ ∨ P0_1_ k_)) (by repeat (first | (with_reducible first | exact HK.out | apply Kept.alloc | apply Kept.drewN | apply Kept.drew | refine Kept.setCell ?_ (.inr GW241.out) _ | refine Kept.setCell ?_ (.inr GW242.out) _) | exact HK.out)) hb); have n5_ := Aside0.mk (below_step (Rgn.bq HB.out) hb); have n6_ := Aside0.mk (hbox); have n7_ := Aside0.mk ((by rw [hg]; exact (by first | exact HK.out.1 | exact (show Kept w _ (fun k_ => P0_0_ k_ ∨ P0_1_ k_) from by repeat (first | (with_reducible first | exact HK.out | apply Kept.alloc | apply Kept.drewN | apply Kept.drew | refine Kept.setCell ?_ (.inr GW241.out) _ | refine Kept.setCell ?_ (.inr GW242.out) _) | exact HK.out)).1) : w.heap.size ≤ gb243)); have n8_ := Aside0.mk ((by rw [hg]; exact (below_size (Rgn.bq HB.out)) : w0.heap.size ≤ gb243)); have n9_ := Aside0.mk ((by rw [hg]; exact Nat.ne_of_lt (blk_lt (g := gb241) (o := .cells #[.slice Ao4 l0_0.length co4, .slice A0_1 l0_1.length c0_1] 29 (0, 0)) (Rgn.kb BK241.out)) : gb241 ≠ gb243)); have n10_ := Aside0.mk ((by rw [hg]; exact Nat.ne_of_gt (blk_lt (g := gb241) (o := .cells #[.slice Ao4 l0_0.length co4, .slice A0_1 l0_1.length c0_1] 29 (0, 0)) (Rgn.kb BK241.out)) : gb243 ≠ gb241)); have n11_ := Aside0.mk ((by rw [hg]; exact Nat.ne_of_lt (blk_lt (g := gb242) (o := .cells #[.int .i64 a1_0, .int .i64 a1_1, .slice A1_2 l1_2.length c1_2] 93 (0, 0)) (Rgn.kb BK242.out)) : gb242 ≠ gb243)); have n12_ := Aside0.mk ((by rw [hg]; exact Nat.ne_of_gt (blk_lt (g := gb242) (o := .cells #[.int .i64 a1_0, .int .i64 a1_1, .slice A1_2 l1_2.length c1_2] 93 (0, 0)) (Rgn.kb BK242.out)) : gb243 ≠ gb242)); clear HO0_0; clear HO0_1; clear BK241; clear BK242; clear HK; clear HB; have HO0_0 := n0_; have HO0_1 := n1_; have BK241 := n2_; have BK242 := n3_; have HK := n4_; have HB := n5_; have BK243 := n6_; have GW243 := n7_; have GE243 := n8_; have NB241_243 := n9_; have NB243_241 := n10_; have NB242_243 := n11_; have NB243_242 := n12_; clear n0_ n1_ n2_ n3_ n4_ n5_ n6_ n7_ n8_ n9_ n10_ n11_ n12_; clear hb hbox hg))
  (try simp only [Act.put, List.setIfInBounds_toArray, List.set_cons_zero, List.set_cons_succ])
  go_cut [20] (fun v20 wc => ∃ (kq : Nat) (x20_2 : Bool), v20 = .bool x20_2 ∧ Aside0 (spec_l1Do.j0 kq x20_2 l0_0 l0_1 a1_0 a1_1 l1_2 = some (r1, r2, r3)) ∧ Aside0 (kq ≤ k) ∧ Aside0 (Kd.R (Kd.int .u8) 5 wc w0.heap.size (fun k_ => (P0_0_ k_ ∨ w.heap.size ≤ k_)) (.slice Ao4 l0_0.length co4) l0_0) ∧ Aside0 (Kd.S k62 62 wc w0.heap.size (fun k_ => ((P0_0_ k_ ∨ P0_1_ k_) ∨ w.heap.size ≤ k_) ∧ some k_ ≠ ((.slice Ao4 l0_0.length co4) : Value).ownBlock ∧ k_ ≠ gb241 ∧ k_ ≠ gb242 ∧ k_ ≠ gb243) (.slice A0_1 l0_1.length c0_1) l0_1) ∧ Aside0 (wc.heap[gb241]? = some (.cells #[(.slice Ao4 l0_0.length co4), (.slice A0_1 l0_1.length c0_1)] 29 (0, 0))) ∧ Aside0 (wc.heap[gb242]? = some (.cells #[.int .i64 a1_0, .int .i64 a1_1, (.slice A1_2 l1_2.length c1_2)] 93 (0, 0))) ∧ Aside0 (wc.heap[gb243]? = some (.cells #[(.slice none 0 0), (.slice none 0 0)] 29 (0, 0))) ∧ Aside0 (Kept w wc (fun k_ => P0_0_ k_ ∨ P0_1_ k_)) ∧ Aside0 (Below w0.heap.size w0 wc))
  case first =>
    have H := HC3.out
    clear HC3
    by_cases c8 : a1_0 = 2
    · rw [if_pos c8] at H
      have c8b0 : (a1_0 == 2) = true := beq_iff_eq.mpr c8
      have c8b1 : (a1_0 != 2) = false := bne_eq_false_iff_eq.mpr c8
      clear c8
      (first | rw [c8b0] | (simp only [i64_w, i32_w]; rw [c8b0]) | skip)
      by_cases c9 : a1_1 = 0
      · rw [if_pos c9] at H
        have c9b0 : (a1_1 == 0) = true := beq_iff_eq.mpr c9
        have c9b1 : (a1_1 != 0) = false := bne_eq_false_iff_eq.mpr c9
        clear c9
        have H' := Aside0.mk H
        clear H
        have hnb10 := NB242_241.out
        have hnc10 := NB241_242.out
        have hnb11 := NB242_243.out
        have hnc11 := NB243_242.out
        have hcz12_0 : w7.cell? ⟨gb242, 0, none⟩ = some (.int .i64 a1_0) := (blk_cell BK242.out 0).trans rfl
        have hcz12_1 : w7.cell? ⟨gb242, 1, none⟩ = some (.int .i64 a1_1) := (blk_cell BK242.out 1).trans rfl
        have hcz12_2 : w7.cell? ⟨gb242, 2, none⟩ = some (.slice A1_2 l1_2.length c1_2) := (blk_cell BK242.out 2).trans rfl
        have hfz12_0 := blk_frozen BK242.out 0
        have hfz12_1 := blk_frozen BK242.out 1
        have hfz12_2 := blk_frozen BK242.out 2
        go_wp2
        go_meet
        case rel => exact ⟨_, (((l1_2.length : Int) == 0)), (by first | rfl | (simp; done) | (simp [*]; done)), H', ⟨by first | omega | exact Nat.le_refl _⟩, ⟨by (with_reducible repeat (first | apply Kd.R_alloc | apply Kd.R_drewN | apply Kd.R_drew)); exact HO0_0.out⟩, ⟨by (with_reducible repeat (first | apply Kd.S_alloc | apply Kd.S_drewN | apply Kd.S_drew)); exact Kd.S_mono HO0_1.out (fun _ hk => ⟨hk.1.1.1.1, ⟨hk.1.1.1.2, ⟨hk.1.1.2, ⟨hk.1.2, hk.2⟩⟩⟩⟩)⟩, ⟨Rgn.kb BK241.out⟩, ⟨Rgn.kb BK242.out⟩, ⟨Rgn.kb BK243.out⟩, ⟨by repeat (first | (with_reducible first | exact HK.out | apply Kept.alloc | apply Kept.drewN | apply Kept.drew | refine Kept.setCell ?_ (.inr GW241.out) _ | refine Kept.setCell ?_ (.inr GW242.out) _ | refine Kept.setCell ?_ (.inr GW243.out) _) | exact HK.out)⟩, ⟨Rgn.bq HB.out⟩⟩
      · rw [if_neg c9] at H
        have c9b0 : (a1_1 == 0) = false := beq_eq_false_iff_ne.mpr c9
        have c9b1 : (a1_1 != 0) = true := bne_iff_ne.mpr c9
        have H' := Aside0.mk H
        clear H
        have hnb13 := NB242_241.out
        have hnc13 := NB241_242.out
        have hnb14 := NB242_243.out
        have hnc14 := NB243_242.out
        have hcz15_0 : w7.cell? ⟨gb242, 0, none⟩ = some (.int .i64 a1_0) := (blk_cell BK242.out 0).trans rfl
        have hcz15_1 : w7.cell? ⟨gb242, 1, none⟩ = some (.int .i64 a1_1) := (blk_cell BK242.out 1).trans rfl
        have hcz15_2 : w7.cell? ⟨gb242, 2, none⟩ = some (.slice A1_2 l1_2.length c1_2) := (blk_cell BK242.out 2).trans rfl
        have hfz15_0 := blk_frozen BK242.out 0
        have hfz15_1 := blk_frozen BK242.out 1
        have hfz15_2 := blk_frozen BK242.out 2
        go_wp2
        go_meet
        case rel => exact ⟨_, (false), (by first | rfl | (simp; done) | (simp [*]; done)), H', ⟨by first | omega | exact Nat.le_refl _⟩, ⟨by (with_reducible repeat (first | apply Kd.R_alloc | apply Kd.R_drewN | apply Kd.R_drew)); exact HO0_0.out⟩, ⟨by (with_reducible repeat (first | apply Kd.S_alloc | apply Kd.S_drewN | apply Kd.S_drew)); exact Kd.S_mono HO0_1.out (fun _ hk => ⟨hk.1.1.1.1, ⟨hk.1.1.1.2, ⟨hk.1.1.2, ⟨hk.1.2, hk.2⟩⟩⟩⟩)⟩, ⟨Rgn.kb BK241.out⟩, ⟨Rgn.kb BK242.out⟩, ⟨Rgn.kb BK243.out⟩, ⟨by repeat (first | (with_reducible first | exact HK.out | apply Kept.alloc | apply Kept.drewN | apply Kept.drew | refine Kept.setCell ?_ (.inr GW241.out) _ | refine Kept.setCell ?_ (.inr GW242.out) _ | refine Kept.setCell ?_ (.inr GW243.out) _) | exact HK.out)⟩, ⟨Rgn.bq HB.out⟩⟩
    · rw [if_neg c8] at H
      have c8b0 : (a1_0 == 2) = false := beq_eq_false_iff_ne.mpr c8
      have c8b1 : (a1_0 != 2) = true := bne_iff_ne.mpr c8
      (first | rw [c8b0] | (simp only [i64_w, i32_w]; rw [c8b0]) | skip)
      have H' := Aside0.mk H
      clear H
      have hnb16 := NB242_241.out
      have hnc16 := NB241_242.out
      have hnb17 := NB242_243.out
      have hnc17 := NB243_242.out
      have hcz18_0 : w7.cell? ⟨gb242, 0, none⟩ = some (.int .i64 a1_0) := (blk_cell BK242.out 0).trans rfl
      have hcz18_1 : w7.cell? ⟨gb242, 1, none⟩ = some (.int .i64 a1_1) := (blk_cell BK242.out 1).trans rfl
      have hcz18_2 : w7.cell? ⟨gb242, 2, none⟩ = some (.slice A1_2 l1_2.length c1_2) := (blk_cell BK242.out 2).trans rfl
      have hfz18_0 := blk_frozen BK242.out 0
      have hfz18_1 := blk_frozen BK242.out 1
      have hfz18_2 := blk_frozen BK242.out 2
      go_wp2
      go_meet
      case rel => exact ⟨_, (false), (by first | rfl | (simp; done) | (simp [*]; done)), H', ⟨by first | omega | exact Nat.le_refl _⟩, ⟨by (with_reducible repeat (first | apply Kd.R_alloc | apply Kd.R_drewN | apply Kd.R_drew)); exact HO0_0.out⟩, ⟨by (with_reducible repeat (first | apply Kd.S_alloc | apply Kd.S_drewN | apply Kd.S_drew)); exact Kd.S_mono HO0_1.out (fun _ hk => ⟨hk.1.1.1.1, ⟨hk.1.1.1.2, ⟨hk.1.1.2, ⟨hk.1.2, hk.2⟩⟩⟩⟩)⟩, ⟨Rgn.kb BK241.out⟩, ⟨Rgn.kb BK242.out⟩, ⟨Rgn.kb BK243.out⟩, ⟨by repeat (first | (with_reducible first | exact HK.out | apply Kept.alloc | apply Kept.drewN | apply Kept.drew | refine Kept.setCell ?_ (.inr GW241.out) _ | refine Kept.setCell ?_ (.inr GW242.out) _ | refine Kept.setCell ?_ (.inr GW243.out) _) | exact HK.out)⟩, ⟨Rgn.bq HB.out⟩⟩
  case rest =>
    clear HC3
    try clear c1
    try clear p2
    try clear c8
    try clear c8b0
    try clear c8b1
    try clear c9
    try clear c9b0
    try clear c9b1
    try clear c10
    try clear c11
    try clear c13
    try clear c14
    try clear c16
    try clear c17
    try clear hcz12_0
    try clear hcz12_1
    try clear hcz12_2
    try clear hcz15_0
    try clear hcz15_1
    try clear hcz15_2
    try clear hcz18_0
    try clear hcz18_1
    try clear hcz18_2
    try clear hfz12_0
    try clear hfz12_1
    try clear hfz12_2
    try clear hfz15_0
    try clear hfz15_1
    try clear hfz15_2
    try clear hfz18_0
    try clear hfz18_1
    try clear hfz18_2
    obtain ⟨kq, x20_2, rfl, HA, HJ2, HO_242000, HO_242001, BK241, BK242, BK243, HK, HB⟩ := hcut
    cases kq with
    | zero => exact absurd HA.out (by simp [spec_l1Do.j0])
    | succ kj2 =>
      have H := HA.out
      clear HA
      simp only [spec_l1Do.j0] at H
      by_cases c19 : x20_2 = true
      · subst c19
        have H1 : (spec_l1Do.l0 kj2 0 l0_0 l0_1) = some (r1, r2, r3) := by rw [if_pos rfl] at H; exact H
        clear H
        have H := H1
        clear H1
        have H' := Aside0.mk H
        clear H
        go_wp2
        go_loopg [6] kj2 (fun kq v6 w' => ∃ (x6_2 : Int) (x242000_2 : List Int) (u242000 : Value), v6 = .int .i64 x6_2 ∧ Aside0 (spec_l1Do.l0 kq x6_2 x242000_2 l0_1 = some (r1, r2, r3)) ∧ Aside0 (kq ≤ kj2) ∧ Aside0 (Kd.R (Kd.int .u8) 5 w' w0.heap.size (fun k_ => (P0_0_ k_ ∨ w.heap.size ≤ k_)) u242000 x242000_2) ∧ Aside0 (Kd.S k62 62 w' w0.heap.size (fun k_ => ((P0_0_ k_ ∨ P0_1_ k_) ∨ w.heap.size ≤ k_) ∧ some k_ ≠ (u242000 : Value).ownBlock ∧ k_ ≠ gb241 ∧ k_ ≠ gb242 ∧ k_ ≠ gb243) (.slice A0_1 l0_1.length c0_1) l0_1) ∧ Aside0 (w'.heap[gb241]? = some (.cells #[u242000, (.slice A0_1 l0_1.length c0_1)] 29 (0, 0))) ∧ Aside0 (w'.heap[gb242]? = some (.cells #[.int .i64 a1_0, .int .i64 a1_1, (.slice A1_2 l1_2.length c1_2)] 93 (0, 0))) ∧ Aside0 (w'.heap[gb243]? = some (.cells #[(.slice none 0 0), (.slice none 0 0)] 29 (0, 0))) ∧ Aside0 (Kept w w' (fun k_ => P0_0_ k_ ∨ P0_1_ k_)) ∧ Aside0 (Below w0.heap.size w0 w'))
        case atStart => exact ⟨(0), (l0_0), (.slice Ao4 l0_0.length co4), (by first | rfl | (simp; done) | (simp [*]; done)), H', ⟨Nat.le_refl _⟩, ⟨Rgn.rq HO_242000.out⟩, ⟨by (with_reducible repeat (first | apply Kd.S_alloc | apply Kd.S_drewN | apply Kd.S_drew)); exact HO_242001.out⟩, ⟨Rgn.kb BK241.out⟩, ⟨Rgn.kb BK242.out⟩, ⟨Rgn.kb BK243.out⟩, ⟨by repeat (first | (with_reducible first | exact HK.out | apply Kept.alloc | apply Kept.drewN | apply Kept.drew | refine Kept.setCell ?_ (.inr GW241.out) _ | refine Kept.setCell ?_ (.inr GW242.out) _ | refine Kept.setCell ?_ (.inr GW243.out) _) | exact HK.out)⟩, ⟨Rgn.bq HB.out⟩⟩
        case round =>
          clear H'
          try clear c1
          try clear p2
          try clear c8
          try clear c8b0
          try clear c8b1
          try clear c9
          try clear c9b0
          try clear c9b1
          try clear c10
          try clear c11
          try clear c13
          try clear c14
          try clear c16
          try clear c17
          try clear c19
          try clear hcz12_0
          try clear hcz12_1
          try clear hcz12_2
          try clear hcz15_0
          try clear hcz15_1
          try clear hcz15_2
          try clear hcz18_0
          try clear hcz18_1
          try clear hcz18_2
          try clear hfz12_0
          try clear hfz12_1
          try clear hfz12_2
          try clear hfz15_0
          try clear hfz15_1
          try clear hfz15_2
          try clear hfz18_0
          try clear hfz18_1
          try clear hfz18_2
          try clear p2
          obtain ⟨x6_2, x242000_2, u242000, rfl, HA, HK2, HO_242000, HO_242001, BK241, BK242, BK243, HK, HB⟩ := hrel
          cases gk with
          | zero => exact absurd HA.out (by simp [spec_l1Do.l0])
          | succ k2 =>
            have H := HA.out
            clear HA
            simp only [spec_l1Do.l0] at H
            by_cases c20 : x6_2 < (l0_1.length : Int)
            · rw [if_pos c20] at H
              have c20b0 : decide (x6_2 < (l0_1.length : Int)) = true := decide_eq_true c20
              clear c20
              by_cases c21 : 0 ≤ x6_2
              · rw [if_pos c21] at H
                have c21b0 : decide (0 ≤ x6_2) = true := decide_eq_true c21
                clear c21
                replace H := Option.bind_eq_some_iff.mp H
                obtain ⟨t246, A220, H⟩ := H
                replace H : (spec_l1Do.l0 k2 (wrap64 (x6_2 + 1)) t246 l0_1) = some (r1, r2, r3) := H
                have A22 := Aside0.mk A220
                clear A220
                have H' := Aside0.mk H
                clear H
                have hnb23 := NB241_242.out
                have hnc23 := NB242_241.out
                have hnb24 := NB241_243.out
                have hnc24 := NB243_241.out
                have hcz25_0 : wr.cell? ⟨gb241, 0, none⟩ = some (u242000) := (blk_cell BK241.out 0).trans rfl
                have hcz25_1 : wr.cell? ⟨gb241, 1, none⟩ = some (.slice A0_1 l0_1.length c0_1) := (blk_cell BK241.out 1).trans rfl
                have hfz25_0 := blk_frozen BK241.out 0
                have hfz25_1 := blk_frozen BK241.out 1
                try go_wp2
                have n0_ := Aside0.mk (Kd.R_drew HO_242000.out)
                have n1_ := Aside0.mk (Kd.S_drew HO_242001.out)
                have n2_ := Aside0.mk (blk_drew BK241.out)
                have n3_ := Aside0.mk (blk_drew BK242.out)
                have n4_ := Aside0.mk (blk_drew BK243.out)
                have n5_ := Aside0.mk (Kept.drew HK.out)
                have n6_ := Aside0.mk (below_drew1 HB.out)
                clear HO_242000
                clear HO_242001
                clear BK241
                clear BK242
                clear BK243
                clear HK
                clear HB
                have HO_242000 := n0_
                have HO_242001 := n1_
                have BK241 := n2_
                have BK242 := n3_
                have BK243 := n4_
                have HK := n5_
                have HB := n6_
                clear n0_ n1_ n2_ n3_ n4_ n5_ n6_
                have p244 : 0 ≤ (x6_2 : Int) := of_decide_eq_true (by first | (with_reducible assumption) | assumption)
                have q244 : x6_2 < (l0_1.length : Int) := of_decide_eq_true (by first | (with_reducible assumption) | assumption)
                obtain ⟨ad244, A244_1, c244_1, e244, hx244_0, hx244_1, hl244_1, hi244_1⟩ := at_T62 (Kd.S_reads' HO_242001.out).2.2 x6_2 p244 q244
                cases e244
                obtain ⟨ce244, hce244, hMe244, hcc244⟩ := Kd.V_get (Kd.S_V (base' := w0.heap.size) HO_242001.out) z62 x6_2 p244 (by first | exact q244 | exact of_decide_eq_true (by first | (with_reducible assumption) | assumption) | (have e_ := (Kd.S_reads' HO_242001.out).1; omega))
                obtain ⟨ua244_1, uc244_1, rfl, ul244_1, ge244_1⟩ := k62_openF hMe244
                have hv244_1 := hcc244 1 _ rfl
                rw [add_field _ _ 1 (by omega)] at hv244_1
                replace hv244_1 := Option.some.inj (hv244_1.symm.trans hx244_1)
                injection hv244_1 with hva_ hvn_ hvc_
                rw [hva_] at ge244_1
                rw [hvc_] at ul244_1
                have HL244_1 := Aside0.mk (show Kd.V (Kd.int .u8) 5 _ w0.heap.size _ _ ((rd_T62 l0_1 x6_2).f1) from Kd.V_mk ul244_1 ge244_1)
                clear hva_ hvn_ hvc_ ge244_1 ul244_1
                clear hcc244 hce244
                have HR244_1 := Aside0.mk hi244_1
                have HC244_1 := Aside0.mk hl244_1
                clear hi244_1 hl244_1
                replace p244 := eq_true p244
                replace q244 := eq_true q244
                have p245 : 0 ≤ (x6_2 : Int) := of_decide_eq_true (by first | (with_reducible assumption) | assumption)
                have q245 : x6_2 < (l0_1.length : Int) := of_decide_eq_true (by first | (with_reducible assumption) | assumption)
                obtain ⟨ad245, A245_1, c245_1, e245, hx245_0, hx245_1, hl245_1, hi245_1⟩ := at_T62 (Kd.S_reads' HO_242001.out).2.2 x6_2 p245 q245
                obtain rfl : ad244 = ad245 := (by injection e245)
                obtain ⟨ce245, hce245, hMe245, hcc245⟩ := Kd.V_get (Kd.S_V (base' := w0.heap.size) HO_242001.out) z62 x6_2 p245 (by first | exact q245 | exact of_decide_eq_true (by first | (with_reducible assumption) | assumption) | (have e_ := (Kd.S_reads' HO_242001.out).1; omega))
                obtain ⟨ua245_1, uc245_1, rfl, ul245_1, ge245_1⟩ := k62_openF hMe245
                have hv245_1 := hcc245 1 _ rfl
                rw [add_field _ _ 1 (by omega)] at hv245_1
                replace hv245_1 := Option.some.inj (hv245_1.symm.trans hx245_1)
                injection hv245_1 with hva_ hvn_ hvc_
                rw [hva_] at ge245_1
                rw [hvc_] at ul245_1
                have HL245_1 := Aside0.mk (show Kd.V (Kd.int .u8) 5 _ w0.heap.size _ _ ((rd_T62 l0_1 x6_2).f1) from Kd.V_mk ul245_1 ge245_1)
                clear hva_ hvn_ hvc_ ge245_1 ul245_1
                clear hcc245 hce245
                have HR245_1 := Aside0.mk hi245_1
                have HC245_1 := Aside0.mk hl245_1
                clear hi245_1 hl245_1
                replace p245 := eq_true p245
                replace q245 := eq_true q245
                have ea_ := Option.some.inj (hx244_1.symm.trans hx245_1)
                injection ea_ with ea_ en_ ec_
                subst ea_
                subst ec_
                clear en_
                obtain ⟨Ao27, co27, eo27⟩ := Kd.R_slice HO_242000.out
                (first | subst eo27 | (injection eo27 with f1_ f2_ f3_; have f4_ := f1_.symm; have f5_ := f3_.symm; clear f1_ f2_ f3_; subst f4_; subst f5_))
                refine start_ (n := 15) (S := fun w' => w'.cell? ⟨gb241, 0, none⟩ = some (.slice Ao27 x242000_2.length co27) ∧ w'.cell? ⟨gb241, 1, none⟩ = some (.slice (some ad244) l0_1.length c0_1) ∧ w'.cell? (ad244.add ((x6_2).toNat * 2)) = some (.int .i64 ((rd_T62 l0_1 x6_2).f0)) ∧ w'.cell? ⟨(ad244.add ((x6_2).toNat * 2)).block, (ad244.add ((x6_2).toNat * 2)).off + 1, none⟩ = some (.slice A244_1 ((rd_T62 l0_1 x6_2).f1).length c244_1) ∧ w'.cell? (ad244.add ((x6_2).toNat * 2)) = some (.int .i64 ((rd_T62 l0_1 x6_2).f0)) ∧ w'.cell? ⟨(ad244.add ((x6_2).toNat * 2)).block, (ad244.add ((x6_2).toNat * 2)).off + 1, none⟩ = some (.slice A244_1 ((rd_T62 l0_1 x6_2).f1).length c244_1)) (ds := []) #[false, false, false, false, false, false, false, false, false, false, false, false, false, false, false] (by kernel_rfl) rfl rfl ⟨(blk_cell BK241.out 0).trans rfl, (blk_cell BK241.out 1).trans rfl, hx244_0, hx244_1, hx245_0, hx245_1⟩ (fun hHeld => ?_); refine with_tabW spec_l1Do.tab5 spec_l1Do.bits5 (fun HT_ HW_ => ?_)
                generalize wr.drew = w26 at HO_242000 HO_242001 BK241 BK242 BK243 HK HB HL244_1 HL245_1 HR244_1 HR245_1 hx244_0 hx244_1 hx245_0 hx245_1 hHeld ⊢
                refine Rgn.pu HT_.out 0 28 ?_
                refine Rgn.pu HT_.out 2 30 ?_
                refine Rgn.pu HT_.out 4 32 ?_
                refine Rgn.pu HT_.out 8 36 ?_
                refine Rgn.pu HT_.out 10 38 ?_
                refine Rgn.tk HT_.out HW_.out 1 29 hHeld ?_
                refine Rgn.tk HT_.out HW_.out 3 31 hHeld ?_
                refine Rgn.pu HT_.out 5 33 ?_
                refine Rgn.pu HT_.out 6 34 ?_
                refine Rgn.tk HT_.out HW_.out 7 35 hHeld ?_
                refine Rgn.tk HT_.out HW_.out 9 37 hHeld ?_
                refine Rgn.pu HT_.out 11 39 ?_
                refine Rgn.pu HT_.out 12 40 ?_
                refine Rgn.tk HT_.out HW_.out 13 41 hHeld ?_
                refine one_ (i := 14) (N := some 42) #[true, true, true, true, true, true, true, true, true, true, true, true, true, true, true] rfl rfl (one_of HT_.out (by kernel_rfl)) (by decide) (fun K hK => ?_)
                refine Rgn.gs Try.func76 #[.slice Ao27 x242000_2.length co27, .int .i64 ((rd_T62 l0_1 x6_2).f0), .slice A244_1 ((rd_T62 l0_1 x6_2).f1).length c244_1] ?_
                with_reducible refine (spec_l1Put.calls k2 (fun k_ => some k_ = (.slice Ao27 x242000_2.length co27 : Value).ownBlock) (.slice Ao27 x242000_2.length co27) x242000_2 ((rd_T62 l0_1 x6_2).f0) _ _ ((rd_T62 l0_1 x6_2).f1) t246 w0 _ ?side1 ?side2 ?side3 ?side4 A22.out).mono ?_
                (case side1 => exact Rgn.bq HB.out)
                (case side2 => exact Kd.R_tight rfl HO_242000.out)
                (case side3 => exact Kd.C_kept_ownV (HL245_1.out) (fun k_ hk_ hs_ => (hk_.2.1) hs_))
                (case side4 => exact HC245_1.out)
                rintro e w28 ⟨rfl, hy0, hb, hkp⟩
                have HS2_ := cell_kept (hHeld.2.2.1) hkp (by first | (rw [add_block]; exact (fun hs_ => (((Kd.S_R HO_242001.out).1 _ rfl).2.1) hs_)) | (show ¬ _; simp only [add_block]; exact (fun hs_ => (((Kd.S_R HO_242001.out).1 _ rfl).2.1) hs_)) | exact (fun hs_ => (((Kd.S_R HO_242001.out).1 _ rfl).2.1) hs_))
                have HS3_ := cell_kept (hHeld.2.2.2.1) hkp (by first | (rw [add_block]; exact (fun hs_ => (((Kd.S_R HO_242001.out).1 _ rfl).2.1) hs_)) | (show ¬ _; simp only [add_block]; exact (fun hs_ => (((Kd.S_R HO_242001.out).1 _ rfl).2.1) hs_)) | exact (fun hs_ => (((Kd.S_R HO_242001.out).1 _ rfl).2.1) hs_))
                have HS4_ := cell_kept (hHeld.2.2.2.2.1) hkp (by first | (rw [add_block]; exact (fun hs_ => (((Kd.S_R HO_242001.out).1 _ rfl).2.1) hs_)) | (show ¬ _; simp only [add_block]; exact (fun hs_ => (((Kd.S_R HO_242001.out).1 _ rfl).2.1) hs_)) | exact (fun hs_ => (((Kd.S_R HO_242001.out).1 _ rfl).2.1) hs_))
                have HS5_ := cell_kept (hHeld.2.2.2.2.2) hkp (by first | (rw [add_block]; exact (fun hs_ => (((Kd.S_R HO_242001.out).1 _ rfl).2.1) hs_)) | (show ¬ _; simp only [add_block]; exact (fun hs_ => (((Kd.S_R HO_242001.out).1 _ rfl).2.1) hs_)) | exact (fun hs_ => (((Kd.S_R HO_242001.out).1 _ rfl).2.1) hs_))
                refine ⟨_, rfl, ?_⟩
                have n0_ := Aside0.mk (Kd.R_reok rfl hy0 (fun k_ e_ => HO_242000.out.1 k_ e_))
                have n1_ := Aside0.mk (Kd.S_mono (ok' := fun k_ => ((P0_0_ k_ ∨ P0_1_ k_) ∨ w.heap.size ≤ k_) ∧ some k_ ≠ (.slice Ao27 x242000_2.length co27 : Value).ownBlock ∧ k_ ≠ gb241 ∧ k_ ≠ gb242 ∧ k_ ≠ gb243) (Kd.S_keptB (HO_242001.out) hkp (fun k_ hk_ hs_ => (hk_.2.1) hs_)) (fun k_ hk_ => ⟨hk_.1.1, hk_.1.2.1, hk_.1.2.2.1, hk_.1.2.2.2.1, hk_.1.2.2.2.2⟩))
                have n2_ := Aside0.mk (blk_kept (Rgn.kb BK241.out) hkp (fun hs_ => (fun e_ => (Kd.R_ne HO_242000.out BK241.out (by decide)) e_) hs_))
                have n3_ := Aside0.mk (blk_kept (Rgn.kb BK242.out) hkp (fun hs_ => (fun e_ => (Kd.R_ne HO_242000.out BK242.out (by decide)) e_) hs_))
                have n4_ := Aside0.mk (blk_kept (Rgn.kb BK243.out) hkp (fun hs_ => (fun e_ => (Kd.R_ne HO_242000.out BK243.out (by decide)) e_) hs_))
                have n5_ := Aside0.mk (Kept.then_ (S := (fun k_ => P0_0_ k_ ∨ P0_1_ k_)) (by repeat (first | (with_reducible first | exact HK.out | apply Kept.alloc | apply Kept.drewN | apply Kept.drew | refine Kept.setCell ?_ (.inr GW241.out) _ | refine Kept.setCell ?_ (.inr GW242.out) _ | refine Kept.setCell ?_ (.inr GW243.out) _) | exact HK.out)) hkp (fun k_ hs_ => (Or.imp_left Or.inl (HO_242000.out.1 k_ hs_.symm))))
                have n6_ := Aside0.mk (hb)
                clear HO_242000
                clear HO_242001
                clear BK241
                clear BK242
                clear BK243
                clear HK
                clear HB
                clear HL244_1
                clear HL245_1
                have HO_242000 := n0_
                have HO_242001 := n1_
                have BK241 := n2_
                have BK242 := n3_
                have BK243 := n4_
                have HK := n5_
                have HB := n6_
                clear n0_ n1_ n2_ n3_ n4_ n5_ n6_
                (try clear hb)
                (try clear hkp)
                (try clear hy0)
                refine hK.out _ _ ⟨(blk_cell BK241.out 0).trans rfl, (blk_cell BK241.out 1).trans rfl, HS2_, HS3_, HS4_, HS5_⟩ (fun hHeld => ?_)
                clear hK K
                refine norm_ (a' := ?_) ?_ ?_
                rotate_left
                · show Act.put _ (some 42) _ = _
                  simp only [Act.put, List.setIfInBounds_toArray, List.set_cons_zero, List.set_cons_succ, i64_w, i32_w]
                  rfl
                refine done_ (done_of HT_.out (by kernel_rfl)) ?_
                try go_wp2
                go_roundg k2
                case measure => have := HJ2.out; have := HK2.out; omega
                case rel => exact ⟨(wrap64 (x6_2 + 1)), (t246), (.slice Ao27 x242000_2.length co27), (by first | rfl | (simp; done) | (simp [*]; done)), H', ⟨by have := HJ2.out; have := HK2.out; omega⟩, ⟨Rgn.rq HO_242000.out⟩, ⟨by (with_reducible repeat (first | apply Kd.S_alloc | apply Kd.S_drewN | apply Kd.S_drew)); exact HO_242001.out⟩, ⟨Rgn.kb BK241.out⟩, ⟨Rgn.kb BK242.out⟩, ⟨Rgn.kb BK243.out⟩, ⟨by repeat (first | (with_reducible first | exact HK.out | apply Kept.alloc | apply Kept.drewN | apply Kept.drew | refine Kept.setCell ?_ (.inr GW241.out) _ | refine Kept.setCell ?_ (.inr GW242.out) _ | refine Kept.setCell ?_ (.inr GW243.out) _) | exact HK.out)⟩, ⟨Rgn.bq HB.out⟩⟩
              · rw [if_neg c21] at H
                exact absurd H (by simp)
            · rw [if_neg c20] at H
              have c20b0 : decide (x6_2 < (l0_1.length : Int)) = false := decide_eq_false c20
              clear c20
              obtain ⟨y247, hy247⟩ : ∃ y_ : List (S62), y_ = (([] : List (S62))) := ⟨_, rfl⟩
              replace H : (some (x242000_2, y247, true)) = some (r1, r2, r3) := by first | (rw [hy247]; with_reducible exact H) | (have H2_ := (Option.bind_some _ _).symm.trans H; rw [hy247]; with_reducible exact H2_) | (have H2_ := (Option.bind_some _ _).symm.trans H; with_reducible exact H2_) | with_reducible exact H | (rw [hy247]; exact H) | exact H
              have Ny247 := Aside0.mk hy247
              clear hy247
              simp only [Option.some.injEq, Prod.mk.injEq] at H
              obtain ⟨rfl, rfl, rfl⟩ := H
              have hnb29 := NB241_242.out
              have hnc29 := NB242_241.out
              have hnb30 := NB241_243.out
              have hnc30 := NB243_241.out
              have hcz31_0 : wr.cell? ⟨gb241, 0, none⟩ = some (u242000) := (blk_cell BK241.out 0).trans rfl
              have hcz31_1 : wr.cell? ⟨gb241, 1, none⟩ = some (.slice A0_1 l0_1.length c0_1) := (blk_cell BK241.out 1).trans rfl
              have hfz31_0 := blk_frozen BK241.out 0
              have hfz31_1 := blk_frozen BK241.out 1
              go_wp2_with (first | ((with_reducible refine gate_dst (N := 43) rfl ?_); (try (refine gate_guard (by rfl) ?_; dsimp only)); refine Kd.S_lit k62 _ 62 ?hg (N := 43) ?hd (xs := ([] : List (S62))) (inner := []) (ok := (fun k_ => ((P0_0_ k_ ∨ P0_1_ k_) ∨ w.heap.size ≤ k_) ∧ some k_ ≠ (u242000 : Value).ownBlock ∧ k_ ≠ gb241 ∧ k_ ≠ gb242 ∧ k_ ≠ gb243)) (okp := (fun k_ => ((P0_0_ k_ ∨ P0_1_ k_) ∨ w.heap.size ≤ k_) ∧ some k_ ≠ (u242000 : Value).ownBlock ∧ k_ ≠ gb241 ∧ k_ ≠ gb242 ∧ k_ ≠ gb243)) ?hr ?hp (fun _ hk => hk) ((show ∀ k_, wr.heap.size ≤ k_ → (fun k_ => ((P0_0_ k_ ∨ P0_1_ k_) ∨ w.heap.size ≤ k_) ∧ some k_ ≠ (u242000 : Value).ownBlock ∧ k_ ≠ gb241 ∧ k_ ≠ gb242 ∧ k_ ≠ gb243) k_ from fun k_ hk => ⟨(.inr (Nat.le_trans (by first | exact HK.out.1 | exact (show Kept w _ (fun k_ => P0_0_ k_ ∨ P0_1_ k_) from by repeat (first | (with_reducible first | exact HK.out | apply Kept.alloc | apply Kept.drewN | apply Kept.drew | refine Kept.setCell ?_ (.inr GW241.out) _ | refine Kept.setCell ?_ (.inr GW242.out) _ | refine Kept.setCell ?_ (.inr GW243.out) _) | exact HK.out)).1) hk)), Kd.fresh' (Kd.R_lt (Rgn.rq HO_242000.out)) k_ hk, Kd.freshB (g := gb241) (o := .cells #[u242000, .slice A0_1 l0_1.length c0_1] 29 (0, 0)) (Rgn.kb BK241.out) k_ hk, Kd.freshB (g := gb242) (o := .cells #[.int .i64 a1_0, .int .i64 a1_1, .slice A1_2 l1_2.length c1_2] 93 (0, 0)) (Rgn.kb BK242.out) k_ hk, Kd.freshB (g := gb243) (o := .cells #[.slice none 0 0, .slice none 0 0] 29 (0, 0)) (Rgn.kb BK243.out) k_ hk⟩) _ (Nat.le_refl _)) (Below.refl _ _) (Nat.le_refl _) (by simp) ?_; (case hd => rfl); (case hg => rfl); (case hr => first | (go_simp; done) | (go_simp; rfl)); (case hp => exact (Reps.none _ _)); intro v248 w32 ho33 hb hg_ hnew_; clear hg_ hnew_; (first | rw [← Ny247.out] at ho33 | (simp only [Int.reduceToNat] at ho33; rw [← Ny247.out] at ho33)); have n0_ := Aside0.mk (Kd.R_below (Rgn.rq HO_242000.out) hb); have n1_ := Aside0.mk (Kd.S_elder' (by (with_reducible repeat (first | apply Kd.S_alloc | apply Kd.S_drewN | apply Kd.S_drew)); exact HO_242001.out) (Kd.S_base ho33) hb); have n2_ := Aside0.mk (Kd.S_lower ho33 (below_size (Rgn.bq HB.out))); have n3_ := Aside0.mk (Rgn.bb BK241.out hb); have n4_ := Aside0.mk (Rgn.bb BK242.out hb); have n5_ := Aside0.mk (Rgn.bb BK243.out hb); have n6_ := Aside0.mk (Kept.below (S := (fun k_ => P0_0_ k_ ∨ P0_1_ k_)) (by repeat (first | (with_reducible first | exact HK.out | apply Kept.alloc | apply Kept.drewN | apply Kept.drew | refine Kept.setCell ?_ (.inr GW241.out) _ | refine Kept.setCell ?_ (.inr GW242.out) _ | refine Kept.setCell ?_ (.inr GW243.out) _) | exact HK.out)) hb); have n7_ := Aside0.mk (below_step (Rgn.bq HB.out) hb); clear HO_242000; clear HO_242001; clear BK241; clear BK242; clear BK243; clear HK; clear HB; have HO_242000 := n0_; have HO_242001 := n1_; have HO249 := n2_; have BK241 := n3_; have BK242 := n4_; have BK243 := n5_; have HK := n6_; have HB := n7_; clear n0_ n1_ n2_ n3_ n4_ n5_ n6_ n7_; clear hb ho33; obtain ⟨Ao34, co34, eo34⟩ := Kd.S_slice HO249.out; subst eo34; have hcz35_0 : w32.cell? ⟨gb241, 0, none⟩ = some (u242000) := (blk_cell BK241.out 0).trans rfl; have hcz35_1 : w32.cell? ⟨gb241, 1, none⟩ = some (.slice A0_1 l0_1.length c0_1) := (blk_cell BK241.out 1).trans rfl; have hfz35_0 := blk_frozen BK241.out 0; have hfz35_1 := blk_frozen BK241.out 1; obtain ⟨Ao36, co36, eo36⟩ := Kd.R_slice HO_242000.out; subst eo36; have hnb37 := NB243_242.out; have hnc37 := NB242_243.out; have hcz38_0 : w32.cell? ⟨gb243, 0, none⟩ = some (.slice none 0 0) := (blk_cell BK243.out 0).trans rfl; have hcz38_1 : w32.cell? ⟨gb243, 1, none⟩ = some (.slice none 0 0) := (blk_cell BK243.out 1).trans rfl; have hfz38_0 := blk_frozen BK243.out 0; have hfz38_1 := blk_frozen BK243.out 1))
              refine bodyPost_ret (results_ct rfl _ _ gb243 29 #[.slice Ao36 x242000_2.length co36, .slice Ao34 y247.length co34] (0, 0) _ rfl (by (with_reducible repeat (first | refine blk_drewN ?_ _ | refine blk_drew ?_ | refine blk_alloc ?_ _)); refine blk_put (cs := #[.slice Ao36 x242000_2.length co36, .slice none 0 0]) ?_ 1 _ rfl; (with_reducible repeat (first | refine blk_drewN ?_ _ | refine blk_drew ?_ | refine blk_alloc ?_ _)); refine blk_put (cs := #[.slice none 0 0, .slice none 0 0]) ?_ 0 _ rfl; (with_reducible repeat (first | refine blk_drewN ?_ _ | refine blk_drew ?_ | refine blk_alloc ?_ _)); refine blk_far ?_ NB243_241.out _; (with_reducible repeat (first | refine blk_drewN ?_ _ | refine blk_drew ?_ | refine blk_alloc ?_ _)); exact BK243.out) Try.underlying29 rfl (by kernel_rfl)) rfl ?_
              exact ⟨_, _, by first | rfl | (simp [errW_none, errW_some] <;> rfl) | (simp [*, errW_none, errW_some] <;> rfl), by (with_reducible repeat (first | apply Kd.R_alloc | apply Kd.R_drewN | apply Kd.R_drew)); exact Kd.R_mono (Kd.R_far (p := ⟨gb243, 1, none⟩) (Kd.R_far (p := ⟨gb243, 0, none⟩) (Kd.R_far (p := ⟨gb241, 1, none⟩) (Kd.R_types (Kd.R_types HO_242000.out BK241.out (by decide)) BK243.out (by decide)) (fun _ hk => hk.1.2) (.slice Ao34 y247.length co34)) (fun _ hk => hk.2) (.slice Ao36 x242000_2.length co36)) (fun _ hk => hk.2) (.slice Ao34 y247.length co34)) (fun _ hk => hk.1.1), by (with_reducible repeat (first | apply Kd.S_alloc | apply Kd.S_drewN | apply Kd.S_drew)); exact Kd.S_mono (Kd.S_far (p := ⟨gb243, 1, none⟩) (Kd.S_far (p := ⟨gb243, 0, none⟩) (Kd.S_far (p := ⟨gb241, 1, none⟩) (Kd.S_mono (Kd.S_mono HO249.out (fun k_ hk => (⟨hk, hk.2.2.1⟩ : _ ∧ k_ ≠ gb241))) (fun k_ hk => (⟨hk, hk.1.2.2.2.2⟩ : _ ∧ k_ ≠ gb243))) (fun _ hk => hk.1.2) (.slice Ao34 y247.length co34)) (fun _ hk => hk.2) (.slice Ao36 x242000_2.length co36)) (fun _ hk => hk.2) (.slice Ao34 y247.length co34)) (fun _ hk => ⟨hk.1.1.1, hk.1.1.2.1⟩), Rgn.bq HB.out, by repeat (first | (with_reducible first | exact HK.out | apply Kept.alloc | apply Kept.drewN | apply Kept.drew | refine Kept.setCell ?_ (.inr GW241.out) _ | refine Kept.setCell ?_ (.inr GW242.out) _ | refine Kept.setCell ?_ (.inr GW243.out) _) | exact HK.out)⟩
      · replace c19 := Bool.eq_false_iff.mpr c19
        subst c19
        have H1 : (if a1_0 = 1 then (if (l0_1.length : Int) = 600 then (some (l0_0, l0_1, false)) else (if a1_1 < 0 then (some (l0_0, l0_1, false)) else ((spec_l1Blocks.f l0_0 l0_1).bind fun t250 => (if a1_1 ≥ t250 then (some (l0_0, l0_1, false)) else (if (l1_2.length : Int) = 64 then ((spec_l1Copy.f l1_2).bind fun t251 => (if l0_1.length < 4398046511104 then (some (l0_0, (l0_1 ++ [(⟨a1_1, t251⟩ : S62)]), true)) else (none))) else (some (l0_0, l0_1, false))))))) else (some (l0_0, l0_1, false))) = some (r1, r2, r3) := by rw [if_neg (show ¬ (false = true) by decide)] at H; exact H
        clear H
        have H := H1
        clear H1
        by_cases c39 : a1_0 = 1
        · rw [if_pos c39] at H
          have c39b0 : (a1_0 == 1) = true := beq_iff_eq.mpr c39
          have c39b1 : (a1_0 != 1) = false := bne_eq_false_iff_eq.mpr c39
          clear c39
          by_cases c40 : (l0_1.length : Int) = 600
          · rw [if_pos c40] at H
            have c40b0 : ((l0_1.length : Int) == 600) = true := beq_iff_eq.mpr c40
            have c40b1 : ((l0_1.length : Int) != 600) = false := bne_eq_false_iff_eq.mpr c40
            clear c40
            simp only [Option.some.injEq, Prod.mk.injEq] at H
            obtain ⟨rfl, rfl, rfl⟩ := H
            try go_wp2
            have n0_ := Aside0.mk (Kd.R_drew HO_242000.out)
            have n1_ := Aside0.mk (Kd.S_drew HO_242001.out)
            have n2_ := Aside0.mk (blk_drew BK241.out)
            have n3_ := Aside0.mk (blk_drew BK242.out)
            have n4_ := Aside0.mk (blk_drew BK243.out)
            have n5_ := Aside0.mk (Kept.drew HK.out)
            have n6_ := Aside0.mk (below_drew1 HB.out)
            clear HO_242000
            clear HO_242001
            clear BK241
            clear BK242
            clear BK243
            clear HK
            clear HB
            have HO_242000 := n0_
            have HO_242001 := n1_
            have BK241 := n2_
            have BK242 := n3_
            have BK243 := n4_
            have HK := n5_
            have HB := n6_
            clear n0_ n1_ n2_ n3_ n4_ n5_ n6_
            refine start_ (n := 27) (S := fun w' => w'.cell? ⟨gb242, 0, none⟩ = some (.int .i64 a1_0) ∧ w'.cell? ⟨gb242, 1, none⟩ = some (.int .i64 a1_1) ∧ w'.cell? ⟨gb242, 2, none⟩ = some (.slice A1_2 l1_2.length c1_2) ∧ w'.cell? ⟨gb241, 0, none⟩ = some (.slice Ao4 l0_0.length co4) ∧ w'.cell? ⟨gb241, 1, none⟩ = some (.slice A0_1 l0_1.length c0_1)) (ds := []) #[false, false, false, false, false, false, false, false, false, false, false, false, false, false, false, false, false, false, false, false, false, false, false, false, false, false, false] (by kernel_rfl) rfl rfl ⟨(blk_cell BK242.out 0).trans rfl, (blk_cell BK242.out 1).trans rfl, (blk_cell BK242.out 2).trans rfl, (blk_cell BK241.out 0).trans rfl, (blk_cell BK241.out 1).trans rfl⟩ (fun hHeld => ?_); refine with_tabW spec_l1Do.tab8 spec_l1Do.bits8 (fun HT_ HW_ => ?_)
            generalize wc.drew = w41 at HO_242000 HO_242001 BK241 BK242 BK243 HK HB hHeld ⊢
            refine Rgn.pu HT_.out 0 46 ?_
            refine Rgn.tk HT_.out HW_.out 1 47 hHeld ?_
            refine Rgn.pu HT_.out 2 48 ?_
            refine Rgn.pu HT_.out 3 49 ?_
            refine Rgn.pu HT_.out 4 50 ?_
            refine Rgn.tk HT_.out HW_.out 5 51 hHeld ?_
            refine Rgn.pu HT_.out 6 52 ?_
            refine Rgn.pu HT_.out 7 53 ?_
            refine Rgn.pu HT_.out 8 54 ?_
            refine Rgn.pu HT_.out 9 55 ?_
            refine Rgn.pn HT_.out 10 56 ?_
            refine Rgn.pn HT_.out 11 57 ?_
            refine Rgn.pn HT_.out 12 58 ?_
            refine Rgn.pu HT_.out 13 59 ?_
            refine Rgn.pu HT_.out 14 60 ?_
            refine Rgn.pn HT_.out 15 61 ?_
            refine Rgn.pn HT_.out 16 62 ?_
            refine Rgn.pn HT_.out 17 63 ?_
            refine Rgn.pn HT_.out 18 64 ?_
            refine Rgn.pn HT_.out 19 65 ?_
            refine Rgn.pu HT_.out 20 66 ?_
            refine Rgn.pu HT_.out 21 67 ?_
            refine Rgn.pn HT_.out 22 68 ?_
            refine Rgn.pn HT_.out 23 69 ?_
            refine Rgn.pn HT_.out 24 70 ?_
            refine Rgn.pn HT_.out 25 71 ?_
            refine Rgn.pu HT_.out 26 72 ?_
            refine done_ (done_of HT_.out (by kernel_rfl)) ?_
            have hnb42 := NB241_242.out
            have hnc42 := NB242_241.out
            have hnb43 := NB241_243.out
            have hnc43 := NB243_241.out
            have hcz44_0 : w41.cell? ⟨gb241, 0, none⟩ = some (.slice Ao4 l0_0.length co4) := (blk_cell BK241.out 0).trans rfl
            have hcz44_1 : w41.cell? ⟨gb241, 1, none⟩ = some (.slice A0_1 l0_1.length c0_1) := (blk_cell BK241.out 1).trans rfl
            have hfz44_0 := blk_frozen BK241.out 0
            have hfz44_1 := blk_frozen BK241.out 1
            have hnb45 := NB243_242.out
            have hnc45 := NB242_243.out
            have hcz46_0 : w41.cell? ⟨gb243, 0, none⟩ = some (.slice none 0 0) := (blk_cell BK243.out 0).trans rfl
            have hcz46_1 : w41.cell? ⟨gb243, 1, none⟩ = some (.slice none 0 0) := (blk_cell BK243.out 1).trans rfl
            have hfz46_0 := blk_frozen BK243.out 0
            have hfz46_1 := blk_frozen BK243.out 1
            try go_wp2
            refine bodyPost_ret (results_ct rfl _ _ gb243 29 #[.slice Ao4 l0_0.length co4, .slice A0_1 l0_1.length c0_1] (0, 0) _ rfl (by (with_reducible repeat (first | refine blk_drewN ?_ _ | refine blk_drew ?_ | refine blk_alloc ?_ _)); refine blk_put (cs := #[.slice Ao4 l0_0.length co4, .slice none 0 0]) ?_ 1 _ rfl; (with_reducible repeat (first | refine blk_drewN ?_ _ | refine blk_drew ?_ | refine blk_alloc ?_ _)); refine blk_put (cs := #[.slice none 0 0, .slice none 0 0]) ?_ 0 _ rfl; (with_reducible repeat (first | refine blk_drewN ?_ _ | refine blk_drew ?_ | refine blk_alloc ?_ _)); exact BK243.out) Try.underlying29 rfl (by kernel_rfl)) rfl ?_
            exact ⟨_, _, by first | rfl | (simp [errW_none, errW_some] <;> rfl) | (simp [*, errW_none, errW_some] <;> rfl), by (with_reducible repeat (first | apply Kd.R_alloc | apply Kd.R_drewN | apply Kd.R_drew)); exact Kd.R_mono (Kd.R_far (p := ⟨gb243, 1, none⟩) (Kd.R_far (p := ⟨gb243, 0, none⟩) (Kd.R_types HO_242000.out BK243.out (by decide)) (fun _ hk => hk.2) (.slice Ao4 l0_0.length co4)) (fun _ hk => hk.2) (.slice A0_1 l0_1.length c0_1)) (fun _ hk => hk.1), by (with_reducible repeat (first | apply Kd.S_alloc | apply Kd.S_drewN | apply Kd.S_drew)); exact Kd.S_mono (Kd.S_far (p := ⟨gb243, 1, none⟩) (Kd.S_far (p := ⟨gb243, 0, none⟩) (Kd.S_mono HO_242001.out (fun k_ hk => (⟨hk, hk.2.2.2.2⟩ : _ ∧ k_ ≠ gb243))) (fun _ hk => hk.2) (.slice Ao4 l0_0.length co4)) (fun _ hk => hk.2) (.slice A0_1 l0_1.length c0_1)) (fun _ hk => ⟨hk.1.1, hk.1.2.1⟩), Rgn.bq HB.out, by repeat (first | (with_reducible first | exact HK.out | apply Kept.alloc | apply Kept.drewN | apply Kept.drew | refine Kept.setCell ?_ (.inr GW241.out) _ | refine Kept.setCell ?_ (.inr GW242.out) _ | refine Kept.setCell ?_ (.inr GW243.out) _) | exact HK.out)⟩
          · rw [if_neg c40] at H
            have c40b0 : ((l0_1.length : Int) == 600) = false := beq_eq_false_iff_ne.mpr c40
            have c40b1 : ((l0_1.length : Int) != 600) = true := bne_iff_ne.mpr c40
            by_cases c47 : a1_1 < 0
            · rw [if_pos c47] at H
              have c47b0 : decide (a1_1 < 0) = true := decide_eq_true c47
              clear c47
              simp only [Option.some.injEq, Prod.mk.injEq] at H
              obtain ⟨rfl, rfl, rfl⟩ := H
              try go_wp2
              have n0_ := Aside0.mk (Kd.R_drew HO_242000.out)
              have n1_ := Aside0.mk (Kd.S_drew HO_242001.out)
              have n2_ := Aside0.mk (blk_drew BK241.out)
              have n3_ := Aside0.mk (blk_drew BK242.out)
              have n4_ := Aside0.mk (blk_drew BK243.out)
              have n5_ := Aside0.mk (Kept.drew HK.out)
              have n6_ := Aside0.mk (below_drew1 HB.out)
              clear HO_242000
              clear HO_242001
              clear BK241
              clear BK242
              clear BK243
              clear HK
              clear HB
              have HO_242000 := n0_
              have HO_242001 := n1_
              have BK241 := n2_
              have BK242 := n3_
              have BK243 := n4_
              have HK := n5_
              have HB := n6_
              clear n0_ n1_ n2_ n3_ n4_ n5_ n6_
              refine start_ (n := 27) (S := fun w' => w'.cell? ⟨gb242, 0, none⟩ = some (.int .i64 a1_0) ∧ w'.cell? ⟨gb242, 1, none⟩ = some (.int .i64 a1_1) ∧ w'.cell? ⟨gb242, 2, none⟩ = some (.slice A1_2 l1_2.length c1_2) ∧ w'.cell? ⟨gb241, 0, none⟩ = some (.slice Ao4 l0_0.length co4) ∧ w'.cell? ⟨gb241, 1, none⟩ = some (.slice A0_1 l0_1.length c0_1)) (ds := []) #[false, false, false, false, false, false, false, false, false, false, false, false, false, false, false, false, false, false, false, false, false, false, false, false, false, false, false] (by kernel_rfl) rfl rfl ⟨(blk_cell BK242.out 0).trans rfl, (blk_cell BK242.out 1).trans rfl, (blk_cell BK242.out 2).trans rfl, (blk_cell BK241.out 0).trans rfl, (blk_cell BK241.out 1).trans rfl⟩ (fun hHeld => ?_); refine with_tabW spec_l1Do.tab8 spec_l1Do.bits8 (fun HT_ HW_ => ?_)
              generalize wc.drew = w48 at HO_242000 HO_242001 BK241 BK242 BK243 HK HB hHeld ⊢
              refine Rgn.pu HT_.out 0 46 ?_
              refine Rgn.tk HT_.out HW_.out 1 47 hHeld ?_
              refine Rgn.pu HT_.out 2 48 ?_
              refine Rgn.pu HT_.out 3 49 ?_
              refine Rgn.pu HT_.out 4 50 ?_
              refine Rgn.tk HT_.out HW_.out 5 51 hHeld ?_
              refine Rgn.pu HT_.out 6 52 ?_
              refine Rgn.pu HT_.out 7 53 ?_
              refine Rgn.pu HT_.out 8 54 ?_
              refine Rgn.pu HT_.out 9 55 ?_
              refine Rgn.pu HT_.out 10 56 ?_
              refine Rgn.tk HT_.out HW_.out 11 57 hHeld ?_
              refine Rgn.pu HT_.out 12 58 ?_
              refine Rgn.pu HT_.out 13 59 ?_
              refine Rgn.pu HT_.out 14 60 ?_
              refine Rgn.pn HT_.out 15 61 ?_
              refine Rgn.pn HT_.out 16 62 ?_
              refine Rgn.pn HT_.out 17 63 ?_
              refine Rgn.pn HT_.out 18 64 ?_
              refine Rgn.pn HT_.out 19 65 ?_
              refine Rgn.pu HT_.out 20 66 ?_
              refine Rgn.pu HT_.out 21 67 ?_
              refine Rgn.pn HT_.out 22 68 ?_
              refine Rgn.pn HT_.out 23 69 ?_
              refine Rgn.pn HT_.out 24 70 ?_
              refine Rgn.pn HT_.out 25 71 ?_
              refine Rgn.pu HT_.out 26 72 ?_
              refine done_ (done_of HT_.out (by kernel_rfl)) ?_
              have hnb49 := NB241_242.out
              have hnc49 := NB242_241.out
              have hnb50 := NB241_243.out
              have hnc50 := NB243_241.out
              have hcz51_0 : w48.cell? ⟨gb241, 0, none⟩ = some (.slice Ao4 l0_0.length co4) := (blk_cell BK241.out 0).trans rfl
              have hcz51_1 : w48.cell? ⟨gb241, 1, none⟩ = some (.slice A0_1 l0_1.length c0_1) := (blk_cell BK241.out 1).trans rfl
              have hfz51_0 := blk_frozen BK241.out 0
              have hfz51_1 := blk_frozen BK241.out 1
              have hnb52 := NB243_242.out
              have hnc52 := NB242_243.out
              have hcz53_0 : w48.cell? ⟨gb243, 0, none⟩ = some (.slice none 0 0) := (blk_cell BK243.out 0).trans rfl
              have hcz53_1 : w48.cell? ⟨gb243, 1, none⟩ = some (.slice none 0 0) := (blk_cell BK243.out 1).trans rfl
              have hfz53_0 := blk_frozen BK243.out 0
              have hfz53_1 := blk_frozen BK243.out 1
              try go_wp2
              refine bodyPost_ret (results_ct rfl _ _ gb243 29 #[.slice Ao4 l0_0.length co4, .slice A0_1 l0_1.length c0_1] (0, 0) _ rfl (by (with_reducible repeat (first | refine blk_drewN ?_ _ | refine blk_drew ?_ | refine blk_alloc ?_ _)); refine blk_put (cs := #[.slice Ao4 l0_0.length co4, .slice none 0 0]) ?_ 1 _ rfl; (with_reducible repeat (first | refine blk_drewN ?_ _ | refine blk_drew ?_ | refine blk_alloc ?_ _)); refine blk_put (cs := #[.slice none 0 0, .slice none 0 0]) ?_ 0 _ rfl; (with_reducible repeat (first | refine blk_drewN ?_ _ | refine blk_drew ?_ | refine blk_alloc ?_ _)); exact BK243.out) Try.underlying29 rfl (by kernel_rfl)) rfl ?_
              exact ⟨_, _, by first | rfl | (simp [errW_none, errW_some] <;> rfl) | (simp [*, errW_none, errW_some] <;> rfl), by (with_reducible repeat (first | apply Kd.R_alloc | apply Kd.R_drewN | apply Kd.R_drew)); exact Kd.R_mono (Kd.R_far (p := ⟨gb243, 1, none⟩) (Kd.R_far (p := ⟨gb243, 0, none⟩) (Kd.R_types HO_242000.out BK243.out (by decide)) (fun _ hk => hk.2) (.slice Ao4 l0_0.length co4)) (fun _ hk => hk.2) (.slice A0_1 l0_1.length c0_1)) (fun _ hk => hk.1), by (with_reducible repeat (first | apply Kd.S_alloc | apply Kd.S_drewN | apply Kd.S_drew)); exact Kd.S_mono (Kd.S_far (p := ⟨gb243, 1, none⟩) (Kd.S_far (p := ⟨gb243, 0, none⟩) (Kd.S_mono HO_242001.out (fun k_ hk => (⟨hk, hk.2.2.2.2⟩ : _ ∧ k_ ≠ gb243))) (fun _ hk => hk.2) (.slice Ao4 l0_0.length co4)) (fun _ hk => hk.2) (.slice A0_1 l0_1.length c0_1)) (fun _ hk => ⟨hk.1.1, hk.1.2.1⟩), Rgn.bq HB.out, by repeat (first | (with_reducible first | exact HK.out | apply Kept.alloc | apply Kept.drewN | apply Kept.drew | refine Kept.setCell ?_ (.inr GW241.out) _ | refine Kept.setCell ?_ (.inr GW242.out) _ | refine Kept.setCell ?_ (.inr GW243.out) _) | exact HK.out)⟩
            · rw [if_neg c47] at H
              have c47b0 : decide (a1_1 < 0) = false := decide_eq_false c47
              clear c47
              replace H := Option.bind_eq_some_iff.mp H
              obtain ⟨t250, A540, H⟩ := H
              replace H : (if a1_1 ≥ t250 then (some (l0_0, l0_1, false)) else (if (l1_2.length : Int) = 64 then ((spec_l1Copy.f l1_2).bind fun t251 => (if l0_1.length < 4398046511104 then (some (l0_0, (l0_1 ++ [(⟨a1_1, t251⟩ : S62)]), true)) else (none))) else (some (l0_0, l0_1, false)))) = some (r1, r2, r3) := H
              have A54 := Aside0.mk A540
              clear A540
              by_cases c55 : a1_1 ≥ t250
              · rw [if_pos c55] at H
                have c55b0 : decide (t250 ≤ a1_1) = true := decide_eq_true c55
                clear c55
                simp only [Option.some.injEq, Prod.mk.injEq] at H
                obtain ⟨rfl, rfl, rfl⟩ := H
                try go_wp2
                have n0_ := Aside0.mk (Kd.R_drew HO_242000.out)
                have n1_ := Aside0.mk (Kd.S_drew HO_242001.out)
                have n2_ := Aside0.mk (blk_drew BK241.out)
                have n3_ := Aside0.mk (blk_drew BK242.out)
                have n4_ := Aside0.mk (blk_drew BK243.out)
                have n5_ := Aside0.mk (Kept.drew HK.out)
                have n6_ := Aside0.mk (below_drew1 HB.out)
                clear HO_242000
                clear HO_242001
                clear BK241
                clear BK242
                clear BK243
                clear HK
                clear HB
                have HO_242000 := n0_
                have HO_242001 := n1_
                have BK241 := n2_
                have BK242 := n3_
                have BK243 := n4_
                have HK := n5_
                have HB := n6_
                clear n0_ n1_ n2_ n3_ n4_ n5_ n6_
                refine start_ (n := 27) (S := fun w' => w'.cell? ⟨gb242, 0, none⟩ = some (.int .i64 a1_0) ∧ w'.cell? ⟨gb242, 1, none⟩ = some (.int .i64 a1_1) ∧ w'.cell? ⟨gb242, 2, none⟩ = some (.slice A1_2 l1_2.length c1_2) ∧ w'.cell? ⟨gb241, 0, none⟩ = some (.slice Ao4 l0_0.length co4) ∧ w'.cell? ⟨gb241, 1, none⟩ = some (.slice A0_1 l0_1.length c0_1)) (ds := []) #[false, false, false, false, false, false, false, false, false, false, false, false, false, false, false, false, false, false, false, false, false, false, false, false, false, false, false] (by kernel_rfl) rfl rfl ⟨(blk_cell BK242.out 0).trans rfl, (blk_cell BK242.out 1).trans rfl, (blk_cell BK242.out 2).trans rfl, (blk_cell BK241.out 0).trans rfl, (blk_cell BK241.out 1).trans rfl⟩ (fun hHeld => ?_); refine with_tabW spec_l1Do.tab8 spec_l1Do.bits8 (fun HT_ HW_ => ?_)
                generalize wc.drew = w56 at HO_242000 HO_242001 BK241 BK242 BK243 HK HB hHeld ⊢
                refine Rgn.pu HT_.out 0 46 ?_
                refine Rgn.tk HT_.out HW_.out 1 47 hHeld ?_
                refine Rgn.pu HT_.out 2 48 ?_
                refine Rgn.pu HT_.out 3 49 ?_
                refine Rgn.pu HT_.out 4 50 ?_
                refine Rgn.tk HT_.out HW_.out 5 51 hHeld ?_
                refine Rgn.pu HT_.out 6 52 ?_
                refine Rgn.pu HT_.out 7 53 ?_
                refine Rgn.pu HT_.out 8 54 ?_
                refine Rgn.pu HT_.out 9 55 ?_
                refine Rgn.pu HT_.out 10 56 ?_
                refine Rgn.tk HT_.out HW_.out 11 57 hHeld ?_
                refine Rgn.pu HT_.out 12 58 ?_
                refine Rgn.pu HT_.out 13 59 ?_
                refine Rgn.pu HT_.out 14 60 ?_
                refine Rgn.pu HT_.out 15 61 ?_
                refine Rgn.tk HT_.out HW_.out 16 62 hHeld ?_
                refine Rgn.tk HT_.out HW_.out 17 63 hHeld ?_
                refine one_ (i := 18) (N := some 64) #[true, true, true, true, true, true, true, true, true, true, true, true, true, true, true, true, true, true, true, false, false, false, false, false, false, false, false] rfl rfl (one_of HT_.out (by kernel_rfl)) (by decide) (fun K hK => ?_)
                refine Rgn.gs Try.func70 #[.agg #[.slice Ao4 l0_0.length co4, .slice A0_1 l0_1.length c0_1]] ?_
                with_reducible refine (spec_l1Blocks.calls _ _ l0_0 _ _ l0_1 t250 _ ?side1 ?side2 ?side3 ?side4 A54.out).mono ?_
                (case side1 => exact Rgn.cq (Kd.R_reads' HO_242000.out).2.2)
                (case side2 => exact (Kd.R_reads' HO_242000.out).2.1)
                (case side3 => repeat (first | exact (Kd.S_reads' HO_242001.out).2.2 | (with_reducible refine Kd.C_alloc ?_ _) | (with_reducible refine Kd.C_drewN ?_ _) | (with_reducible refine Kd.C_drew ?_)))
                (case side4 => exact (Kd.S_reads' HO_242001.out).2.1)
                rintro e w57 ⟨rfl, hb⟩
                refine ⟨_, rfl, ?_⟩
                have n0_ := Aside0.mk (Kd.R_below (Rgn.rq HO_242000.out) hb)
                have n1_ := Aside0.mk (Kd.S_below (by (with_reducible repeat (first | apply Kd.S_alloc | apply Kd.S_drewN | apply Kd.S_drew)); exact HO_242001.out) hb)
                have n2_ := Aside0.mk (Rgn.bb BK241.out hb)
                have n3_ := Aside0.mk (Rgn.bb BK242.out hb)
                have n4_ := Aside0.mk (Rgn.bb BK243.out hb)
                have n5_ := Aside0.mk (Kept.below (S := (fun k_ => P0_0_ k_ ∨ P0_1_ k_)) (by repeat (first | (with_reducible first | exact HK.out | apply Kept.alloc | apply Kept.drewN | apply Kept.drew | refine Kept.setCell ?_ (.inr GW241.out) _ | refine Kept.setCell ?_ (.inr GW242.out) _ | refine Kept.setCell ?_ (.inr GW243.out) _) | exact HK.out)) hb)
                have n6_ := Aside0.mk (below_step (Rgn.bq HB.out) hb)
                clear HO_242000
                clear HO_242001
                clear BK241
                clear BK242
                clear BK243
                clear HK
                clear HB
                have HO_242000 := n0_
                have HO_242001 := n1_
                have BK241 := n2_
                have BK242 := n3_
                have BK243 := n4_
                have HK := n5_
                have HB := n6_
                clear n0_ n1_ n2_ n3_ n4_ n5_ n6_
                (try clear hb)
                (try clear hb2)
                (try clear hk)
                (try clear hi)
                refine hK.out _ _ ⟨(blk_cell BK242.out 0).trans rfl, (blk_cell BK242.out 1).trans rfl, (blk_cell BK242.out 2).trans rfl, (blk_cell BK241.out 0).trans rfl, (blk_cell BK241.out 1).trans rfl⟩ (fun hHeld => ?_)
                clear hK K
                refine norm_ (a' := ?_) ?_ ?_
                rotate_left
                · show Act.put _ (some 64) _ = _
                  simp only [Act.put, List.setIfInBounds_toArray, List.set_cons_zero, List.set_cons_succ, i64_w, i32_w]
                  rfl
                refine Rgn.pu HT_.out 19 65 ?_
                refine Rgn.pu HT_.out 20 66 ?_
                refine Rgn.pu HT_.out 21 67 ?_
                refine Rgn.pn HT_.out 22 68 ?_
                refine Rgn.pn HT_.out 23 69 ?_
                refine Rgn.pn HT_.out 24 70 ?_
                refine Rgn.pn HT_.out 25 71 ?_
                refine Rgn.pu HT_.out 26 72 ?_
                refine done_ (done_of HT_.out (by kernel_rfl)) ?_
                have hnb58 := NB241_242.out
                have hnc58 := NB242_241.out
                have hnb59 := NB241_243.out
                have hnc59 := NB243_241.out
                have hcz60_0 : w57.cell? ⟨gb241, 0, none⟩ = some (.slice Ao4 l0_0.length co4) := (blk_cell BK241.out 0).trans rfl
                have hcz60_1 : w57.cell? ⟨gb241, 1, none⟩ = some (.slice A0_1 l0_1.length c0_1) := (blk_cell BK241.out 1).trans rfl
                have hfz60_0 := blk_frozen BK241.out 0
                have hfz60_1 := blk_frozen BK241.out 1
                have hnb61 := NB243_242.out
                have hnc61 := NB242_243.out
                have hcz62_0 : w57.cell? ⟨gb243, 0, none⟩ = some (.slice none 0 0) := (blk_cell BK243.out 0).trans rfl
                have hcz62_1 : w57.cell? ⟨gb243, 1, none⟩ = some (.slice none 0 0) := (blk_cell BK243.out 1).trans rfl
                have hfz62_0 := blk_frozen BK243.out 0
                have hfz62_1 := blk_frozen BK243.out 1
                try go_wp2
                refine bodyPost_ret (results_ct rfl _ _ gb243 29 #[.slice Ao4 l0_0.length co4, .slice A0_1 l0_1.length c0_1] (0, 0) _ rfl (by (with_reducible repeat (first | refine blk_drewN ?_ _ | refine blk_drew ?_ | refine blk_alloc ?_ _)); refine blk_put (cs := #[.slice Ao4 l0_0.length co4, .slice none 0 0]) ?_ 1 _ rfl; (with_reducible repeat (first | refine blk_drewN ?_ _ | refine blk_drew ?_ | refine blk_alloc ?_ _)); refine blk_put (cs := #[.slice none 0 0, .slice none 0 0]) ?_ 0 _ rfl; (with_reducible repeat (first | refine blk_drewN ?_ _ | refine blk_drew ?_ | refine blk_alloc ?_ _)); exact BK243.out) Try.underlying29 rfl (by kernel_rfl)) rfl ?_
                exact ⟨_, _, by first | rfl | (simp [errW_none, errW_some] <;> rfl) | (simp [*, errW_none, errW_some] <;> rfl), by (with_reducible repeat (first | apply Kd.R_alloc | apply Kd.R_drewN | apply Kd.R_drew)); exact Kd.R_mono (Kd.R_far (p := ⟨gb243, 1, none⟩) (Kd.R_far (p := ⟨gb243, 0, none⟩) (Kd.R_types HO_242000.out BK243.out (by decide)) (fun _ hk => hk.2) (.slice Ao4 l0_0.length co4)) (fun _ hk => hk.2) (.slice A0_1 l0_1.length c0_1)) (fun _ hk => hk.1), by (with_reducible repeat (first | apply Kd.S_alloc | apply Kd.S_drewN | apply Kd.S_drew)); exact Kd.S_mono (Kd.S_far (p := ⟨gb243, 1, none⟩) (Kd.S_far (p := ⟨gb243, 0, none⟩) (Kd.S_mono HO_242001.out (fun k_ hk => (⟨hk, hk.2.2.2.2⟩ : _ ∧ k_ ≠ gb243))) (fun _ hk => hk.2) (.slice Ao4 l0_0.length co4)) (fun _ hk => hk.2) (.slice A0_1 l0_1.length c0_1)) (fun _ hk => ⟨hk.1.1, hk.1.2.1⟩), Rgn.bq HB.out, by repeat (first | (with_reducible first | exact HK.out | apply Kept.alloc | apply Kept.drewN | apply Kept.drew | refine Kept.setCell ?_ (.inr GW241.out) _ | refine Kept.setCell ?_ (.inr GW242.out) _ | refine Kept.setCell ?_ (.inr GW243.out) _) | exact HK.out)⟩
              · rw [if_neg c55] at H
                have c55b0 : decide (t250 ≤ a1_1) = false := decide_eq_false c55
                clear c55
                by_cases c63 : (l1_2.length : Int) = 64
                · rw [if_pos c63] at H
                  have c63b0 : ((l1_2.length : Int) == 64) = true := beq_iff_eq.mpr c63
                  have c63b1 : ((l1_2.length : Int) != 64) = false := bne_eq_false_iff_eq.mpr c63
                  clear c63
                  replace H := Option.bind_eq_some_iff.mp H
                  obtain ⟨t251, A640, H⟩ := H
                  replace H : (if l0_1.length < 4398046511104 then (some (l0_0, (l0_1 ++ [(⟨a1_1, t251⟩ : S62)]), true)) else (none)) = some (r1, r2, r3) := H
                  have A64 := Aside0.mk A640
                  clear A640
                  by_cases cLM : l0_1.length < 4398046511104
                  rotate_left
                  · rw [if_neg cLM] at H; cases H
                  rw [if_pos cLM] at H
                  have LMc := Aside0.mk cLM
                  clear cLM
                  obtain ⟨y254, hy254⟩ : ∃ y_ : List (S62), y_ = (l0_1 ++ [(⟨a1_1, t251⟩ : S62)]) := ⟨_, rfl⟩
                  replace H : (some (l0_0, y254, true)) = some (r1, r2, r3) := by first | (rw [hy254]; with_reducible exact H) | (have H2_ := (Option.bind_some _ _).symm.trans H; rw [hy254]; with_reducible exact H2_) | (have H2_ := (Option.bind_some _ _).symm.trans H; with_reducible exact H2_) | with_reducible exact H | (rw [hy254]; exact H) | exact H
                  have Ny254 := Aside0.mk hy254
                  clear hy254
                  simp only [Option.some.injEq, Prod.mk.injEq] at H
                  obtain ⟨rfl, rfl, rfl⟩ := H
                  try go_wp2
                  have n0_ := Aside0.mk (Kd.R_drew HO_242000.out)
                  have n1_ := Aside0.mk (Kd.S_drew HO_242001.out)
                  have n2_ := Aside0.mk (blk_drew BK241.out)
                  have n3_ := Aside0.mk (blk_drew BK242.out)
                  have n4_ := Aside0.mk (blk_drew BK243.out)
                  have n5_ := Aside0.mk (Kept.drew HK.out)
                  have n6_ := Aside0.mk (below_drew1 HB.out)
                  clear HO_242000
                  clear HO_242001
                  clear BK241
                  clear BK242
                  clear BK243
                  clear HK
                  clear HB
                  have HO_242000 := n0_
                  have HO_242001 := n1_
                  have BK241 := n2_
                  have BK242 := n3_
                  have BK243 := n4_
                  have HK := n5_
                  have HB := n6_
                  clear n0_ n1_ n2_ n3_ n4_ n5_ n6_
                  refine start_ (n := 27) (S := fun w' => w'.cell? ⟨gb242, 0, none⟩ = some (.int .i64 a1_0) ∧ w'.cell? ⟨gb242, 1, none⟩ = some (.int .i64 a1_1) ∧ w'.cell? ⟨gb242, 2, none⟩ = some (.slice A1_2 l1_2.length c1_2) ∧ w'.cell? ⟨gb241, 0, none⟩ = some (.slice Ao4 l0_0.length co4) ∧ w'.cell? ⟨gb241, 1, none⟩ = some (.slice A0_1 l0_1.length c0_1)) (ds := []) #[false, false, false, false, false, false, false, false, false, false, false, false, false, false, false, false, false, false, false, false, false, false, false, false, false, false, false] (by kernel_rfl) rfl rfl ⟨(blk_cell BK242.out 0).trans rfl, (blk_cell BK242.out 1).trans rfl, (blk_cell BK242.out 2).trans rfl, (blk_cell BK241.out 0).trans rfl, (blk_cell BK241.out 1).trans rfl⟩ (fun hHeld => ?_); refine with_tabW spec_l1Do.tab8 spec_l1Do.bits8 (fun HT_ HW_ => ?_)
                  generalize wc.drew = w65 at HO_242000 HO_242001 BK241 BK242 BK243 HK HB hHeld ⊢
                  refine Rgn.pu HT_.out 0 46 ?_
                  refine Rgn.tk HT_.out HW_.out 1 47 hHeld ?_
                  refine Rgn.pu HT_.out 2 48 ?_
                  refine Rgn.pu HT_.out 3 49 ?_
                  refine Rgn.pu HT_.out 4 50 ?_
                  refine Rgn.tk HT_.out HW_.out 5 51 hHeld ?_
                  refine Rgn.pu HT_.out 6 52 ?_
                  refine Rgn.pu HT_.out 7 53 ?_
                  refine Rgn.pu HT_.out 8 54 ?_
                  refine Rgn.pu HT_.out 9 55 ?_
                  refine Rgn.pu HT_.out 10 56 ?_
                  refine Rgn.tk HT_.out HW_.out 11 57 hHeld ?_
                  refine Rgn.pu HT_.out 12 58 ?_
                  refine Rgn.pu HT_.out 13 59 ?_
                  refine Rgn.pu HT_.out 14 60 ?_
                  refine Rgn.pu HT_.out 15 61 ?_
                  refine Rgn.tk HT_.out HW_.out 16 62 hHeld ?_
                  refine Rgn.tk HT_.out HW_.out 17 63 hHeld ?_
                  refine one_ (i := 18) (N := some 64) #[true, true, true, true, true, true, true, true, true, true, true, true, true, true, true, true, true, true, true, false, false, false, false, false, false, false, false] rfl rfl (one_of HT_.out (by kernel_rfl)) (by decide) (fun K hK => ?_)
                  refine Rgn.gs Try.func70 #[.agg #[.slice Ao4 l0_0.length co4, .slice A0_1 l0_1.length c0_1]] ?_
                  with_reducible refine (spec_l1Blocks.calls _ _ l0_0 _ _ l0_1 t250 _ ?side1 ?side2 ?side3 ?side4 A54.out).mono ?_
                  (case side1 => exact Rgn.cq (Kd.R_reads' HO_242000.out).2.2)
                  (case side2 => exact (Kd.R_reads' HO_242000.out).2.1)
                  (case side3 => repeat (first | exact (Kd.S_reads' HO_242001.out).2.2 | (with_reducible refine Kd.C_alloc ?_ _) | (with_reducible refine Kd.C_drewN ?_ _) | (with_reducible refine Kd.C_drew ?_)))
                  (case side4 => exact (Kd.S_reads' HO_242001.out).2.1)
                  rintro e w66 ⟨rfl, hb⟩
                  refine ⟨_, rfl, ?_⟩
                  have n0_ := Aside0.mk (Kd.R_below (Rgn.rq HO_242000.out) hb)
                  have n1_ := Aside0.mk (Kd.S_below (by (with_reducible repeat (first | apply Kd.S_alloc | apply Kd.S_drewN | apply Kd.S_drew)); exact HO_242001.out) hb)
                  have n2_ := Aside0.mk (Rgn.bb BK241.out hb)
                  have n3_ := Aside0.mk (Rgn.bb BK242.out hb)
                  have n4_ := Aside0.mk (Rgn.bb BK243.out hb)
                  have n5_ := Aside0.mk (Kept.below (S := (fun k_ => P0_0_ k_ ∨ P0_1_ k_)) (by repeat (first | (with_reducible first | exact HK.out | apply Kept.alloc | apply Kept.drewN | apply Kept.drew | refine Kept.setCell ?_ (.inr GW241.out) _ | refine Kept.setCell ?_ (.inr GW242.out) _ | refine Kept.setCell ?_ (.inr GW243.out) _) | exact HK.out)) hb)
                  have n6_ := Aside0.mk (below_step (Rgn.bq HB.out) hb)
                  clear HO_242000
                  clear HO_242001
                  clear BK241
                  clear BK242
                  clear BK243
                  clear HK
                  clear HB
                  have HO_242000 := n0_
                  have HO_242001 := n1_
                  have BK241 := n2_
                  have BK242 := n3_
                  have BK243 := n4_
                  have HK := n5_
                  have HB := n6_
                  clear n0_ n1_ n2_ n3_ n4_ n5_ n6_
                  (try clear hb)
                  (try clear hb2)
                  (try clear hk)
                  (try clear hi)
                  refine hK.out _ _ ⟨(blk_cell BK242.out 0).trans rfl, (blk_cell BK242.out 1).trans rfl, (blk_cell BK242.out 2).trans rfl, (blk_cell BK241.out 0).trans rfl, (blk_cell BK241.out 1).trans rfl⟩ (fun hHeld => ?_)
                  clear hK K
                  refine norm_ (a' := ?_) ?_ ?_
                  rotate_left
                  · show Act.put _ (some 64) _ = _
                    simp only [Act.put, List.setIfInBounds_toArray, List.set_cons_zero, List.set_cons_succ, i64_w, i32_w]
                    rfl
                  refine Rgn.pu HT_.out 19 65 ?_
                  refine Rgn.pu HT_.out 20 66 ?_
                  refine Rgn.pu HT_.out 21 67 ?_
                  refine Rgn.pu HT_.out 22 68 ?_
                  refine Rgn.tk HT_.out HW_.out 23 69 hHeld ?_
                  refine Rgn.pu HT_.out 24 70 ?_
                  refine Rgn.pu HT_.out 25 71 ?_
                  refine Rgn.pu HT_.out 26 72 ?_
                  refine done_ (done_of HT_.out (by kernel_rfl)) ?_
                  try go_wp2
                  have n0_ := Aside0.mk (Kd.R_drew HO_242000.out)
                  have n1_ := Aside0.mk (Kd.S_drew HO_242001.out)
                  have n2_ := Aside0.mk (blk_drew BK241.out)
                  have n3_ := Aside0.mk (blk_drew BK242.out)
                  have n4_ := Aside0.mk (blk_drew BK243.out)
                  have n5_ := Aside0.mk (Kept.drew HK.out)
                  have n6_ := Aside0.mk (below_drew1 HB.out)
                  clear HO_242000
                  clear HO_242001
                  clear BK241
                  clear BK242
                  clear BK243
                  clear HK
                  clear HB
                  have HO_242000 := n0_
                  have HO_242001 := n1_
                  have BK241 := n2_
                  have BK242 := n3_
                  have BK243 := n4_
                  have HK := n5_
                  have HB := n6_
                  clear n0_ n1_ n2_ n3_ n4_ n5_ n6_
                  refine start_ (n := 12) (S := fun w' => w'.cell? ⟨gb241, 0, none⟩ = some (.slice Ao4 l0_0.length co4) ∧ w'.cell? ⟨gb241, 1, none⟩ = some (.slice A0_1 l0_1.length c0_1) ∧ w'.cell? ⟨gb242, 0, none⟩ = some (.int .i64 a1_0) ∧ w'.cell? ⟨gb242, 1, none⟩ = some (.int .i64 a1_1) ∧ w'.cell? ⟨gb242, 2, none⟩ = some (.slice A1_2 l1_2.length c1_2)) (ds := [11]) #[false, false, false, false, false, false, false, false, false, false, false, false] (by kernel_rfl) rfl rfl ⟨(blk_cell BK241.out 0).trans rfl, (blk_cell BK241.out 1).trans rfl, (blk_cell BK242.out 0).trans rfl, (blk_cell BK242.out 1).trans rfl, (blk_cell BK242.out 2).trans rfl⟩ (fun hHeld => ?_); refine with_tabW spec_l1Do.tab10 spec_l1Do.bits10 (fun HT_ HW_ => ?_)
                  generalize w66.drew = w67 at HO_242000 HO_242001 BK241 BK242 BK243 HK HB hHeld ⊢
                  refine Rgn.pu HT_.out 0 74 ?_
                  refine Rgn.pu HT_.out 2 76 ?_
                  refine Rgn.pu HT_.out 4 78 ?_
                  refine Rgn.tk HT_.out HW_.out 1 75 hHeld ?_
                  refine Rgn.tk HT_.out HW_.out 3 77 hHeld ?_
                  refine Rgn.tk HT_.out HW_.out 5 79 hHeld ?_
                  refine one_ (i := 6) (N := some 80) #[true, true, true, true, true, true, true, false, false, false, false, false] rfl rfl (one_of HT_.out (by kernel_rfl)) (by decide) (fun K hK => ?_)
                  refine Rgn.gs Try.func75 #[.slice A1_2 l1_2.length c1_2] ?_
                  with_reducible refine (spec_l1Copy.calls _ _ l1_2 t251 _ ?side1 ?side2 A64.out).mono ?_
                  (case side1 => exact Kd.C_kept_now HR1_2.out (by repeat (first | (with_reducible first | exact HK.out | apply Kept.alloc | apply Kept.drewN | apply Kept.drew | refine Kept.setCell ?_ (.inr GW241.out) _ | refine Kept.setCell ?_ (.inr GW242.out) _ | refine Kept.setCell ?_ (.inr GW243.out) _) | exact HK.out)))
                  (case side2 => exact HC1_2.out)
                  rintro e w68 ⟨v252, rfl, ho0, hb⟩
                  refine ⟨_, rfl, ?_⟩
                  have n0_ := Aside0.mk (Kd.R_elder' (Rgn.rq HO_242000.out) (Kd.R_base ho0) hb)
                  have n1_ := Aside0.mk (Kd.S_elder' (by (with_reducible repeat (first | apply Kd.S_alloc | apply Kd.S_drewN | apply Kd.S_drew)); exact HO_242001.out) (Kd.R_base ho0) hb)
                  have n2_ := Aside0.mk (Kd.R_lower (Kd.R_new' (Kd.R_newM (M := fun k_ => (P0_0_ k_ ∨ w.heap.size ≤ k_)) ho0 (by first | exact HK.out.1 | exact (show Kept w _ (fun k_ => P0_0_ k_ ∨ P0_1_ k_) from by repeat (first | (with_reducible first | exact HK.out | apply Kept.alloc | apply Kept.drewN | apply Kept.drew | refine Kept.setCell ?_ (.inr GW241.out) _ | refine Kept.setCell ?_ (.inr GW242.out) _ | refine Kept.setCell ?_ (.inr GW243.out) _) | exact HK.out)).1) (fun k_ h_ => .inr h_)) (Kd.R_lt (Rgn.rq HO_242000.out))) (below_size (Rgn.bq HB.out)))
                  have n3_ := Aside0.mk (Rgn.bb BK241.out hb)
                  have n4_ := Aside0.mk (Rgn.bb BK242.out hb)
                  have n5_ := Aside0.mk (Rgn.bb BK243.out hb)
                  have n6_ := Aside0.mk (Kept.below (S := (fun k_ => P0_0_ k_ ∨ P0_1_ k_)) (by repeat (first | (with_reducible first | exact HK.out | apply Kept.alloc | apply Kept.drewN | apply Kept.drew | refine Kept.setCell ?_ (.inr GW241.out) _ | refine Kept.setCell ?_ (.inr GW242.out) _ | refine Kept.setCell ?_ (.inr GW243.out) _) | exact HK.out)) hb)
                  have n7_ := Aside0.mk (below_step (Rgn.bq HB.out) hb)
                  clear HO_242000
                  clear HO_242001
                  clear BK241
                  clear BK242
                  clear BK243
                  clear HK
                  clear HB
                  have HO_242000 := n0_
                  have HO_242001 := n1_
                  have HO253 := n2_
                  have BK241 := n3_
                  have BK242 := n4_
                  have BK243 := n5_
                  have HK := n6_
                  have HB := n7_
                  clear n0_ n1_ n2_ n3_ n4_ n5_ n6_ n7_
                  (try clear hb)
                  (try clear hb2)
                  (try clear hk)
                  (try clear hi)
                  (try clear ho0)
                  obtain ⟨Ao69, co69, eo69⟩ := Kd.R_slice HO253.out
                  (first | subst eo69 | (injection eo69 with f1_ f2_ f3_; have f4_ := f1_.symm; have f5_ := f3_.symm; clear f1_ f2_ f3_; subst f4_; subst f5_))
                  refine hK.out _ _ ⟨(blk_cell BK241.out 0).trans rfl, (blk_cell BK241.out 1).trans rfl, (blk_cell BK242.out 0).trans rfl, (blk_cell BK242.out 1).trans rfl, (blk_cell BK242.out 2).trans rfl⟩ (fun hHeld => ?_)
                  clear hK K
                  refine norm_ (a' := ?_) ?_ ?_
                  rotate_left
                  · show Act.put _ (some 80) _ = _
                    simp only [Act.put, List.setIfInBounds_toArray, List.set_cons_zero, List.set_cons_succ, i64_w, i32_w]
                    rfl
                  refine Rgn.pu HT_.out 7 81 ?_
                  refine one_ (i := 8) (N := some 82) #[true, true, true, true, true, true, true, true, true, false, false, false] rfl rfl (one_of HT_.out (by kernel_rfl)) (by decide) (fun K hK => ?_)
                  refine value_ (w1 := ?_) (v := ?_) (by rfl) rfl ?_ ?_
                  rotate_left 2
                  · go_simp
                    constructor
                    · rfl
                    · rfl
                  refine hK.out _ _ ⟨(blk_cell (blk_alloc BK241.out _) 0).trans rfl, (blk_cell (blk_alloc BK241.out _) 1).trans rfl, (blk_cell (blk_alloc BK242.out _) 0).trans rfl, (blk_cell (blk_alloc BK242.out _) 1).trans rfl, (blk_cell (blk_alloc BK242.out _) 2).trans rfl⟩ (fun hHeld => ?_)
                  clear hK K
                  refine norm_ (a' := ?_) ?_ ?_
                  rotate_left
                  · show Act.put _ (some 82) _ = _
                    simp only [Act.put, List.setIfInBounds_toArray, List.set_cons_zero, List.set_cons_succ, i64_w, i32_w]
                    rfl
                  refine one_ (i := 9) (N := some 83) #[true, true, true, true, true, true, true, true, true, true, false, false] rfl rfl (one_of HT_.out (by kernel_rfl)) (by decide) (fun K hK => ?_)
                  refine Kd.S_append_step k62 (w0 := w0) w0.heap.size (by rfl) (.tmp 75) (.tmp 82) 27 62 (.agg #[(.int .i64 0), (.slice none 0 0)]) 32 rfl Try.underlying27 info62 rfl (by decide) (by omega) (.slice A0_1 l0_1.length c0_1) l0_1 (⟨a1_1, t251⟩ : S62) [.int .i64 a1_1, .slice Ao69 t251.length co69] (fun k_ => ((P0_0_ k_ ∨ P0_1_ k_) ∨ w.heap.size ≤ k_) ∧ some k_ ≠ (.slice Ao4 l0_0.length co4 : Value).ownBlock ∧ k_ ≠ gb241 ∧ k_ ≠ gb242 ∧ k_ ≠ gb243) (fun k_ => some k_ = (.slice Ao69 t251.length co69 : Value).ownBlock) rfl rfl ?aP (fun k_ hk_ => (Kd.R_mono (ok' := fun k_ => (fun k_ => ((P0_0_ k_ ∨ P0_1_ k_) ∨ w.heap.size ≤ k_) ∧ some k_ ≠ (.slice Ao4 l0_0.length co4 : Value).ownBlock ∧ k_ ≠ gb241 ∧ k_ ≠ gb242 ∧ k_ ≠ gb243) k_ ∧ some k_ ≠ (.slice A0_1 l0_1.length c0_1 : Value).ownBlock) (Kd.R_apart' (v := .slice A0_1 l0_1.length c0_1) (Kd.R_types (Kd.R_types (Kd.R_types (HO253.out) BK241.out (by decide)) BK242.out (by decide)) BK243.out (by decide)) (Kd.S_typed HO_242001.out) (by decide)) (fun k_ hk => ⟨⟨(Or.imp_left (fun h_ => (.inl h_)) (hk.1.1.1.1.1.1)), hk.1.1.1.1.2, hk.1.1.1.2, hk.1.1.2, hk.1.2⟩, hk.2⟩)).1 k_ hk_.symm) ?aF ?aO ?aB ?aS ?aL ?_
                  (case aP => exact k62_mkM _ _ _ (⟨a1_1, t251⟩ : S62) (Kd.R_mono (Kd.R_tight rfl (Kd.R_mono (ok' := fun k_ => (fun k_ => ((P0_0_ k_ ∨ P0_1_ k_) ∨ w.heap.size ≤ k_) ∧ some k_ ≠ (.slice Ao4 l0_0.length co4 : Value).ownBlock ∧ k_ ≠ gb241 ∧ k_ ≠ gb242 ∧ k_ ≠ gb243) k_ ∧ some k_ ≠ (.slice A0_1 l0_1.length c0_1 : Value).ownBlock) (Kd.R_apart' (v := .slice A0_1 l0_1.length c0_1) (Kd.R_types (Kd.R_types (Kd.R_types (HO253.out) BK241.out (by decide)) BK242.out (by decide)) BK243.out (by decide)) (Kd.S_typed HO_242001.out) (by decide)) (fun k_ hk => ⟨⟨(Or.imp_left (fun h_ => (.inl h_)) (hk.1.1.1.1.1.1)), hk.1.1.1.1.2, hk.1.1.1.2, hk.1.1.2, hk.1.2⟩, hk.2⟩))) (fun _ h_ => h_)))
                  (case aB => exact (Rgn.bq HB.out))
                  (case aF => exact (fun k_ hk => ⟨.inr (Nat.le_trans (HK.out.1) hk), Kd.fresh' (Kd.R_lt (Rgn.rq HO_242000.out)) k_ hk, Kd.freshB (g := gb241) (o := .cells #[.slice Ao4 l0_0.length co4, .slice A0_1 l0_1.length c0_1] 29 (0, 0)) (Rgn.kb BK241.out) k_ hk, Kd.freshB (g := gb242) (o := .cells #[.int .i64 a1_0, .int .i64 a1_1, .slice A1_2 l1_2.length c1_2] 93 (0, 0)) (Rgn.kb BK242.out) k_ hk, Kd.freshB (g := gb243) (o := .cells #[.slice none 0 0, .slice none 0 0] 29 (0, 0)) (Rgn.kb BK243.out) k_ hk⟩))
                  (case aO => exact (by (with_reducible repeat (first | apply Kd.S_alloc | apply Kd.S_drewN | apply Kd.S_drew)); exact Kd.S_mono HO_242001.out (fun k_ hk => ⟨hk.1, fun e_ => hk.2 e_⟩)))
                  (case aS => exact (below_size (Rgn.bq HB.out)))
                  (case aL => have := LMc.out; omega)
                  intro v255 w70 ho71 hb hg hat
                  rw [← Ny254.out] at ho71
                  have n0_ := Aside0.mk (Kd.R_over' (Rgn.rq HO_242000.out) (Kd.S_typed (Rgn.sq HO_242001.out)) (by decide) hg)
                  have n1_ := Aside0.mk (ho71)
                  have n3_ := Aside0.mk (blk_grown (g := gb241) (o := .cells #[.slice Ao4 l0_0.length co4, .slice A0_1 l0_1.length c0_1] 29 (0, 0)) (Rgn.kb BK241.out) hg (Kd.S_ne HO_242001.out BK241.out (by decide)))
                  have n4_ := Aside0.mk (blk_grown (g := gb242) (o := .cells #[.int .i64 a1_0, .int .i64 a1_1, .slice A1_2 l1_2.length c1_2] 93 (0, 0)) (Rgn.kb BK242.out) hg (Kd.S_ne HO_242001.out BK242.out (by decide)))
                  have n5_ := Aside0.mk (blk_grown (g := gb243) (o := .cells #[.slice none 0 0, .slice none 0 0] 29 (0, 0)) (Rgn.kb BK243.out) hg (Kd.S_ne HO_242001.out BK243.out (by decide)))
                  have n6_ := Aside0.mk (Kept.of_grown (S := (fun k_ => P0_0_ k_ ∨ P0_1_ k_)) hg (by repeat (first | (with_reducible first | exact HK.out | apply Kept.alloc | apply Kept.drewN | apply Kept.drew | refine Kept.setCell ?_ (.inr GW241.out) _ | refine Kept.setCell ?_ (.inr GW242.out) _ | refine Kept.setCell ?_ (.inr GW243.out) _) | exact HK.out)) (fun k_ e_ => ((Kd.S_R HO_242001.out).1 k_ e_).1.1))
                  have n7_ := Aside0.mk hb
                  clear HO_242000
                  clear HO_242001
                  clear BK241
                  clear BK242
                  clear BK243
                  clear HK
                  clear HB
                  clear HO253
                  have HO_242000 := n0_
                  have HO256 := n1_
                  have BK241 := n3_
                  have BK242 := n4_
                  have BK243 := n5_
                  have HK := n6_
                  have HB := n7_
                  clear n0_ n1_ n3_ n4_ n5_ n6_ n7_
                  clear hb hg hat ho71
                  obtain ⟨Ao72, co72, eo72⟩ := Kd.S_slice HO256.out
                  (first | subst eo72 | (injection eo72 with f1_ f2_ f3_; have f4_ := f1_.symm; have f5_ := f3_.symm; clear f1_ f2_ f3_; subst f4_; subst f5_))
                  refine hK.out _ _ ⟨(blk_cell BK241.out 0).trans rfl, (blk_cell BK241.out 1).trans rfl, (blk_cell BK242.out 0).trans rfl, (blk_cell BK242.out 1).trans rfl, (blk_cell BK242.out 2).trans rfl⟩ (fun hHeld => ?_)
                  clear hK K
                  refine norm_ (a' := ?_) ?_ ?_
                  rotate_left
                  · show Act.put _ (some 83) _ = _
                    simp only [Act.put, List.setIfInBounds_toArray, List.set_cons_zero, List.set_cons_succ, i64_w, i32_w]
                    rfl
                  refine Rgn.pu HT_.out 10 84 ?_
                  refine last_ (i := 11) (N := none) #[true, true, true, true, true, true, true, true, true, true, true, true] rfl rfl (one_of HT_.out (by kernel_rfl)) (by decide) (fun K hK => ?_)
                  have hs73 : w70.cell? ⟨gb241, 1, none⟩ = some (.slice A0_1 l0_1.length c0_1) := (blk_cell BK241.out 1).trans rfl
                  have hfs73 := blk_frozen BK241.out 1
                  have hns73_1 := NB242_241.out
                  have hns73_2 := NB243_241.out
                  have hms73_1 := NB241_242.out
                  have hms73_2 := NB241_243.out
                  refine skip_ (w1 := ?_) (by rfl) rfl ?_ ?_
                  rotate_left
                  · go_simp
                    rfl
                  refine hK.out _ _ ?_
                  clear hK K
                  refine done_ (done_of HT_.out (by kernel_rfl)) ?_
                  have hnb74 := NB241_242.out
                  have hnc74 := NB242_241.out
                  have hnb75 := NB241_243.out
                  have hnc75 := NB243_241.out
                  have hcz76_0 : w70.cell? ⟨gb241, 0, none⟩ = some (.slice Ao4 l0_0.length co4) := (blk_cell BK241.out 0).trans rfl
                  have hcz76_1 : w70.cell? ⟨gb241, 1, none⟩ = some (.slice A0_1 l0_1.length c0_1) := (blk_cell BK241.out 1).trans rfl
                  have hfz76_0 := blk_frozen BK241.out 0
                  have hfz76_1 := blk_frozen BK241.out 1
                  have hnb77 := NB243_242.out
                  have hnc77 := NB242_243.out
                  have hcz78_0 : w70.cell? ⟨gb243, 0, none⟩ = some (.slice none 0 0) := (blk_cell BK243.out 0).trans rfl
                  have hcz78_1 : w70.cell? ⟨gb243, 1, none⟩ = some (.slice none 0 0) := (blk_cell BK243.out 1).trans rfl
                  have hfz78_0 := blk_frozen BK243.out 0
                  have hfz78_1 := blk_frozen BK243.out 1
                  try go_wp2
                  refine bodyPost_ret (results_ct rfl _ _ gb243 29 #[.slice Ao4 l0_0.length co4, .slice Ao72 y254.length co72] (0, 0) _ rfl (by (with_reducible repeat (first | refine blk_drewN ?_ _ | refine blk_drew ?_ | refine blk_alloc ?_ _)); refine blk_put (cs := #[.slice Ao4 l0_0.length co4, .slice none 0 0]) ?_ 1 _ rfl; (with_reducible repeat (first | refine blk_drewN ?_ _ | refine blk_drew ?_ | refine blk_alloc ?_ _)); refine blk_put (cs := #[.slice none 0 0, .slice none 0 0]) ?_ 0 _ rfl; (with_reducible repeat (first | refine blk_drewN ?_ _ | refine blk_drew ?_ | refine blk_alloc ?_ _)); refine blk_far ?_ NB243_241.out _; (with_reducible repeat (first | refine blk_drewN ?_ _ | refine blk_drew ?_ | refine blk_alloc ?_ _)); exact BK243.out) Try.underlying29 rfl (by kernel_rfl)) rfl ?_
                  exact ⟨_, _, by first | rfl | (simp [errW_none, errW_some] <;> rfl) | (simp [*, errW_none, errW_some] <;> rfl), by (with_reducible repeat (first | apply Kd.R_alloc | apply Kd.R_drewN | apply Kd.R_drew)); exact Kd.R_mono (Kd.R_far (p := ⟨gb243, 1, none⟩) (Kd.R_far (p := ⟨gb243, 0, none⟩) (Kd.R_far (p := ⟨gb241, 1, none⟩) (Kd.R_types (Kd.R_types HO_242000.out BK241.out (by decide)) BK243.out (by decide)) (fun _ hk => hk.1.2) (.slice Ao72 y254.length co72)) (fun _ hk => hk.2) (.slice Ao4 l0_0.length co4)) (fun _ hk => hk.2) (.slice Ao72 y254.length co72)) (fun _ hk => hk.1.1.1), by (with_reducible repeat (first | apply Kd.S_alloc | apply Kd.S_drewN | apply Kd.S_drew)); exact Kd.S_mono (Kd.S_far (p := ⟨gb243, 1, none⟩) (Kd.S_far (p := ⟨gb243, 0, none⟩) (Kd.S_far (p := ⟨gb241, 1, none⟩) (Kd.S_mono (Kd.S_mono HO256.out (fun k_ hk => (⟨hk, hk.2.2.1⟩ : _ ∧ k_ ≠ gb241))) (fun k_ hk => (⟨hk, hk.1.2.2.2.2⟩ : _ ∧ k_ ≠ gb243))) (fun _ hk => hk.1.2) (.slice Ao72 y254.length co72)) (fun _ hk => hk.2) (.slice Ao4 l0_0.length co4)) (fun _ hk => hk.2) (.slice Ao72 y254.length co72)) (fun _ hk => ⟨hk.1.1.1, hk.1.1.2.1⟩), Rgn.bq HB.out, by repeat (first | (with_reducible first | exact HK.out | apply Kept.alloc | apply Kept.drewN | apply Kept.drew | refine Kept.setCell ?_ (.inr GW241.out) _ | refine Kept.setCell ?_ (.inr GW242.out) _ | refine Kept.setCell ?_ (.inr GW243.out) _) | exact HK.out)⟩
                · rw [if_neg c63] at H
                  have c63b0 : ((l1_2.length : Int) == 64) = false := beq_eq_false_iff_ne.mpr c63
                  have c63b1 : ((l1_2.length : Int) != 64) = true := bne_iff_ne.mpr c63
                  simp only [Option.some.injEq, Prod.mk.injEq] at H
                  obtain ⟨rfl, rfl, rfl⟩ := H
                  try go_wp2
                  have n0_ := Aside0.mk (Kd.R_drew HO_242000.out)
                  have n1_ := Aside0.mk (Kd.S_drew HO_242001.out)
                  have n2_ := Aside0.mk (blk_drew BK241.out)
                  have n3_ := Aside0.mk (blk_drew BK242.out)
                  have n4_ := Aside0.mk (blk_drew BK243.out)
                  have n5_ := Aside0.mk (Kept.drew HK.out)
                  have n6_ := Aside0.mk (below_drew1 HB.out)
                  clear HO_242000
                  clear HO_242001
                  clear BK241
                  clear BK242
                  clear BK243
                  clear HK
                  clear HB
                  have HO_242000 := n0_
                  have HO_242001 := n1_
                  have BK241 := n2_
                  have BK242 := n3_
                  have BK243 := n4_
                  have HK := n5_
                  have HB := n6_
                  clear n0_ n1_ n2_ n3_ n4_ n5_ n6_
                  refine start_ (n := 27) (S := fun w' => w'.cell? ⟨gb242, 0, none⟩ = some (.int .i64 a1_0) ∧ w'.cell? ⟨gb242, 1, none⟩ = some (.int .i64 a1_1) ∧ w'.cell? ⟨gb242, 2, none⟩ = some (.slice A1_2 l1_2.length c1_2) ∧ w'.cell? ⟨gb241, 0, none⟩ = some (.slice Ao4 l0_0.length co4) ∧ w'.cell? ⟨gb241, 1, none⟩ = some (.slice A0_1 l0_1.length c0_1)) (ds := []) #[false, false, false, false, false, false, false, false, false, false, false, false, false, false, false, false, false, false, false, false, false, false, false, false, false, false, false] (by kernel_rfl) rfl rfl ⟨(blk_cell BK242.out 0).trans rfl, (blk_cell BK242.out 1).trans rfl, (blk_cell BK242.out 2).trans rfl, (blk_cell BK241.out 0).trans rfl, (blk_cell BK241.out 1).trans rfl⟩ (fun hHeld => ?_); refine with_tabW spec_l1Do.tab8 spec_l1Do.bits8 (fun HT_ HW_ => ?_)
                  generalize wc.drew = w79 at HO_242000 HO_242001 BK241 BK242 BK243 HK HB hHeld ⊢
                  refine Rgn.pu HT_.out 0 46 ?_
                  refine Rgn.tk HT_.out HW_.out 1 47 hHeld ?_
                  refine Rgn.pu HT_.out 2 48 ?_
                  refine Rgn.pu HT_.out 3 49 ?_
                  refine Rgn.pu HT_.out 4 50 ?_
                  refine Rgn.tk HT_.out HW_.out 5 51 hHeld ?_
                  refine Rgn.pu HT_.out 6 52 ?_
                  refine Rgn.pu HT_.out 7 53 ?_
                  refine Rgn.pu HT_.out 8 54 ?_
                  refine Rgn.pu HT_.out 9 55 ?_
                  refine Rgn.pu HT_.out 10 56 ?_
                  refine Rgn.tk HT_.out HW_.out 11 57 hHeld ?_
                  refine Rgn.pu HT_.out 12 58 ?_
                  refine Rgn.pu HT_.out 13 59 ?_
                  refine Rgn.pu HT_.out 14 60 ?_
                  refine Rgn.pu HT_.out 15 61 ?_
                  refine Rgn.tk HT_.out HW_.out 16 62 hHeld ?_
                  refine Rgn.tk HT_.out HW_.out 17 63 hHeld ?_
                  refine one_ (i := 18) (N := some 64) #[true, true, true, true, true, true, true, true, true, true, true, true, true, true, true, true, true, true, true, false, false, false, false, false, false, false, false] rfl rfl (one_of HT_.out (by kernel_rfl)) (by decide) (fun K hK => ?_)
                  refine Rgn.gs Try.func70 #[.agg #[.slice Ao4 l0_0.length co4, .slice A0_1 l0_1.length c0_1]] ?_
                  with_reducible refine (spec_l1Blocks.calls _ _ l0_0 _ _ l0_1 t250 _ ?side1 ?side2 ?side3 ?side4 A54.out).mono ?_
                  (case side1 => exact Rgn.cq (Kd.R_reads' HO_242000.out).2.2)
                  (case side2 => exact (Kd.R_reads' HO_242000.out).2.1)
                  (case side3 => repeat (first | exact (Kd.S_reads' HO_242001.out).2.2 | (with_reducible refine Kd.C_alloc ?_ _) | (with_reducible refine Kd.C_drewN ?_ _) | (with_reducible refine Kd.C_drew ?_)))
                  (case side4 => exact (Kd.S_reads' HO_242001.out).2.1)
                  rintro e w80 ⟨rfl, hb⟩
                  refine ⟨_, rfl, ?_⟩
                  have n0_ := Aside0.mk (Kd.R_below (Rgn.rq HO_242000.out) hb)
                  have n1_ := Aside0.mk (Kd.S_below (by (with_reducible repeat (first | apply Kd.S_alloc | apply Kd.S_drewN | apply Kd.S_drew)); exact HO_242001.out) hb)
                  have n2_ := Aside0.mk (Rgn.bb BK241.out hb)
                  have n3_ := Aside0.mk (Rgn.bb BK242.out hb)
                  have n4_ := Aside0.mk (Rgn.bb BK243.out hb)
                  have n5_ := Aside0.mk (Kept.below (S := (fun k_ => P0_0_ k_ ∨ P0_1_ k_)) (by repeat (first | (with_reducible first | exact HK.out | apply Kept.alloc | apply Kept.drewN | apply Kept.drew | refine Kept.setCell ?_ (.inr GW241.out) _ | refine Kept.setCell ?_ (.inr GW242.out) _ | refine Kept.setCell ?_ (.inr GW243.out) _) | exact HK.out)) hb)
                  have n6_ := Aside0.mk (below_step (Rgn.bq HB.out) hb)
                  clear HO_242000
                  clear HO_242001
                  clear BK241
                  clear BK242
                  clear BK243
                  clear HK
                  clear HB
                  have HO_242000 := n0_
                  have HO_242001 := n1_
                  have BK241 := n2_
                  have BK242 := n3_
                  have BK243 := n4_
                  have HK := n5_
                  have HB := n6_
                  clear n0_ n1_ n2_ n3_ n4_ n5_ n6_
                  (try clear hb)
                  (try clear hb2)
                  (try clear hk)
                  (try clear hi)
                  refine hK.out _ _ ⟨(blk_cell BK242.out 0).trans rfl, (blk_cell BK242.out 1).trans rfl, (blk_cell BK242.out 2).trans rfl, (blk_cell BK241.out 0).trans rfl, (blk_cell BK241.out 1).trans rfl⟩ (fun hHeld => ?_)
                  clear hK K
                  refine norm_ (a' := ?_) ?_ ?_
                  rotate_left
                  · show Act.put _ (some 64) _ = _
                    simp only [Act.put, List.setIfInBounds_toArray, List.set_cons_zero, List.set_cons_succ, i64_w, i32_w]
                    rfl
                  refine Rgn.pu HT_.out 19 65 ?_
                  refine Rgn.pu HT_.out 20 66 ?_
                  refine Rgn.pu HT_.out 21 67 ?_
                  refine Rgn.pu HT_.out 22 68 ?_
                  refine Rgn.tk HT_.out HW_.out 23 69 hHeld ?_
                  refine Rgn.pu HT_.out 24 70 ?_
                  refine Rgn.pu HT_.out 25 71 ?_
                  refine Rgn.pu HT_.out 26 72 ?_
                  refine done_ (done_of HT_.out (by kernel_rfl)) ?_
                  have hnb81 := NB241_242.out
                  have hnc81 := NB242_241.out
                  have hnb82 := NB241_243.out
                  have hnc82 := NB243_241.out
                  have hcz83_0 : w80.cell? ⟨gb241, 0, none⟩ = some (.slice Ao4 l0_0.length co4) := (blk_cell BK241.out 0).trans rfl
                  have hcz83_1 : w80.cell? ⟨gb241, 1, none⟩ = some (.slice A0_1 l0_1.length c0_1) := (blk_cell BK241.out 1).trans rfl
                  have hfz83_0 := blk_frozen BK241.out 0
                  have hfz83_1 := blk_frozen BK241.out 1
                  have hnb84 := NB243_242.out
                  have hnc84 := NB242_243.out
                  have hcz85_0 : w80.cell? ⟨gb243, 0, none⟩ = some (.slice none 0 0) := (blk_cell BK243.out 0).trans rfl
                  have hcz85_1 : w80.cell? ⟨gb243, 1, none⟩ = some (.slice none 0 0) := (blk_cell BK243.out 1).trans rfl
                  have hfz85_0 := blk_frozen BK243.out 0
                  have hfz85_1 := blk_frozen BK243.out 1
                  try go_wp2
                  refine bodyPost_ret (results_ct rfl _ _ gb243 29 #[.slice Ao4 l0_0.length co4, .slice A0_1 l0_1.length c0_1] (0, 0) _ rfl (by (with_reducible repeat (first | refine blk_drewN ?_ _ | refine blk_drew ?_ | refine blk_alloc ?_ _)); refine blk_put (cs := #[.slice Ao4 l0_0.length co4, .slice none 0 0]) ?_ 1 _ rfl; (with_reducible repeat (first | refine blk_drewN ?_ _ | refine blk_drew ?_ | refine blk_alloc ?_ _)); refine blk_put (cs := #[.slice none 0 0, .slice none 0 0]) ?_ 0 _ rfl; (with_reducible repeat (first | refine blk_drewN ?_ _ | refine blk_drew ?_ | refine blk_alloc ?_ _)); exact BK243.out) Try.underlying29 rfl (by kernel_rfl)) rfl ?_
                  exact ⟨_, _, by first | rfl | (simp [errW_none, errW_some] <;> rfl) | (simp [*, errW_none, errW_some] <;> rfl), by (with_reducible repeat (first | apply Kd.R_alloc | apply Kd.R_drewN | apply Kd.R_drew)); exact Kd.R_mono (Kd.R_far (p := ⟨gb243, 1, none⟩) (Kd.R_far (p := ⟨gb243, 0, none⟩) (Kd.R_types HO_242000.out BK243.out (by decide)) (fun _ hk => hk.2) (.slice Ao4 l0_0.length co4)) (fun _ hk => hk.2) (.slice A0_1 l0_1.length c0_1)) (fun _ hk => hk.1), by (with_reducible repeat (first | apply Kd.S_alloc | apply Kd.S_drewN | apply Kd.S_drew)); exact Kd.S_mono (Kd.S_far (p := ⟨gb243, 1, none⟩) (Kd.S_far (p := ⟨gb243, 0, none⟩) (Kd.S_mono HO_242001.out (fun k_ hk => (⟨hk, hk.2.2.2.2⟩ : _ ∧ k_ ≠ gb243))) (fun _ hk => hk.2) (.slice Ao4 l0_0.length co4)) (fun _ hk => hk.2) (.slice A0_1 l0_1.length c0_1)) (fun _ hk => ⟨hk.1.1, hk.1.2.1⟩), Rgn.bq HB.out, by repeat (first | (with_reducible first | exact HK.out | apply Kept.alloc | apply Kept.drewN | apply Kept.drew | refine Kept.setCell ?_ (.inr GW241.out) _ | refine Kept.setCell ?_ (.inr GW242.out) _ | refine Kept.setCell ?_ (.inr GW243.out) _) | exact HK.out)⟩
        · rw [if_neg c39] at H
          have c39b0 : (a1_0 == 1) = false := beq_eq_false_iff_ne.mpr c39
          have c39b1 : (a1_0 != 1) = true := bne_iff_ne.mpr c39
          simp only [Option.some.injEq, Prod.mk.injEq] at H
          obtain ⟨rfl, rfl, rfl⟩ := H
          try go_wp2
          have n0_ := Aside0.mk (Kd.R_drew HO_242000.out)
          have n1_ := Aside0.mk (Kd.S_drew HO_242001.out)
          have n2_ := Aside0.mk (blk_drew BK241.out)
          have n3_ := Aside0.mk (blk_drew BK242.out)
          have n4_ := Aside0.mk (blk_drew BK243.out)
          have n5_ := Aside0.mk (Kept.drew HK.out)
          have n6_ := Aside0.mk (below_drew1 HB.out)
          clear HO_242000
          clear HO_242001
          clear BK241
          clear BK242
          clear BK243
          clear HK
          clear HB
          have HO_242000 := n0_
          have HO_242001 := n1_
          have BK241 := n2_
          have BK242 := n3_
          have BK243 := n4_
          have HK := n5_
          have HB := n6_
          clear n0_ n1_ n2_ n3_ n4_ n5_ n6_
          refine start_ (n := 27) (S := fun w' => w'.cell? ⟨gb242, 0, none⟩ = some (.int .i64 a1_0) ∧ w'.cell? ⟨gb242, 1, none⟩ = some (.int .i64 a1_1) ∧ w'.cell? ⟨gb242, 2, none⟩ = some (.slice A1_2 l1_2.length c1_2)) (ds := []) #[false, false, false, false, false, false, false, false, false, false, false, false, false, false, false, false, false, false, false, false, false, false, false, false, false, false, false] (by kernel_rfl) rfl rfl ⟨(blk_cell BK242.out 0).trans rfl, (blk_cell BK242.out 1).trans rfl, (blk_cell BK242.out 2).trans rfl⟩ (fun hHeld => ?_); refine with_tabW spec_l1Do.tab8 spec_l1Do.bits8 (fun HT_ HW_ => ?_)
          generalize wc.drew = w86 at HO_242000 HO_242001 BK241 BK242 BK243 HK HB hHeld ⊢
          refine Rgn.pu HT_.out 0 46 ?_
          refine Rgn.tk HT_.out HW_.out 1 47 hHeld ?_
          refine Rgn.pu HT_.out 2 48 ?_
          refine Rgn.pu HT_.out 3 49 ?_
          refine Rgn.pn HT_.out 4 50 ?_
          refine Rgn.pn HT_.out 5 51 ?_
          refine Rgn.pn HT_.out 6 52 ?_
          refine Rgn.pn HT_.out 7 53 ?_
          refine Rgn.pu HT_.out 8 54 ?_
          refine Rgn.pu HT_.out 9 55 ?_
          refine Rgn.pn HT_.out 10 56 ?_
          refine Rgn.pn HT_.out 11 57 ?_
          refine Rgn.pn HT_.out 12 58 ?_
          refine Rgn.pu HT_.out 13 59 ?_
          refine Rgn.pu HT_.out 14 60 ?_
          refine Rgn.pn HT_.out 15 61 ?_
          refine Rgn.pn HT_.out 16 62 ?_
          refine Rgn.pn HT_.out 17 63 ?_
          refine Rgn.pn HT_.out 18 64 ?_
          refine Rgn.pn HT_.out 19 65 ?_
          refine Rgn.pu HT_.out 20 66 ?_
          refine Rgn.pu HT_.out 21 67 ?_
          refine Rgn.pn HT_.out 22 68 ?_
          refine Rgn.pn HT_.out 23 69 ?_
          refine Rgn.pn HT_.out 24 70 ?_
          refine Rgn.pn HT_.out 25 71 ?_
          refine Rgn.pu HT_.out 26 72 ?_
          refine done_ (done_of HT_.out (by kernel_rfl)) ?_
          have hnb87 := NB241_242.out
          have hnc87 := NB242_241.out
          have hnb88 := NB241_243.out
          have hnc88 := NB243_241.out
          have hcz89_0 : w86.cell? ⟨gb241, 0, none⟩ = some (.slice Ao4 l0_0.length co4) := (blk_cell BK241.out 0).trans rfl
          have hcz89_1 : w86.cell? ⟨gb241, 1, none⟩ = some (.slice A0_1 l0_1.length c0_1) := (blk_cell BK241.out 1).trans rfl
          have hfz89_0 := blk_frozen BK241.out 0
          have hfz89_1 := blk_frozen BK241.out 1
          have hnb90 := NB243_242.out
          have hnc90 := NB242_243.out
          have hcz91_0 : w86.cell? ⟨gb243, 0, none⟩ = some (.slice none 0 0) := (blk_cell BK243.out 0).trans rfl
          have hcz91_1 : w86.cell? ⟨gb243, 1, none⟩ = some (.slice none 0 0) := (blk_cell BK243.out 1).trans rfl
          have hfz91_0 := blk_frozen BK243.out 0
          have hfz91_1 := blk_frozen BK243.out 1
          try go_wp2
          refine bodyPost_ret (results_ct rfl _ _ gb243 29 #[.slice Ao4 l0_0.length co4, .slice A0_1 l0_1.length c0_1] (0, 0) _ rfl (by (with_reducible repeat (first | refine blk_drewN ?_ _ | refine blk_drew ?_ | refine blk_alloc ?_ _)); refine blk_put (cs := #[.slice Ao4 l0_0.length co4, .slice none 0 0]) ?_ 1 _ rfl; (with_reducible repeat (first | refine blk_drewN ?_ _ | refine blk_drew ?_ | refine blk_alloc ?_ _)); refine blk_put (cs := #[.slice none 0 0, .slice none 0 0]) ?_ 0 _ rfl; (with_reducible repeat (first | refine blk_drewN ?_ _ | refine blk_drew ?_ | refine blk_alloc ?_ _)); exact BK243.out) Try.underlying29 rfl (by kernel_rfl)) rfl ?_
          exact ⟨_, _, by first | rfl | (simp [errW_none, errW_some] <;> rfl) | (simp [*, errW_none, errW_some] <;> rfl), by (with_reducible repeat (first | apply Kd.R_alloc | apply Kd.R_drewN | apply Kd.R_drew)); exact Kd.R_mono (Kd.R_far (p := ⟨gb243, 1, none⟩) (Kd.R_far (p := ⟨gb243, 0, none⟩) (Kd.R_types HO_242000.out BK243.out (by decide)) (fun _ hk => hk.2) (.slice Ao4 l0_0.length co4)) (fun _ hk => hk.2) (.slice A0_1 l0_1.length c0_1)) (fun _ hk => hk.1), by (with_reducible repeat (first | apply Kd.S_alloc | apply Kd.S_drewN | apply Kd.S_drew)); exact Kd.S_mono (Kd.S_far (p := ⟨gb243, 1, none⟩) (Kd.S_far (p := ⟨gb243, 0, none⟩) (Kd.S_mono HO_242001.out (fun k_ hk => (⟨hk, hk.2.2.2.2⟩ : _ ∧ k_ ≠ gb243))) (fun _ hk => hk.2) (.slice Ao4 l0_0.length co4)) (fun _ hk => hk.2) (.slice A0_1 l0_1.length c0_1)) (fun _ hk => ⟨hk.1.1, hk.1.2.1⟩), Rgn.bq HB.out, by repeat (first | (with_reducible first | exact HK.out | apply Kept.alloc | apply Kept.drewN | apply Kept.drew | refine Kept.setCell ?_ (.inr GW241.out) _ | refine Kept.setCell ?_ (.inr GW242.out) _ | refine Kept.setCell ?_ (.inr GW243.out) _) | exact HK.out)⟩

end Go.Proofs.Ytdhjhadcadcceaa.PFnExactDiskDo
