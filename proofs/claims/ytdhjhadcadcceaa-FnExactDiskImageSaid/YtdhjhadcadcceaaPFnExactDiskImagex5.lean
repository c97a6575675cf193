-- written by a program of this session (wip/src/print2.py)
import Derived.Test.YtdhjhadcadcceaaPFnExactDiskImagex0
import Derived.Test.YtdhjhadcadcceaaPFnExactDiskImagex1
import Derived.Test.YtdhjhadcadcceaaPFnExactDiskImagex2
import Derived.Test.YtdhjhadcadcceaaPFnExactDiskImagex4
namespace Go.Proofs.Ytdhjhadcadcceaa.PFnExactDiskImage
open Go.RowKit Go.Proofs.YtdhjhadcadcceaaW.PrintWords Go.Proofs.YtdhjhadcadcceaaW.PrintLast Go.Proofs.YtdhjhadcadcceaaW.PrintMore
attribute [local go_sem] max2_int min2_int max_two min_two max_three min_three max_four min_four   -- for this text's walks alone
set_option linter.unusedVariables false
set_option linter.unusedSimpArgs false

/-! ### impl_DiskFlush: function 34 -/
/-- Bytes laid over a row from a place on, where they are some and fit. -/
def impl_lay.f (k : Nat) (x : List Int) (o : Int) (d : List Int) : Option (List Int) := if 0 ≤ o then (if o.toNat + d.length ≤ x.length then (if 0 < d.length then some (splice x o.toNat d) else none) else none) else none
theorem impl_lay.mono : ∀ a0 a1 a2 k, LeO (impl_lay.f k a0 a1 a2) (impl_lay.f (k + 1) a0 a1 a2) := fun _ _ _ _ => LeO.refl _
theorem impl_lay.is {k : Nat} {x : List Int} {o : Int} {d t : List Int} (h : impl_lay.f k x o d = some t) : ∃ i : Nat, o = (i : Int) ∧ i + d.length ≤ x.length ∧ 0 < d.length ∧ t = splice x i d := by
  unfold impl_lay.f at h
  by_cases h0 : 0 ≤ o
  rotate_left
  · rw [if_neg h0] at h; cases h
  rw [if_pos h0] at h
  by_cases h1 : o.toNat + d.length ≤ x.length
  rotate_left
  · rw [if_neg h1] at h; cases h
  rw [if_pos h1] at h
  by_cases h2 : 0 < d.length
  rotate_left
  · rw [if_neg h2] at h; cases h
  rw [if_pos h2] at h
  exact ⟨o.toNat, by omega, h1, h2, (Option.some.inj h).symm⟩
def impl_DiskFlush.l0 : Nat → List (S62) → Int → Int → List Int → Option (List Int × (List (S62)))
  | 0, _, _, _, _ => none
  | k + 1, x15, x16, x17, x202000 => if x17 < x16 then (if 0 ≤ x17 then (if x17 < (x15.length : Int) then ((impl_lay.f k x202000 (wrap64 (((rd_T62 x15 x17).f0) * 64)) ((rd_T62 x15 x17).f1)).bind fun t204 => (impl_DiskFlush.l0 k x15 x16 (wrap64 (x17 + 1)) t204)) else (none)) else (none)) else (some (x202000, ([] : List (S62))))
def impl_DiskFlush.f (k : Nat) (l0_0 : List Int) (l0_1 : List (S62)) : Option (List Int × (List (S62))) := (impl_ValidDisk.f k l0_0 l0_1).bind fun t197 => (if t197 = true then ((impl_cp.f l0_0).bind fun t198 => (impl_DiskFlush.l0 k l0_1 (l0_1.length : Int) 0 t198)) else (some (([] : List Int), ([] : List (S62)))))
theorem impl_DiskFlush.mono_l : ∀ k, (∀ y0 y1 y2 y3, LeO (impl_DiskFlush.l0 k y0 y1 y2 y3) (impl_DiskFlush.l0 (k + 1) y0 y1 y2 y3))
  | 0 => fun _ _ _ _ r h => by simp [impl_DiskFlush.l0] at h
  | k + 1 => by
    have ih0 := impl_DiskFlush.mono_l k
    · intro y0 y1 y2 y3
      unfold impl_DiskFlush.l0
      repeat' first
      | (with_reducible exact ih0 _ _ _ _)
      | (with_reducible exact impl_ValidDisk.mono _ _ _)
      | (with_reducible exact impl_lay.mono _ _ _ _)
      | (with_reducible exact LeO.refl _)
      | (with_reducible exact LeO.none _)
      | (with_reducible refine LeO.ite ?_ ?_)
      | (with_reducible refine LeO.bind ?_ (fun _ => ?_))
      | exact ih0 _ _ _ _
      | exact impl_ValidDisk.mono _ _ _
      | exact impl_lay.mono _ _ _ _
      | exact LeO.none _
      | refine LeO.ite ?_ ?_
      | refine LeO.bind ?_ (fun _ => ?_)
theorem impl_DiskFlush.mono : ∀ a0 a1 k, LeO (impl_DiskFlush.f k a0 a1) (impl_DiskFlush.f (k + 1) a0 a1) := by
  intro a0 a1 k
  have ih0 := impl_DiskFlush.mono_l k
  unfold impl_DiskFlush.f
  repeat' first
      | (with_reducible exact ih0 _ _ _ _)
      | (with_reducible exact impl_ValidDisk.mono _ _ _)
      | (with_reducible exact impl_lay.mono _ _ _ _)
      | (with_reducible exact LeO.refl _)
      | (with_reducible exact LeO.none _)
      | (with_reducible refine LeO.ite ?_ ?_)
      | (with_reducible refine LeO.bind ?_ (fun _ => ?_))
      | exact ih0 _ _ _ _
      | exact impl_ValidDisk.mono _ _ _
      | exact impl_lay.mono _ _ _ _
      | exact LeO.none _
      | refine LeO.ite ?_ ?_
      | refine LeO.bind ?_ (fun _ => ?_)
def impl_DiskFlush.T7 : Bool × List (List Nat × List Nat) := (true, [([], []), ([0], [0]), ([], []), ([2], [2]), ([3], [3]), ([1, 4], [1, 4]), ([], []), ([6], [6]), ([5, 7], [5, 7])])
def impl_DiskFlush.B7 : List Nat := [0, 1, 0, 4, 12, 31, 0, 64, 255]
theorem impl_DiskFlush.tab7 : rtab .any (opsOf Try.f34 7) = impl_DiskFlush.T7 := by kernel_rfl
theorem impl_DiskFlush.bits7 : waitsOk impl_DiskFlush.T7.2 impl_DiskFlush.B7 = true := by kernel_rfl
set_option maxHeartbeats 8000000 in
set_option maxRecDepth 100000 in
theorem impl_DiskFlush.calls (k : Nat) (A0_0 : Option Addr) (c0_0 : Nat) (l0_0 : List Int) (A0_1 : Option Addr) (c0_1 : Nat) (l0_1 : List (S62)) (r1 : List Int) (r2 : List (S62)) (w : World) (hr0_0 : Kd.C (Kd.int .u8) w A0_0 l0_0.length l0_0) (hc0_0 : l0_0.length ≤ c0_0) (hr0_1 : Kd.C k62 w A0_1 l0_1.length l0_1) (hc0_1 : l0_1.length ≤ c0_1) (h : impl_DiskFlush.f k l0_0 l0_1 = some (r1, r2)) :
    Calls Try.prog 34 #[.agg #[.slice A0_0 l0_0.length c0_0, .slice A0_1 l0_1.length c0_1]] w fun e w' => ∃ v0_ v1_ : Value, e = .returned (.agg #[v0_, v1_]) ∧ Kd.R (Kd.int .u8) 5 w' w.heap.size (fun _ => True) v0_ r1 ∧ Kd.S k62 62 w' w.heap.size (fun k_ => some k_ ≠ (v0_ : Value).ownBlock) v1_ r2 ∧ Below w.heap.size w w' := by
  have hu29 := Try.underlying29
  have hu62 := Try.underlying62
  have HR0_0 := Aside0.mk hr0_0
  have HC0_0 := Aside0.mk hc0_0
  clear hr0_0 hc0_0
  have HR0_1 := Aside0.mk hr0_1
  have HC0_1 := Aside0.mk hc0_1
  clear hr0_1 hc0_1
  have HB := Aside0.mk (Below.refl w.heap.size w)
  have H : ((impl_ValidDisk.f k l0_0 l0_1).bind fun t197 => (if t197 = true then ((impl_cp.f l0_0).bind fun t198 => (impl_DiskFlush.l0 k l0_1 (l0_1.length : Int) 0 t198)) else (some (([] : List Int), ([] : List (S62)))))) = some (r1, r2) := h
  clear h
  replace H := Option.bind_eq_some_iff.mp H
  obtain ⟨t197, A20, H⟩ := H
  replace H : (if t197 = true then ((impl_cp.f l0_0).bind fun t198 => (impl_DiskFlush.l0 k l0_1 (l0_1.length : Int) 0 t198)) else (some (([] : List Int), ([] : List (S62))))) = some (r1, r2) := H
  have A2 := Aside0.mk A20
  clear A20
  by_cases c3 : t197 = true
  · subst c3
    have H1 : ((impl_cp.f l0_0).bind fun t198 => (impl_DiskFlush.l0 k l0_1 (l0_1.length : Int) 0 t198)) = some (r1, r2) := by rw [if_pos rfl] at H; exact H
    clear H
    have H := H1
    clear H1
    replace H := Option.bind_eq_some_iff.mp H
    obtain ⟨t198, A40, H⟩ := H
    replace H : (impl_DiskFlush.l0 k l0_1 (l0_1.length : Int) 0 t198) = some (r1, r2) := H
    have A4 := Aside0.mk A40
    clear A40
    have H' := Aside0.mk H
    clear H
    go_enter Try.func34, Try.ntmps34
    go_wp2_with (first | ((with_reducible refine gate_dst (N := 1) rfl ?_); refine box_event ?hg (N := 1) ?hd (cs := #[.slice A0_0 l0_0.length c0_0, .slice A0_1 l0_1.length c0_1]) (t := 29) ?hr ?_; (case hd => rfl); (case hg => rfl); (case hr => first | (go_simp; done) | (go_simp; rfl)); intro gb195 hg w5 hbox hb; have n0_ := Aside0.mk (below_step (by repeat (first | (with_reducible first | exact HB.out | apply below_alloc | apply pw_below_drewN | apply below_drew1) | exact HB.out)) hb); have n1_ := Aside0.mk (hbox); have n2_ := Aside0.mk ((by rw [hg]; exact (below_size (by repeat (first | (with_reducible first | exact HB.out | apply below_alloc | apply pw_below_drewN | apply below_drew1) | exact HB.out))) : w.heap.size ≤ gb195)); have n3_ := Aside0.mk ((by rw [hg]; exact (below_size (by repeat (first | (with_reducible first | exact HB.out | apply below_alloc | apply pw_below_drewN | apply below_drew1) | exact HB.out))) : w.heap.size ≤ gb195)); clear HB; have HB := n0_; have BK195 := n1_; have GW195 := n2_; have GE195 := n3_; clear n0_ n1_ n2_ n3_; clear hb hbox hg) | ((with_reducible refine gate_dst (N := 2) rfl ?_); refine box_event ?hg (N := 2) ?hd (cs := #[.slice none 0 0, .slice none 0 0]) (t := 29) ?hr ?_; (case hd => rfl); (case hg => rfl); (case hr => first | (go_simp; done) | (go_simp; rfl)); intro gb196 hg w6 hbox hb; have n0_ := Aside0.mk (blk_below (g := gb195) (o := .cells #[.slice A0_0 l0_0.length c0_0, .slice A0_1 l0_1.length c0_1] 29 (0, 0)) (by (with_reducible repeat (first | refine blk_drewN ?_ _ | refine blk_drew ?_ | refine blk_alloc ?_ _)); exact BK195.out) hb); have n1_ := Aside0.mk (below_step (by repeat (first | (with_reducible first | exact HB.out | apply below_alloc | apply pw_below_drewN | apply below_drew1 | refine below_set ?_ GE195.out) | exact HB.out)) hb); have n2_ := Aside0.mk (hbox); have n3_ := Aside0.mk ((by rw [hg]; exact (below_size (by repeat (first | (with_reducible first | exact HB.out | apply below_alloc | apply pw_below_drewN | apply below_drew1 | refine below_set ?_ GE195.out) | exact HB.out))) : w.heap.size ≤ gb196)); have n4_ := Aside0.mk ((by rw [hg]; exact (below_size (by repeat (first | (with_reducible first | exact HB.out | apply below_alloc | apply pw_below_drewN | apply below_drew1 | refine below_set ?_ GE195.out) | exact HB.out))) : w.heap.size ≤ gb196)); have n5_ := Aside0.mk ((by rw [hg]; exact Nat.ne_of_lt (blk_lt (g := gb195) (o := .cells #[.slice A0_0 l0_0.length c0_0, .slice A0_1 l0_1.length c0_1] 29 (0, 0)) (by (with_reducible repeat (first | refine blk_drewN ?_ _ | refine blk_drew ?_ | refine blk_alloc ?_ _)); exact BK195.out)) : gb195 ≠ gb196)); have n6_ := Aside0.mk ((by rw [hg]; exact Nat.ne_of_gt (blk_lt (g := gb195) (o := .cells #[.slice A0_0 l0_0.length c0_0, .slice A0_1 l0_1.length c0_1] 29 (0, 0)) (by (with_reducible repeat (first | refine blk_drewN ?_ _ | refine blk_drew ?_ | refine blk_alloc ?_ _)); exact BK195.out)) : gb196 ≠ gb195)); clear BK195; clear HB; have BK195 := n0_; have HB := n1_; have BK196 := n2_; have GW196 := n3_; have GE196 := n4_; have NB195_196 := n5_; have NB196_195 := n6_; clear n0_ n1_ n2_ n3_ n4_ n5_ n6_; clear hb hbox hg; have hnb7 := NB195_196.out; have hnc7 := NB196_195.out; have hcz8_0 : w6.cell? ⟨gb195, 0, none⟩ = some (.slice A0_0 l0_0.length c0_0) := (blk_cell BK195.out 0).trans rfl; have hcz8_1 : w6.cell? ⟨gb195, 1, none⟩ = some (.slice A0_1 l0_1.length c0_1) := (blk_cell BK195.out 1).trans rfl; have hfz8_0 := blk_frozen BK195.out 0; have hfz8_1 := blk_frozen BK195.out 1) | ((with_reducible refine gate_callee (f := 28) rfl ?_); refine goesL_ (some 7) rfl rfl Try.func28 (by kernel_rfl) rfl #[.agg #[.slice A0_0 l0_0.length c0_0, .slice A0_1 l0_1.length c0_1]] rfl (by (try simp only [List.map_toArray, List.map_cons, List.map_nil]); first | done | rfl | (simp only [List.length_drop, List.length_take]; rfl)) ?_; (with_reducible refine (impl_ValidDisk.calls k _ _ l0_0 _ _ l0_1 true _ ?side1 ?side2 ?side3 ?side4 A2.out).mono ?_); (case side1 => repeat (first | exact (Kd.C_below HR0_0.out HB.out) | (with_reducible refine Kd.C_alloc ?_ _) | (with_reducible refine Kd.C_drewN ?_ _) | (with_reducible refine Kd.C_drew ?_))); (case side2 => exact HC0_0.out); (case side3 => repeat (first | exact (Kd.C_below HR0_1.out HB.out) | (with_reducible refine Kd.C_alloc ?_ _) | (with_reducible refine Kd.C_drewN ?_ _) | (with_reducible refine Kd.C_drew ?_))); (case side4 => exact HC0_1.out); rintro e w9 ⟨rfl, hb⟩; refine ⟨_, rfl, ?_⟩; have n0_ := Aside0.mk (blk_below (g := gb195) (o := .cells #[.slice A0_0 l0_0.length c0_0, .slice A0_1 l0_1.length c0_1] 29 (0, 0)) (by (with_reducible repeat (first | refine blk_drewN ?_ _ | refine blk_drew ?_ | refine blk_alloc ?_ _)); exact BK195.out) hb); have n1_ := Aside0.mk (blk_below (g := gb196) (o := .cells #[.slice none 0 0, .slice none 0 0] 29 (0, 0)) (by (with_reducible repeat (first | refine blk_drewN ?_ _ | refine blk_drew ?_ | refine blk_alloc ?_ _)); exact BK196.out) hb); have n2_ := Aside0.mk (below_step (by repeat (first | (with_reducible first | exact HB.out | apply below_alloc | apply pw_below_drewN | apply below_drew1 | refine below_set ?_ GE195.out | refine below_set ?_ GE196.out) | exact HB.out)) hb); clear BK195; clear BK196; clear HB; have BK195 := n0_; have BK196 := n1_; have HB := n2_; clear n0_ n1_ n2_; (try clear hb); (try clear hb2); (try clear hk); (try clear hi); have hcz10_0 : w9.cell? ⟨gb195, 0, none⟩ = some (.slice A0_0 l0_0.length c0_0) := (blk_cell BK195.out 0).trans rfl; have hcz10_1 : w9.cell? ⟨gb195, 1, none⟩ = some (.slice A0_1 l0_1.length c0_1) := (blk_cell BK195.out 1).trans rfl; have hfz10_0 := blk_frozen BK195.out 0; have hfz10_1 := blk_frozen BK195.out 1) | ((with_reducible refine gate_callee (f := 77) rfl ?_); refine goesL_ (some 12) rfl rfl Try.func77 (by kernel_rfl) rfl #[.slice A0_0 l0_0.length c0_0] rfl (by (try simp only [List.map_toArray, List.map_cons, List.map_nil]); first | done | rfl | (simp only [List.length_drop, List.length_take]; rfl)) ?_; (with_reducible refine (impl_cp.calls _ _ l0_0 t198 _ ?side1 ?side2 A4.out).mono ?_); (case side1 => repeat (first | exact (Kd.C_below HR0_0.out HB.out) | (with_reducible refine Kd.C_alloc ?_ _) | (with_reducible refine Kd.C_drewN ?_ _) | (with_reducible refine Kd.C_drew ?_))); (case side2 => exact HC0_0.out); rintro e w11 ⟨v199, rfl, ho0, hb⟩; refine ⟨_, rfl, ?_⟩; have n0_ := Aside0.mk (Kd.R_lower ho0 (below_size (by repeat (first | (with_reducible first | exact HB.out | apply below_alloc | apply pw_below_drewN | apply below_drew1 | refine below_set ?_ GE195.out | refine below_set ?_ GE196.out) | exact HB.out)))); have n1_ := Aside0.mk (blk_below (g := gb195) (o := .cells #[.slice A0_0 l0_0.length c0_0, .slice A0_1 l0_1.length c0_1] 29 (0, 0)) (by (with_reducible repeat (first | refine blk_drewN ?_ _ | refine blk_drew ?_ | refine blk_alloc ?_ _)); exact BK195.out) hb); have n2_ := Aside0.mk (blk_below (g := gb196) (o := .cells #[.slice none 0 0, .slice none 0 0] 29 (0, 0)) (by (with_reducible repeat (first | refine blk_drewN ?_ _ | refine blk_drew ?_ | refine blk_alloc ?_ _)); exact BK196.out) hb); have n3_ := Aside0.mk (below_step (by repeat (first | (with_reducible first | exact HB.out | apply below_alloc | apply pw_below_drewN | apply below_drew1 | refine below_set ?_ GE195.out | refine below_set ?_ GE196.out) | exact HB.out)) hb); clear BK195; clear BK196; clear HB; have HO200 := n0_; have BK195 := n1_; have BK196 := n2_; have HB := n3_; clear n0_ n1_ n2_ n3_; (try clear hb); (try clear hb2); (try clear hk); (try clear hi); (try clear ho0); obtain ⟨Ao12, co12, eo12⟩ := Kd.R_slice HO200.out; subst eo12) | ((with_reducible refine gate_dst (N := 3) rfl ?_); refine box_event ?hg (N := 3) ?hd (cs := #[.slice none 0 0, .slice none 0 0]) (t := 29) ?hr ?_; (case hd => rfl); (case hg => rfl); (case hr => first | (go_simp; done) | (go_simp; rfl)); intro gb201 hg w13 hbox hb; have n0_ := Aside0.mk (Kd.R_below (by (with_reducible repeat (first | apply Kd.R_alloc | apply Kd.R_drewN | apply Kd.R_drew)); exact HO200.out) hb); have n1_ := Aside0.mk (blk_below (g := gb195) (o := .cells #[.slice A0_0 l0_0.length c0_0, .slice A0_1 l0_1.length c0_1] 29 (0, 0)) (by (with_reducible repeat (first | refine blk_drewN ?_ _ | refine blk_drew ?_ | refine blk_alloc ?_ _)); exact BK195.out) hb); have n2_ := Aside0.mk (blk_below (g := gb196) (o := .cells #[.slice none 0 0, .slice none 0 0] 29 (0, 0)) (by (with_reducible repeat (first | refine blk_drewN ?_ _ | refine blk_drew ?_ | refine blk_alloc ?_ _)); exact BK196.out) hb); have n3_ := Aside0.mk (below_step (by repeat (first | (with_reducible first | exact HB.out | apply below_alloc | apply pw_below_drewN | apply below_drew1 | refine below_set ?_ GE195.out | refine below_set ?_ GE196.out) | exact HB.out)) hb); have n4_ := Aside0.mk (hbox); have n5_ := Aside0.mk ((by rw [hg]; exact (below_size (by repeat (first | (with_reducible first | exact HB.out | apply below_alloc | apply pw_below_drewN | apply below_drew1 | refine below_set ?_ GE195.out | refine below_set ?_ GE196.out) | exact HB.out))) : w.heap.size ≤ gb201)); have n6_ := Aside0.mk ((by rw [hg]; exact (below_size (by repeat (first | (with_reducible first | exact HB.out | apply below_alloc | apply pw_below_drewN | apply below_drew1 | refine below_set ?_ GE195.out | refine below_set ?_ GE196.out) | exact HB.out))) : w.heap.size ≤ gb201)); have n7_ := Aside0.mk ((by rw [hg]; exact Nat.ne_of_lt (blk_lt (g := gb195) (o := .cells #[.slice A0_0 l0_0.length c0_0, .slice A0_1 l0_1.length c0_1] 29 (0, 0)) (by (with_reducible repeat (first | refine blk_drewN ?_ _ | refine blk_drew ?_ | refine blk_alloc ?_ _)); exact BK195.out)) : gb195 ≠ gb201)); have n8_ := Aside0.mk ((by rw [hg]; exact Nat.ne_of_gt (blk_lt (g := gb195) (o := .cells #[.slice A0_0 l0_0.length c0_0, .slice A0_1 l0_1.length c0_1] 29 (0, 0)) (by (with_reducible repeat (first | refine blk_drewN ?_ _ | refine blk_drew ?_ | refine blk_alloc ?_ _)); exact BK195.out)) : gb201 ≠ gb195)); have n9_ := Aside0.mk ((by rw [hg]; exact Nat.ne_of_lt (blk_lt (g := gb196) (o := .cells #[.slice none 0 0, .slice none 0 0] 29 (0, 0)) (by (with_reducible repeat (first | refine blk_drewN ?_ _ | refine blk_drew ?_ | refine blk_alloc ?_ _)); exact BK196.out)) : gb196 ≠ gb201)); have n10_ := Aside0.mk ((by rw [hg]; exact Nat.ne_of_gt (blk_lt (g := gb196) (o := .cells #[.slice none 0 0, .slice none 0 0] 29 (0, 0)) (by (with_reducible repeat (first | refine blk_drewN ?_ _ | refine blk_drew ?_ | refine blk_alloc ?_ _)); exact BK196.out)) : gb201 ≠ gb196)); clear HO200; clear BK195; clear BK196; clear HB; have HO200 := n0_; have BK195 := n1_; have BK196 := n2_; have HB := n3_; have BK201 := n4_; have GW201 := n5_; have GE201 := n6_; have NB195_201 := n7_; have NB201_195 := n8_; have NB196_201 := n9_; have NB201_196 := n10_; clear n0_ n1_ n2_ n3_ n4_ n5_ n6_ n7_ n8_ n9_ n10_; clear hb hbox hg; have hnb14 := NB201_195.out; have hnc14 := NB195_201.out; have hnb15 := NB201_196.out; have hnc15 := NB196_201.out; have hcz16_0 : w13.cell? ⟨gb201, 0, none⟩ = some (.slice none 0 0) := (blk_cell BK201.out 0).trans rfl; have hcz16_1 : w13.cell? ⟨gb201, 1, none⟩ = some (.slice none 0 0) := (blk_cell BK201.out 1).trans rfl; have hfz16_0 := blk_frozen BK201.out 0; have hfz16_1 := blk_frozen BK201.out 1; have hcz17_0 : w13.cell? ⟨gb195, 0, none⟩ = some (.slice A0_0 l0_0.length c0_0) := (blk_cell BK195.out 0).trans rfl; have hcz17_1 : w13.cell? ⟨gb195, 1, none⟩ = some (.slice A0_1 l0_1.length c0_1) := (blk_cell BK195.out 1).trans rfl; have hfz17_0 := blk_frozen BK195.out 0; have hfz17_1 := blk_frozen BK195.out 1))
    go_loopg [17] k (fun kq v17 w' => ∃ (x17_1 : Int) (x202000_1 : List Int) (u202000 : Value), v17 = .int .i64 x17_1 ∧ Aside0 (impl_DiskFlush.l0 kq l0_1 (l0_1.length : Int) x17_1 x202000_1 = some (r1, r2)) ∧ Aside0 (kq ≤ k) ∧ Aside0 (Kd.R (Kd.int .u8) 5 w' w.heap.size (fun _ => True) u202000 x202000_1) ∧ Aside0 (w'.heap[gb195]? = some (.cells #[(.slice A0_0 l0_0.length c0_0), (.slice A0_1 l0_1.length c0_1)] 29 (0, 0))) ∧ Aside0 (w'.heap[gb196]? = some (.cells #[(.slice none 0 0), (.slice none 0 0)] 29 (0, 0))) ∧ Aside0 (w'.heap[gb201]? = some (.cells #[u202000, (.slice none 0 0)] 29 (0, 0))) ∧ Aside0 (Below w.heap.size w w'))
    case atStart => exact ⟨(0), (t198), (.slice Ao12 t198.length co12), (by first | rfl | (simp; done) | (simp [*]; done)), H', ⟨Nat.le_refl _⟩, ⟨by (with_reducible repeat (first | apply Kd.R_alloc | apply Kd.R_drewN | apply Kd.R_drew)); exact Kd.R_mono (Kd.R_far (p := ⟨gb201, 1, none⟩) (Kd.R_far (p := ⟨gb201, 0, none⟩) (Kd.R_types HO200.out BK201.out (by decide)) (fun _ hk => hk.2) (.slice Ao12 t198.length co12)) (fun _ hk => hk.2) (.slice none 0 0)) (fun _ hk => trivial)⟩, ⟨by (with_reducible repeat (first | refine blk_drewN ?_ _ | refine blk_drew ?_ | refine blk_alloc ?_ _)); refine blk_far ?_ NB195_201.out _; (with_reducible repeat (first | refine blk_drewN ?_ _ | refine blk_drew ?_ | refine blk_alloc ?_ _)); refine blk_far ?_ NB195_201.out _; (with_reducible repeat (first | refine blk_drewN ?_ _ | refine blk_drew ?_ | refine blk_alloc ?_ _)); exact BK195.out⟩, ⟨by (with_reducible repeat (first | refine blk_drewN ?_ _ | refine blk_drew ?_ | refine blk_alloc ?_ _)); refine blk_far ?_ NB196_201.out _; (with_reducible repeat (first | refine blk_drewN ?_ _ | refine blk_drew ?_ | refine blk_alloc ?_ _)); refine blk_far ?_ NB196_201.out _; (with_reducible repeat (first | refine blk_drewN ?_ _ | refine blk_drew ?_ | refine blk_alloc ?_ _)); exact BK196.out⟩, ⟨by (with_reducible repeat (first | refine blk_drewN ?_ _ | refine blk_drew ?_ | refine blk_alloc ?_ _)); refine blk_put (cs := #[.slice Ao12 t198.length co12, .slice none 0 0]) ?_ 1 _ rfl; (with_reducible repeat (first | refine blk_drewN ?_ _ | refine blk_drew ?_ | refine blk_alloc ?_ _)); refine blk_put (cs := #[.slice none 0 0, .slice none 0 0]) ?_ 0 _ rfl; (with_reducible repeat (first | refine blk_drewN ?_ _ | refine blk_drew ?_ | refine blk_alloc ?_ _)); exact BK201.out⟩, ⟨by repeat (first | (with_reducible first | exact HB.out | apply below_alloc | apply pw_below_drewN | apply below_drew1 | refine below_set ?_ GE195.out | refine below_set ?_ GE196.out | refine below_set ?_ GE201.out) | exact HB.out)⟩⟩
    case round =>
      clear H'
      try clear c1
      try clear c2
      try clear p2
      try clear c3
      try clear c7
      try clear c14
      try clear c15
      try clear hcz10_0
      try clear hcz10_1
      try clear hcz16_0
      try clear hcz16_1
      try clear hcz17_0
      try clear hcz17_1
      try clear hcz8_0
      try clear hcz8_1
      try clear hfz10_0
      try clear hfz10_1
      try clear hfz16_0
      try clear hfz16_1
      try clear hfz17_0
      try clear hfz17_1
      try clear hfz8_0
      try clear hfz8_1
      obtain ⟨x17_1, x202000_1, u202000, rfl, HA, HK1, HO_202000, BK195, BK196, BK201, HB⟩ := hrel
      cases gk with
      | zero => exact absurd HA.out (by simp [impl_DiskFlush.l0])
      | succ k1 =>
        have H := HA.out
        clear HA
        simp only [impl_DiskFlush.l0] at H
        by_cases c18 : x17_1 < (l0_1.length : Int)
        · rw [if_pos c18] at H
          have c18b0 : decide (x17_1 < (l0_1.length : Int)) = true := decide_eq_true c18
          clear c18
          by_cases c19 : 0 ≤ x17_1
          · rw [if_pos c19] at H
            have c19b0 : decide (0 ≤ x17_1) = true := decide_eq_true c19
            clear c19
            by_cases c20 : x17_1 < (l0_1.length : Int)
            · rw [if_pos c20] at H
              have c20b0 : decide (x17_1 < (l0_1.length : Int)) = true := decide_eq_true c20
              clear c20
              replace H := Option.bind_eq_some_iff.mp H
              obtain ⟨t204, A210, H⟩ := H
              replace H : (impl_DiskFlush.l0 k1 l0_1 (l0_1.length : Int) (wrap64 (x17_1 + 1)) t204) = some (r1, r2) := H
              have A21 := Aside0.mk A210
              clear A210
              have H' := Aside0.mk H
              clear H
              have p202 : 0 ≤ (x17_1 : Int) := of_decide_eq_true (by first | (with_reducible assumption) | assumption)
              have q202 : x17_1 < (l0_1.length : Int) := of_decide_eq_true (by first | (with_reducible assumption) | assumption)
              obtain ⟨ad202, A202_1, c202_1, e202, hx202_0, hx202_1, hl202_1, hi202_1⟩ := at_T62 HR0_1.out x17_1 p202 q202
              cases e202
              replace hx202_0 := (HB.out.cell (World.block_lt_of_cell? w _ hx202_0)).trans hx202_0
              replace hx202_1 := (HB.out.cell (World.block_lt_of_cell? w _ hx202_1)).trans hx202_1
              have HR202_1 := Aside0.mk hi202_1
              have HC202_1 := Aside0.mk hl202_1
              clear hi202_1 hl202_1
              replace p202 := eq_true p202
              replace q202 := eq_true q202
              try go_wp2_with (first | ((with_reducible refine gate_dst (N := 5) rfl ?_); refine box_event ?hg (N := 5) ?hd (cs := #[.int .i64 0, .slice none 0 0]) (t := 62) ?hr ?_; (case hd => rfl); (case hg => rfl); (case hr => first | (go_simp; done) | (go_simp; rfl)); intro gb203 hg w22 hbox hb; have n0_ := Aside0.mk (Kd.R_below (by (with_reducible repeat (first | apply Kd.R_alloc | apply Kd.R_drewN | apply Kd.R_drew)); exact HO_202000.out) hb); have n1_ := Aside0.mk (blk_below (g := gb195) (o := .cells #[.slice A0_0 l0_0.length c0_0, .slice (some ad202) l0_1.length c0_1] 29 (0, 0)) (by (with_reducible repeat (first | refine blk_drewN ?_ _ | refine blk_drew ?_ | refine blk_alloc ?_ _)); exact BK195.out) hb); have n2_ := Aside0.mk (blk_below (g := gb196) (o := .cells #[.slice none 0 0, .slice none 0 0] 29 (0, 0)) (by (with_reducible repeat (first | refine blk_drewN ?_ _ | refine blk_drew ?_ | refine blk_alloc ?_ _)); exact BK196.out) hb); have n3_ := Aside0.mk (blk_below (g := gb201) (o := .cells #[u202000, .slice none 0 0] 29 (0, 0)) (by (with_reducible repeat (first | refine blk_drewN ?_ _ | refine blk_drew ?_ | refine blk_alloc ?_ _)); exact BK201.out) hb); have n4_ := Aside0.mk (below_step (by repeat (first | (with_reducible first | exact HB.out | apply below_alloc | apply pw_below_drewN | apply below_drew1 | refine below_set ?_ GE195.out | refine below_set ?_ GE196.out | refine below_set ?_ GE201.out) | exact HB.out)) hb); have n5_ := Aside0.mk (hbox); have n6_ := Aside0.mk ((by rw [hg]; exact (below_size (by repeat (first | (with_reducible first | exact HB.out | apply below_alloc | apply pw_below_drewN | apply below_drew1 | refine below_set ?_ GE195.out | refine below_set ?_ GE196.out | refine below_set ?_ GE201.out) | exact HB.out))) : w.heap.size ≤ gb203)); have n7_ := Aside0.mk ((by rw [hg]; exact (below_size (by repeat (first | (with_reducible first | exact HB.out | apply below_alloc | apply pw_below_drewN | apply below_drew1 | refine below_set ?_ GE195.out | refine below_set ?_ GE196.out | refine below_set ?_ GE201.out) | exact HB.out))) : w.heap.size ≤ gb203)); have n8_ := Aside0.mk ((by rw [hg]; exact Nat.ne_of_lt (blk_lt (g := gb195) (o := .cells #[.slice A0_0 l0_0.length c0_0, .slice (some ad202) l0_1.length c0_1] 29 (0, 0)) (by (with_reducible repeat (first | refine blk_drewN ?_ _ | refine blk_drew ?_ | refine blk_alloc ?_ _)); exact BK195.out)) : gb195 ≠ gb203)); have n9_ := Aside0.mk ((by rw [hg]; exact Nat.ne_of_gt (blk_lt (g := gb195) (o := .cells #[.slice A0_0 l0_0.length c0_0, .slice (some ad202) l0_1.length c0_1] 29 (0, 0)) (by (with_reducible repeat (first | refine blk_drewN ?_ _ | refine blk_drew ?_ | refine blk_alloc ?_ _)); exact BK195.out)) : gb203 ≠ gb195)); have n10_ := Aside0.mk ((by rw [hg]; exact Nat.ne_of_lt (blk_lt (g := gb196) (o := .cells #[.slice none 0 0, .slice none 0 0] 29 (0, 0)) (by (with_reducible repeat (first | refine blk_drewN ?_ _ | refine blk_drew ?_ | refine blk_alloc ?_ _)); exact BK196.out)) : gb196 ≠ gb203)); have n11_ := Aside0.mk ((by rw [hg]; exact Nat.ne_of_gt (blk_lt (g := gb196) (o := .cells #[.slice none 0 0, .slice none 0 0] 29 (0, 0)) (by (with_reducible repeat (first | refine blk_drewN ?_ _ | refine blk_drew ?_ | refine blk_alloc ?_ _)); exact BK196.out)) : gb203 ≠ gb196)); have n12_ := Aside0.mk ((by rw [hg]; exact Nat.ne_of_lt (blk_lt (g := gb201) (o := .cells #[u202000, .slice none 0 0] 29 (0, 0)) (by (with_reducible repeat (first | refine blk_drewN ?_ _ | refine blk_drew ?_ | refine blk_alloc ?_ _)); exact BK201.out)) : gb201 ≠ gb203)); have n13_ := Aside0.mk ((by rw [hg]; exact Nat.ne_of_gt (blk_lt (g := gb201) (o := .cells #[u202000, .slice none 0 0] 29 (0, 0)) (by (with_reducible repeat (first | refine blk_drewN ?_ _ | refine blk_drew ?_ | refine blk_alloc ?_ _)); exact BK201.out)) : gb203 ≠ gb201)); clear HO_202000; clear BK195; clear BK196; clear BK201; clear HB; have HO_202000 := n0_; have BK195 := n1_; have BK196 := n2_; have BK201 := n3_; have HB := n4_; have BK203 := n5_; have GW203 := n6_; have GE203 := n7_; have NB195_203 := n8_; have NB203_195 := n9_; have NB196_203 := n10_; have NB203_196 := n11_; have NB201_203 := n12_; have NB203_201 := n13_; clear n0_ n1_ n2_ n3_ n4_ n5_ n6_ n7_ n8_ n9_ n10_ n11_ n12_ n13_; clear hb hbox hg; have hnb23 := NB203_195.out; have hnc23 := NB195_203.out; have hnb24 := NB203_196.out; have hnc24 := NB196_203.out; have hnb25 := NB203_201.out; have hnc25 := NB201_203.out; have hcz26_0 : w22.cell? ⟨gb203, 0, none⟩ = some (.int .i64 0) := (blk_cell BK203.out 0).trans rfl; have hcz26_1 : w22.cell? ⟨gb203, 1, none⟩ = some (.slice none 0 0) := (blk_cell BK203.out 1).trans rfl; have hfz26_0 := blk_frozen BK203.out 0; have hfz26_1 := blk_frozen BK203.out 1))
              have n0_ : Aside0 (Kd.R (Kd.int .u8) 5 ((w22.setCell ⟨gb203, 0, none⟩ (.int .i64 ((rd_T62 l0_1 x17_1).f0))).setCell ⟨gb203, 1, none⟩ (.slice A202_1 ((rd_T62 l0_1 x17_1).f1).length c202_1)) w.heap.size (fun _ => True) u202000 x202000_1) := ⟨by (with_reducible repeat (first | apply Kd.R_alloc | apply Kd.R_drewN | apply Kd.R_drew)); exact Kd.R_mono (Kd.R_far (p := ⟨gb203, 1, none⟩) (Kd.R_far (p := ⟨gb203, 0, none⟩) (Kd.R_types HO_202000.out BK203.out (by decide)) (fun _ hk => hk.2) (.int .i64 ((rd_T62 l0_1 x17_1).f0))) (fun _ hk => hk.2) (.slice A202_1 ((rd_T62 l0_1 x17_1).f1).length c202_1)) (fun _ hk => trivial)⟩
              have n1_ : Aside0 (((w22.setCell ⟨gb203, 0, none⟩ (.int .i64 ((rd_T62 l0_1 x17_1).f0))).setCell ⟨gb203, 1, none⟩ (.slice A202_1 ((rd_T62 l0_1 x17_1).f1).length c202_1)).heap[gb195]? = some (.cells #[.slice A0_0 l0_0.length c0_0, .slice (some ad202) l0_1.length c0_1] 29 (0, 0))) := ⟨by (with_reducible repeat (first | refine blk_drewN ?_ _ | refine blk_drew ?_ | refine blk_alloc ?_ _)); refine blk_far ?_ NB195_203.out _; (with_reducible repeat (first | refine blk_drewN ?_ _ | refine blk_drew ?_ | refine blk_alloc ?_ _)); refine blk_far ?_ NB195_203.out _; (with_reducible repeat (first | refine blk_drewN ?_ _ | refine blk_drew ?_ | refine blk_alloc ?_ _)); exact BK195.out⟩
              have n2_ : Aside0 (((w22.setCell ⟨gb203, 0, none⟩ (.int .i64 ((rd_T62 l0_1 x17_1).f0))).setCell ⟨gb203, 1, none⟩ (.slice A202_1 ((rd_T62 l0_1 x17_1).f1).length c202_1)).heap[gb196]? = some (.cells #[.slice none 0 0, .slice none 0 0] 29 (0, 0))) := ⟨by (with_reducible repeat (first | refine blk_drewN ?_ _ | refine blk_drew ?_ | refine blk_alloc ?_ _)); refine blk_far ?_ NB196_203.out _; (with_reducible repeat (first | refine blk_drewN ?_ _ | refine blk_drew ?_ | refine blk_alloc ?_ _)); refine blk_far ?_ NB196_203.out _; (with_reducible repeat (first | refine blk_drewN ?_ _ | refine blk_drew ?_ | refine blk_alloc ?_ _)); exact BK196.out⟩
              have n3_ : Aside0 (((w22.setCell ⟨gb203, 0, none⟩ (.int .i64 ((rd_T62 l0_1 x17_1).f0))).setCell ⟨gb203, 1, none⟩ (.slice A202_1 ((rd_T62 l0_1 x17_1).f1).length c202_1)).heap[gb201]? = some (.cells #[u202000, .slice none 0 0] 29 (0, 0))) := ⟨by (with_reducible repeat (first | refine blk_drewN ?_ _ | refine blk_drew ?_ | refine blk_alloc ?_ _)); refine blk_far ?_ NB201_203.out _; (with_reducible repeat (first | refine blk_drewN ?_ _ | refine blk_drew ?_ | refine blk_alloc ?_ _)); refine blk_far ?_ NB201_203.out _; (with_reducible repeat (first | refine blk_drewN ?_ _ | refine blk_drew ?_ | refine blk_alloc ?_ _)); exact BK201.out⟩
              have n4_ : Aside0 (((w22.setCell ⟨gb203, 0, none⟩ (.int .i64 ((rd_T62 l0_1 x17_1).f0))).setCell ⟨gb203, 1, none⟩ (.slice A202_1 ((rd_T62 l0_1 x17_1).f1).length c202_1)).heap[gb203]? = some (.cells #[.int .i64 ((rd_T62 l0_1 x17_1).f0), .slice A202_1 ((rd_T62 l0_1 x17_1).f1).length c202_1] 62 (0, 0))) := ⟨by (with_reducible repeat (first | refine blk_drewN ?_ _ | refine blk_drew ?_ | refine blk_alloc ?_ _)); refine blk_put (cs := #[.int .i64 ((rd_T62 l0_1 x17_1).f0), .slice none 0 0]) ?_ 1 _ rfl; (with_reducible repeat (first | refine blk_drewN ?_ _ | refine blk_drew ?_ | refine blk_alloc ?_ _)); refine blk_put (cs := #[.int .i64 0, .slice none 0 0]) ?_ 0 _ rfl; (with_reducible repeat (first | refine blk_drewN ?_ _ | refine blk_drew ?_ | refine blk_alloc ?_ _)); exact BK203.out⟩
              have n5_ : Aside0 (Below w.heap.size w ((w22.setCell ⟨gb203, 0, none⟩ (.int .i64 ((rd_T62 l0_1 x17_1).f0))).setCell ⟨gb203, 1, none⟩ (.slice A202_1 ((rd_T62 l0_1 x17_1).f1).length c202_1))) := ⟨by repeat (first | (with_reducible first | exact HB.out | apply below_alloc | apply pw_below_drewN | apply below_drew1 | refine below_set ?_ GE195.out | refine below_set ?_ GE196.out | refine below_set ?_ GE201.out | refine below_set ?_ GE203.out) | exact HB.out)⟩
              (try clear HO_202000)
              (try clear BK195)
              (try clear BK196)
              (try clear BK201)
              (try clear BK203)
              (try clear HB)
              generalize ((w22.setCell ⟨gb203, 0, none⟩ (.int .i64 ((rd_T62 l0_1 x17_1).f0))).setCell ⟨gb203, 1, none⟩ (.slice A202_1 ((rd_T62 l0_1 x17_1).f1).length c202_1)) = w27 at n0_ n1_ n2_ n3_ n4_ n5_ ⊢
              have HO_202000 := n0_
              have BK195 := n1_
              have BK196 := n2_
              have BK201 := n3_
              have BK203 := n4_
              have HB := n5_
              clear n0_ n1_ n2_ n3_ n4_ n5_
              have n0_ := Aside0.mk (Kd.R_drew HO_202000.out)
              have n1_ := Aside0.mk (blk_drew BK195.out)
              have n2_ := Aside0.mk (blk_drew BK196.out)
              have n3_ := Aside0.mk (blk_drew BK201.out)
              have n4_ := Aside0.mk (blk_drew BK203.out)
              have n5_ := Aside0.mk (below_drew1 HB.out)
              clear HO_202000
              clear BK195
              clear BK196
              clear BK201
              clear BK203
              clear HB
              have HO_202000 := n0_
              have BK195 := n1_
              have BK196 := n2_
              have BK201 := n3_
              have BK203 := n4_
              have HB := n5_
              clear n0_ n1_ n2_ n3_ n4_ n5_
              obtain ⟨Ao29, co29, eo29⟩ := Kd.R_slice HO_202000.out
              (first | subst eo29 | (injection eo29 with f1_ f2_ f3_; have f4_ := f1_.symm; have f5_ := f3_.symm; clear f1_ f2_ f3_; subst f4_; subst f5_))
              obtain ⟨iz, hiz, hz1, hz2, hz3⟩ := impl_lay.is A21.out
              obtain ⟨gz, hzA, hzb⟩ : ∃ gz, Ao29 = some (⟨gz, 0, none⟩ : Addr) ∧ w.heap.size ≤ gz := by
                rcases (Kd.own_of_R (enc := Value.int .u8) HO_202000.out).2 with ⟨_, hn0⟩ | ⟨g_, cap_, cur_, hv_, hbg_, _⟩
                · exact absurd hn0 (by omega)
                · injection hv_ with h1_; exact ⟨g_, h1_, hbg_⟩
              have hcapz := (Kd.R_reads' HO_202000.out).2.1
              have hlez : (iz ≤ x202000_1.length) = True := eq_true (by omega)
              have hnez : (co29 = iz) = False := eq_false (by omega)
              refine start_ (n := 9) (S := fun w' => w'.cell? ⟨gb201, 0, none⟩ = some (.slice Ao29 x202000_1.length co29) ∧ w'.cell? ⟨gb201, 1, none⟩ = some (.slice none 0 0) ∧ w'.cell? ⟨gb203, 0, none⟩ = some (.int .i64 ((rd_T62 l0_1 x17_1).f0)) ∧ w'.cell? ⟨gb203, 1, none⟩ = some (.slice A202_1 ((rd_T62 l0_1 x17_1).f1).length c202_1)) (ds := []) #[false, false, false, false, false, false, false, false, false] (by kernel_rfl) rfl rfl ⟨(blk_cell BK201.out 0).trans rfl, (blk_cell BK201.out 1).trans rfl, (blk_cell BK203.out 0).trans rfl, (blk_cell BK203.out 1).trans rfl⟩ (fun hHeld => ?_); refine with_tabW impl_DiskFlush.tab7 impl_DiskFlush.bits7 (fun HT_ HW_ => ?_)
              generalize w27.drew = w28 at HO_202000 BK195 BK196 BK201 BK203 HB hHeld ⊢
              refine pure_ (i := 0) (N := some 21) (v := ?_) (a' := ?_) #[true, false, false, false, false, false, false, false, false] rfl rfl (any_of HT_.out (by kernel_rfl)) (fun _ _ _ h => h) (Or.inl ⟨by rfl, ?_⟩) ?_ ?_
              rotate_left
              · intro w'
                go_simp
                with_reducible rfl
              rotate_left
              · simp only [Act.put, List.setIfInBounds_toArray, List.set_cons_zero, List.set_cons_succ, i64_w, i32_w]
                rfl
              refine pure_ (i := 2) (N := some 23) (v := ?_) (a' := ?_) #[true, false, true, false, false, false, false, false, false] rfl rfl (any_of HT_.out (by kernel_rfl)) (fun _ _ _ h => h) (Or.inl ⟨by rfl, ?_⟩) ?_ ?_
              rotate_left
              · intro w'
                go_simp
                with_reducible rfl
              rotate_left
              · simp only [Act.put, List.setIfInBounds_toArray, List.set_cons_zero, List.set_cons_succ, i64_w, i32_w]
                rfl
              refine pure_ (i := 6) (N := some 27) (v := ?_) (a' := ?_) #[true, false, true, false, false, false, true, false, false] rfl rfl (any_of HT_.out (by kernel_rfl)) (fun _ _ _ h => h) (Or.inl ⟨by rfl, ?_⟩) ?_ ?_
              rotate_left
              · intro w'
                go_simp
                with_reducible rfl
              rotate_left
              · simp only [Act.put, List.setIfInBounds_toArray, List.set_cons_zero, List.set_cons_succ, i64_w, i32_w]
                rfl
              refine take_ (i := 1) (N := some 22) (v := ?_) (a' := ?_) #[true, true, true, false, false, false, true, false, false] rfl rfl (take_ofW HT_.out HW_.out (by kernel_rfl)) (fun _ _ _ h => h) (Or.inl ⟨by rfl, ?_⟩) hHeld ?_ ?_
              rotate_left
              · rintro w' ⟨s0, s1, s2, s3⟩
                go_simp
                with_reducible rfl
              rotate_left
              · simp only [Act.put, List.setIfInBounds_toArray, List.set_cons_zero, List.set_cons_succ, i64_w, i32_w]
                rfl
              refine take_ (i := 3) (N := some 24) (v := ?_) (a' := ?_) #[true, true, true, true, false, false, true, false, false] rfl rfl (take_ofW HT_.out HW_.out (by kernel_rfl)) (fun _ _ _ h => h) (Or.inl ⟨by rfl, ?_⟩) hHeld ?_ ?_
              rotate_left
              · rintro w' ⟨s0, s1, s2, s3⟩
                go_simp
                with_reducible rfl
              rotate_left
              · simp only [Act.put, List.setIfInBounds_toArray, List.set_cons_zero, List.set_cons_succ, i64_w, i32_w]
                rfl
              refine pure_ (i := 4) (N := some 25) (v := ?_) (a' := ?_) #[true, true, true, true, true, false, true, false, false] rfl rfl (any_of HT_.out (by kernel_rfl)) (fun _ _ _ h => h) (Or.inl ⟨by rfl, ?_⟩) ?_ ?_
              rotate_left
              · intro w'
                go_simp
                with_reducible rfl
              rotate_left
              · simp only [Act.put, List.setIfInBounds_toArray, List.set_cons_zero, List.set_cons_succ, i64_w, i32_w]
                rfl
              refine pure_ (i := 5) (N := some 26) (v := ?_) (a' := ?_) #[true, true, true, true, true, true, true, false, false] rfl rfl (any_of HT_.out (by kernel_rfl)) (fun _ _ _ h => h) (Or.inl ⟨by rfl, ?_⟩) ?_ ?_
              rotate_left
              · intro w'
                go_simp
                with_reducible rfl
              rotate_left
              · simp only [Act.put, List.setIfInBounds_toArray, List.set_cons_zero, List.set_cons_succ, i64_w, i32_w]
                rfl
              refine take_ (i := 7) (N := some 28) (v := ?_) (a' := ?_) #[true, true, true, true, true, true, true, true, false] rfl rfl (take_ofW HT_.out HW_.out (by kernel_rfl)) (fun _ _ _ h => h) (Or.inl ⟨by rfl, ?_⟩) hHeld ?_ ?_
              rotate_left
              · rintro w' ⟨s0, s1, s2, s3⟩
                go_simp
                with_reducible rfl
              rotate_left
              · simp only [Act.put, List.setIfInBounds_toArray, List.set_cons_zero, List.set_cons_succ, i64_w, i32_w]
                rfl
              refine one_ (i := 8) (N := some 29) #[true, true, true, true, true, true, true, true, true] rfl rfl (one_of HT_.out (by kernel_rfl)) (by decide) (fun K hK => ?_)
              have HOz : Kd.R (Kd.int .u8) 5 w28 w.heap.size (fun _ => True) (.slice (some ⟨gz, 0, none⟩) x202000_1.length co29) x202000_1 := by have h_ := HO_202000.out; rw [hzA] at h_; exact h_
              refine Cpy.copy_row_wp (.tmp 26) (.tmp 28) 22 22 rfl Try.underlying22 (by kernel_rfl) (x202000_1.length - iz) (co29 - iz) (by rfl) A202_1 ((rd_T62 l0_1 x17_1).f1) ((rd_T62 l0_1 x17_1).f1).length c202_1 (by rfl) rfl (Kd.C_below HR202_1.out HB.out) (by omega) HOz hz1 ?_
              intro w30 hy0 hgr
              have n0_ := Aside0.mk (show Kd.R (Kd.int .u8) 5 w30 w.heap.size (fun _ => True) (.slice Ao29 x202000_1.length co29) t204 by rw [hz3, hzA]; exact hy0)
              have n1_ := Aside0.mk ((hgr.block _ (blk_lt BK195.out) (fun e_ => Kd.R_ne HOz BK195.out (by decide) (by first | exact e_ | exact e_.symm))).trans BK195.out)
              have n2_ := Aside0.mk ((hgr.block _ (blk_lt BK196.out) (fun e_ => Kd.R_ne HOz BK196.out (by decide) (by first | exact e_ | exact e_.symm))).trans BK196.out)
              have n3_ := Aside0.mk ((hgr.block _ (blk_lt BK201.out) (fun e_ => Kd.R_ne HOz BK201.out (by decide) (by first | exact e_ | exact e_.symm))).trans BK201.out)
              have n4_ := Aside0.mk ((hgr.block _ (blk_lt BK203.out) (fun e_ => Kd.R_ne HOz BK203.out (by decide) (by first | exact e_ | exact e_.symm))).trans BK203.out)
              have n5_ := Aside0.mk (Box.below_grown HB.out hgr hzb)
              clear HO_202000
              clear BK195
              clear BK196
              clear BK201
              clear BK203
              clear HB
              have HO_202000 := n0_
              have BK195 := n1_
              have BK196 := n2_
              have BK201 := n3_
              have BK203 := n4_
              have HB := n5_
              clear n0_ n1_ n2_ n3_ n4_ n5_
              (try clear hb)
              (try clear hkp)
              (try clear hy0)
              refine hK.out _ _ ⟨(blk_cell BK201.out 0).trans rfl, (blk_cell BK201.out 1).trans rfl, (blk_cell BK203.out 0).trans rfl, (blk_cell BK203.out 1).trans rfl⟩ (fun hHeld => ?_)
              clear hK K
              refine norm_ (a' := ?_) ?_ ?_
              rotate_left
              · show Act.put _ (some 29) _ = _
                simp only [Act.put, List.setIfInBounds_toArray, List.set_cons_zero, List.set_cons_succ, i64_w, i32_w]
                rfl
              refine done_ (done_of HT_.out (by kernel_rfl)) ?_
              try go_wp2
              go_roundg k1
              case measure => have := HK1.out; omega
              case rel => exact ⟨(wrap64 (x17_1 + 1)), (t204), (.slice Ao29 x202000_1.length co29), (by first | rfl | (simp; done) | (simp [*]; done)), H', ⟨by have := HK1.out; omega⟩, ⟨by (with_reducible repeat (first | apply Kd.R_alloc | apply Kd.R_drewN | apply Kd.R_drew)); exact HO_202000.out⟩, ⟨by (with_reducible repeat (first | refine blk_drewN ?_ _ | refine blk_drew ?_ | refine blk_alloc ?_ _)); exact BK195.out⟩, ⟨by (with_reducible repeat (first | refine blk_drewN ?_ _ | refine blk_drew ?_ | refine blk_alloc ?_ _)); exact BK196.out⟩, ⟨by (with_reducible repeat (first | refine blk_drewN ?_ _ | refine blk_drew ?_ | refine blk_alloc ?_ _)); exact BK201.out⟩, ⟨by repeat (first | (with_reducible first | exact HB.out | apply below_alloc | apply pw_below_drewN | apply below_drew1 | refine below_set ?_ GE195.out | refine below_set ?_ GE196.out | refine below_set ?_ GE201.out | refine below_set ?_ GE203.out) | exact HB.out)⟩⟩
            · rw [if_neg c20] at H
              exact absurd H (by simp)
          · rw [if_neg c19] at H
            exact absurd H (by simp)
        · rw [if_neg c18] at H
          have c18b0 : decide (x17_1 < (l0_1.length : Int)) = false := decide_eq_false c18
          clear c18
          simp only [Option.some.injEq, Prod.mk.injEq] at H
          obtain ⟨rfl, rfl⟩ := H
          have hnb31 := NB201_195.out
          have hnc31 := NB195_201.out
          have hnb32 := NB201_196.out
          have hnc32 := NB196_201.out
          have hcz33_0 : wr.cell? ⟨gb201, 0, none⟩ = some (u202000) := (blk_cell BK201.out 0).trans rfl
          have hcz33_1 : wr.cell? ⟨gb201, 1, none⟩ = some (.slice none 0 0) := (blk_cell BK201.out 1).trans rfl
          have hfz33_0 := blk_frozen BK201.out 0
          have hfz33_1 := blk_frozen BK201.out 1
          obtain ⟨Ao34, co34, eo34⟩ := Kd.R_slice HO_202000.out
          subst eo34
          have hnb35 := NB196_195.out
          have hnc35 := NB195_196.out
          have hcz36_0 : wr.cell? ⟨gb196, 0, none⟩ = some (.slice none 0 0) := (blk_cell BK196.out 0).trans rfl
          have hcz36_1 : wr.cell? ⟨gb196, 1, none⟩ = some (.slice none 0 0) := (blk_cell BK196.out 1).trans rfl
          have hfz36_0 := blk_frozen BK196.out 0
          have hfz36_1 := blk_frozen BK196.out 1
          go_wp2
          refine bodyPost_ret (results_cell_row rfl _ _ gb196 29 #[.slice Ao34 x202000_1.length co34, .slice none 0 0] (0, 0) _ rfl (by (with_reducible repeat (first | refine blk_drewN ?_ _ | refine blk_drew ?_ | refine blk_alloc ?_ _)); refine blk_put (cs := #[.slice Ao34 x202000_1.length co34, .slice none 0 0]) ?_ 1 _ rfl; (with_reducible repeat (first | refine blk_drewN ?_ _ | refine blk_drew ?_ | refine blk_alloc ?_ _)); refine blk_put (cs := #[.slice none 0 0, .slice none 0 0]) ?_ 0 _ rfl; (with_reducible repeat (first | refine blk_drewN ?_ _ | refine blk_drew ?_ | refine blk_alloc ?_ _)); exact BK196.out) Try.underlying29 rfl (by kernel_rfl)) rfl ?_
          exact ⟨_, _, by first | rfl | (simp [errW_none, errW_some] <;> rfl) | (simp [*, errW_none, errW_some] <;> rfl), by (with_reducible repeat (first | apply Kd.R_alloc | apply Kd.R_drewN | apply Kd.R_drew)); exact Kd.R_mono (Kd.R_far (p := ⟨gb196, 1, none⟩) (Kd.R_far (p := ⟨gb196, 0, none⟩) (Kd.R_types HO_202000.out BK196.out (by decide)) (fun _ hk => hk.2) (.slice Ao34 x202000_1.length co34)) (fun _ hk => hk.2) (.slice none 0 0)) (fun _ hk => trivial), by first | exact Kd.S_nil _ _ _ _ _ | exact Kd.N_nil _ _ _ _ _ | exact Kd.V_nil _ _ _ _ _ | exact Kd.Q_nil _ _ _ _ _ | exact Kd.R_nil _ _ _ _ _, by repeat (first | (with_reducible first | exact HB.out | apply below_alloc | apply pw_below_drewN | apply below_drew1 | refine below_set ?_ GE195.out | refine below_set ?_ GE196.out | refine below_set ?_ GE201.out) | exact HB.out)⟩
  · replace c3 := Bool.eq_false_iff.mpr c3
    subst c3
    have H1 : (some (([] : List Int), ([] : List (S62)))) = some (r1, r2) := by rw [if_neg (show ¬ (false = true) by decide)] at H; exact H
    clear H
    have H := H1
    clear H1
    simp only [Option.some.injEq, Prod.mk.injEq] at H
    obtain ⟨rfl, rfl⟩ := H
    go_enter Try.func34, Try.ntmps34
    go_wp2_with (first | ((with_reducible refine gate_dst (N := 1) rfl ?_); refine box_event ?hg (N := 1) ?hd (cs := #[.slice A0_0 l0_0.length c0_0, .slice A0_1 l0_1.length c0_1]) (t := 29) ?hr ?_; (case hd => rfl); (case hg => rfl); (case hr => first | (go_simp; done) | (go_simp; rfl)); intro gb195 hg w37 hbox hb; have n0_ := Aside0.mk (below_step (by repeat (first | (with_reducible first | exact HB.out | apply below_alloc | apply pw_below_drewN | apply below_drew1) | exact HB.out)) hb); have n1_ := Aside0.mk (hbox); have n2_ := Aside0.mk ((by rw [hg]; exact (below_size (by repeat (first | (with_reducible first | exact HB.out | apply below_alloc | apply pw_below_drewN | apply below_drew1) | exact HB.out))) : w.heap.size ≤ gb195)); have n3_ := Aside0.mk ((by rw [hg]; exact (below_size (by repeat (first | (with_reducible first | exact HB.out | apply below_alloc | apply pw_below_drewN | apply below_drew1) | exact HB.out))) : w.heap.size ≤ gb195)); clear HB; have HB := n0_; have BK195 := n1_; have GW195 := n2_; have GE195 := n3_; clear n0_ n1_ n2_ n3_; clear hb hbox hg) | ((with_reducible refine gate_dst (N := 2) rfl ?_); refine box_event ?hg (N := 2) ?hd (cs := #[.slice none 0 0, .slice none 0 0]) (t := 29) ?hr ?_; (case hd => rfl); (case hg => rfl); (case hr => first | (go_simp; done) | (go_simp; rfl)); intro gb196 hg w38 hbox hb; have n0_ := Aside0.mk (blk_below (g := gb195) (o := .cells #[.slice A0_0 l0_0.length c0_0, .slice A0_1 l0_1.length c0_1] 29 (0, 0)) (by (with_reducible repeat (first | refine blk_drewN ?_ _ | refine blk_drew ?_ | refine blk_alloc ?_ _)); exact BK195.out) hb); have n1_ := Aside0.mk (below_step (by repeat (first | (with_reducible first | exact HB.out | apply below_alloc | apply pw_below_drewN | apply below_drew1 | refine below_set ?_ GE195.out) | exact HB.out)) hb); have n2_ := Aside0.mk (hbox); have n3_ := Aside0.mk ((by rw [hg]; exact (below_size (by repeat (first | (with_reducible first | exact HB.out | apply below_alloc | apply pw_below_drewN | apply below_drew1 | refine below_set ?_ GE195.out) | exact HB.out))) : w.heap.size ≤ gb196)); have n4_ := Aside0.mk ((by rw [hg]; exact (below_size (by repeat (first | (with_reducible first | exact HB.out | apply below_alloc | apply pw_below_drewN | apply below_drew1 | refine below_set ?_ GE195.out) | exact HB.out))) : w.heap.size ≤ gb196)); have n5_ := Aside0.mk ((by rw [hg]; exact Nat.ne_of_lt (blk_lt (g := gb195) (o := .cells #[.slice A0_0 l0_0.length c0_0, .slice A0_1 l0_1.length c0_1] 29 (0, 0)) (by (with_reducible repeat (first | refine blk_drewN ?_ _ | refine blk_drew ?_ | refine blk_alloc ?_ _)); exact BK195.out)) : gb195 ≠ gb196)); have n6_ := Aside0.mk ((by rw [hg]; exact Nat.ne_of_gt (blk_lt (g := gb195) (o := .cells #[.slice A0_0 l0_0.length c0_0, .slice A0_1 l0_1.length c0_1] 29 (0, 0)) (by (with_reducible repeat (first | refine blk_drewN ?_ _ | refine blk_drew ?_ | refine blk_alloc ?_ _)); exact BK195.out)) : gb196 ≠ gb195)); clear BK195; clear HB; have BK195 := n0_; have HB := n1_; have BK196 := n2_; have GW196 := n3_; have GE196 := n4_; have NB195_196 := n5_; have NB196_195 := n6_; clear n0_ n1_ n2_ n3_ n4_ n5_ n6_; clear hb hbox hg; have hnb39 := NB195_196.out; have hnc39 := NB196_195.out; have hcz40_0 : w38.cell? ⟨gb195, 0, none⟩ = some (.slice A0_0 l0_0.length c0_0) := (blk_cell BK195.out 0).trans rfl; have hcz40_1 : w38.cell? ⟨gb195, 1, none⟩ = some (.slice A0_1 l0_1.length c0_1) := (blk_cell BK195.out 1).trans rfl; have hfz40_0 := blk_frozen BK195.out 0; have hfz40_1 := blk_frozen BK195.out 1) | ((with_reducible refine gate_callee (f := 28) rfl ?_); refine goesL_ (some 7) rfl rfl Try.func28 (by kernel_rfl) rfl #[.agg #[.slice A0_0 l0_0.length c0_0, .slice A0_1 l0_1.length c0_1]] rfl (by (try simp only [List.map_toArray, List.map_cons, List.map_nil]); first | done | rfl | (simp only [List.length_drop, List.length_take]; rfl)) ?_; (with_reducible refine (impl_ValidDisk.calls k _ _ l0_0 _ _ l0_1 false _ ?side1 ?side2 ?side3 ?side4 A2.out).mono ?_); (case side1 => repeat (first | exact (Kd.C_below HR0_0.out HB.out) | (with_reducible refine Kd.C_alloc ?_ _) | (with_reducible refine Kd.C_drewN ?_ _) | (with_reducible refine Kd.C_drew ?_))); (case side2 => exact HC0_0.out); (case side3 => repeat (first | exact (Kd.C_below HR0_1.out HB.out) | (with_reducible refine Kd.C_alloc ?_ _) | (with_reducible refine Kd.C_drewN ?_ _) | (with_reducible refine Kd.C_drew ?_))); (case side4 => exact HC0_1.out); rintro e w41 ⟨rfl, hb⟩; refine ⟨_, rfl, ?_⟩; have n0_ := Aside0.mk (blk_below (g := gb195) (o := .cells #[.slice A0_0 l0_0.length c0_0, .slice A0_1 l0_1.length c0_1] 29 (0, 0)) (by (with_reducible repeat (first | refine blk_drewN ?_ _ | refine blk_drew ?_ | refine blk_alloc ?_ _)); exact BK195.out) hb); have n1_ := Aside0.mk (blk_below (g := gb196) (o := .cells #[.slice none 0 0, .slice none 0 0] 29 (0, 0)) (by (with_reducible repeat (first | refine blk_drewN ?_ _ | refine blk_drew ?_ | refine blk_alloc ?_ _)); exact BK196.out) hb); have n2_ := Aside0.mk (below_step (by repeat (first | (with_reducible first | exact HB.out | apply below_alloc | apply pw_below_drewN | apply below_drew1 | refine below_set ?_ GE195.out | refine below_set ?_ GE196.out) | exact HB.out)) hb); clear BK195; clear BK196; clear HB; have BK195 := n0_; have BK196 := n1_; have HB := n2_; clear n0_ n1_ n2_; (try clear hb); (try clear hb2); (try clear hk); (try clear hi); have hcz42_0 : w41.cell? ⟨gb196, 0, none⟩ = some (.slice none 0 0) := (blk_cell BK196.out 0).trans rfl; have hcz42_1 : w41.cell? ⟨gb196, 1, none⟩ = some (.slice none 0 0) := (blk_cell BK196.out 1).trans rfl; have hfz42_0 := blk_frozen BK196.out 0; have hfz42_1 := blk_frozen BK196.out 1))
    refine bodyPost_ret (results_cell_row rfl _ _ gb196 29 #[.slice none 0 0, .slice none 0 0] (0, 0) _ rfl (by (with_reducible repeat (first | refine blk_drewN ?_ _ | refine blk_drew ?_ | refine blk_alloc ?_ _)); refine blk_put (cs := #[.slice none 0 0, .slice none 0 0]) ?_ 1 _ rfl; (with_reducible repeat (first | refine blk_drewN ?_ _ | refine blk_drew ?_ | refine blk_alloc ?_ _)); refine blk_put (cs := #[.slice none 0 0, .slice none 0 0]) ?_ 0 _ rfl; (with_reducible repeat (first | refine blk_drewN ?_ _ | refine blk_drew ?_ | refine blk_alloc ?_ _)); exact BK196.out) Try.underlying29 rfl (by kernel_rfl)) rfl ?_
    exact ⟨_, _, by first | rfl | (simp [errW_none, errW_some] <;> rfl) | (simp [*, errW_none, errW_some] <;> rfl), by first | exact Kd.R_nil _ _ _ _ _ | exact Kd.N_nil _ _ _ _ _ | exact Kd.V_nil _ _ _ _ _ | exact Kd.Q_nil _ _ _ _ _ | exact Kd.S_nil _ _ _ _ _, by first | exact Kd.S_nil _ _ _ _ _ | exact Kd.N_nil _ _ _ _ _ | exact Kd.V_nil _ _ _ _ _ | exact Kd.Q_nil _ _ _ _ _ | exact Kd.R_nil _ _ _ _ _, by repeat (first | (with_reducible first | exact HB.out | apply below_alloc | apply pw_below_drewN | apply below_drew1 | refine below_set ?_ GE195.out | refine below_set ?_ GE196.out) | exact HB.out)⟩

/-! ### impl_DiskImage: function 32 -/
def impl_DiskImage.f (k : Nat) (l0_0 : List Int) (l0_1 : List (S62)) : Option (List Int) := (impl_DiskFlush.f k l0_0 l0_1).bind fun bt206 => (some bt206.1)
theorem impl_DiskImage.mono : ∀ a0 a1 k, LeO (impl_DiskImage.f k a0 a1) (impl_DiskImage.f (k + 1) a0 a1) := by
  intro a0 a1 k
  unfold impl_DiskImage.f
  repeat' first
      | (with_reducible exact impl_DiskFlush.mono _ _ _)
      | (with_reducible exact LeO.refl _)
      | (with_reducible exact LeO.none _)
      | (with_reducible refine LeO.ite ?_ ?_)
      | (with_reducible refine LeO.bind ?_ (fun _ => ?_))
      | exact impl_DiskFlush.mono _ _ _
      | exact LeO.none _
      | refine LeO.ite ?_ ?_
      | refine LeO.bind ?_ (fun _ => ?_)
set_option maxHeartbeats 8000000 in
set_option maxRecDepth 100000 in
theorem impl_DiskImage.calls (k : Nat) (A0_0 : Option Addr) (c0_0 : Nat) (l0_0 : List Int) (A0_1 : Option Addr) (c0_1 : Nat) (l0_1 : List (S62)) (r : List Int) (w : World) (hr0_0 : Kd.C (Kd.int .u8) w A0_0 l0_0.length l0_0) (hc0_0 : l0_0.length ≤ c0_0) (hr0_1 : Kd.C k62 w A0_1 l0_1.length l0_1) (hc0_1 : l0_1.length ≤ c0_1) (h : impl_DiskImage.f k l0_0 l0_1 = some r) :
    Calls Try.prog 32 #[.agg #[.slice A0_0 l0_0.length c0_0, .slice A0_1 l0_1.length c0_1]] w fun e w' => ∃ v0_ : Value, e = .returned (v0_) ∧ Kd.R (Kd.int .u8) 5 w' w.heap.size (fun _ => True) v0_ r ∧ Below w.heap.size w w' := by
  have hfd : ∀ (u v : Value) (W : World), (Instr.field 29 (.agg #[u, v]) 0).run Try.prog W = .ok u W := fun _ _ _ => by kernel_rfl
  have hu29 := Try.underlying29
  have HR0_0 := Aside0.mk hr0_0
  have HC0_0 := Aside0.mk hc0_0
  clear hr0_0 hc0_0
  have HR0_1 := Aside0.mk hr0_1
  have HC0_1 := Aside0.mk hc0_1
  clear hr0_1 hc0_1
  have HB := Aside0.mk (Below.refl w.heap.size w)
  have H : ((impl_DiskFlush.f k l0_0 l0_1).bind fun bt206 => (some bt206.1)) = some r := h
  clear h
  replace H := Option.bind_eq_some_iff.mp H
  obtain ⟨⟨t206, t209⟩, A20, H⟩ := H
  replace H : (some t206) = some r := H
  have A2 := Aside0.mk A20
  clear A20
  obtain rfl := Option.some.inj H
  go_enter Try.func32, Try.ntmps32
  go_wp2_with (first | ((with_reducible refine gate_dst (N := 1) rfl ?_); refine box_event ?hg (N := 1) ?hd (cs := #[.slice A0_0 l0_0.length c0_0, .slice A0_1 l0_1.length c0_1]) (t := 29) ?hr ?_; (case hd => rfl); (case hg => rfl); (case hr => first | (go_simp; done) | (go_simp; rfl)); intro gb205 hg w3 hbox hb; have n0_ := Aside0.mk (below_step (by repeat (first | (with_reducible first | exact HB.out | apply below_alloc | apply pw_below_drewN | apply below_drew1) | exact HB.out)) hb); have n1_ := Aside0.mk (hbox); have n2_ := Aside0.mk ((by rw [hg]; exact (below_size (by repeat (first | (with_reducible first | exact HB.out | apply below_alloc | apply pw_below_drewN | apply below_drew1) | exact HB.out))) : w.heap.size ≤ gb205)); have n3_ := Aside0.mk ((by rw [hg]; exact (below_size (by repeat (first | (with_reducible first | exact HB.out | apply below_alloc | apply pw_below_drewN | apply below_drew1) | exact HB.out))) : w.heap.size ≤ gb205)); clear HB; have HB := n0_; have BK205 := n1_; have GW205 := n2_; have GE205 := n3_; clear n0_ n1_ n2_ n3_; clear hb hbox hg; have hcz4_0 : w3.cell? ⟨gb205, 0, none⟩ = some (.slice A0_0 l0_0.length c0_0) := (blk_cell BK205.out 0).trans rfl; have hcz4_1 : w3.cell? ⟨gb205, 1, none⟩ = some (.slice A0_1 l0_1.length c0_1) := (blk_cell BK205.out 1).trans rfl; have hfz4_0 := blk_frozen BK205.out 0; have hfz4_1 := blk_frozen BK205.out 1) | ((with_reducible refine gate_callee (f := 34) rfl ?_); refine goesL_ (some 4) rfl rfl Try.func34 (by kernel_rfl) rfl #[.agg #[.slice A0_0 l0_0.length c0_0, .slice A0_1 l0_1.length c0_1]] rfl (by (try simp only [List.map_toArray, List.map_cons, List.map_nil]); first | done | rfl | (simp only [List.length_drop, List.length_take]; rfl)) ?_; (with_reducible refine (impl_DiskFlush.calls k _ _ l0_0 _ _ l0_1 t206 t209 _ ?side1 ?side2 ?side3 ?side4 A2.out).mono ?_); (case side1 => repeat (first | exact (Kd.C_below HR0_0.out HB.out) | (with_reducible refine Kd.C_alloc ?_ _) | (with_reducible refine Kd.C_drewN ?_ _) | (with_reducible refine Kd.C_drew ?_))); (case side2 => exact HC0_0.out); (case side3 => repeat (first | exact (Kd.C_below HR0_1.out HB.out) | (with_reducible refine Kd.C_alloc ?_ _) | (with_reducible refine Kd.C_drewN ?_ _) | (with_reducible refine Kd.C_drew ?_))); (case side4 => exact HC0_1.out); rintro e w5 ⟨v207, v210, rfl, ho0, ho1, hb⟩; refine ⟨_, rfl, ?_⟩; have n0_ := Aside0.mk (Kd.R_lower ho0 (below_size (by repeat (first | (with_reducible first | exact HB.out | apply below_alloc | apply pw_below_drewN | apply below_drew1 | refine below_set ?_ GE205.out) | exact HB.out)))); have n1_ := Aside0.mk (Kd.S_lower ho1 (below_size (by repeat (first | (with_reducible first | exact HB.out | apply below_alloc | apply pw_below_drewN | apply below_drew1 | refine below_set ?_ GE205.out) | exact HB.out)))); have n2_ := Aside0.mk (blk_below (g := gb205) (o := .cells #[.slice A0_0 l0_0.length c0_0, .slice A0_1 l0_1.length c0_1] 29 (0, 0)) (by (with_reducible repeat (first | refine blk_drewN ?_ _ | refine blk_drew ?_ | refine blk_alloc ?_ _)); exact BK205.out) hb); have n3_ := Aside0.mk (below_step (by repeat (first | (with_reducible first | exact HB.out | apply below_alloc | apply pw_below_drewN | apply below_drew1 | refine below_set ?_ GE205.out) | exact HB.out)) hb); clear BK205; clear HB; have HO208 := n0_; have HO211 := n1_; have BK205 := n2_; have HB := n3_; clear n0_ n1_ n2_ n3_; (try clear hb); (try clear hb2); (try clear hk); (try clear hi); (try clear ho0); (try clear ho1)))
  go_ret
  exact ⟨_, by first | rfl | (simp [errW_none, errW_some] <;> rfl) | (simp [*, errW_none, errW_some] <;> rfl), by (with_reducible repeat (first | apply Kd.R_alloc | apply Kd.R_drewN | apply Kd.R_drew)); exact HO208.out, by repeat (first | (with_reducible first | exact HB.out | apply below_alloc | apply pw_below_drewN | apply below_drew1 | refine below_set ?_ GE205.out) | exact HB.out)⟩

/-! ### laws_FnExactDiskImage: function 7 -/
section
open Go.Proofs.Ytdhjhadcadcceaa.Hld
def laws_FnExactDiskImage.f (k : Nat) (l0_0 : List Int) (l0_1 : List (S112)) : Option Bool := (laws_szDisk.f k l0_0 l0_1 1048576).bind fun t13 => (if t13 < 0 then (some true) else ((laws_toDisk.f k l0_0 l0_1).bind fun b3 => ((spec_DiskImage.f k b3.1 b3.2).bind fun x18 => ((laws_toDisk.f k l0_0 l0_1).bind fun b5 => ((impl_DiskImage.f k b5.1 b5.2).bind fun x22 => ((laws_eqByteS.f k x22 x18).bind fun t25 => (if t25 = true then ((laws_toDisk.f k l0_0 l0_1).bind fun b8 => ((laws_eqDisk.f k b5.1 b5.2 b8.1 b8.2).bind fun t30 => (if t30 = true then ((laws_markDisk.f k b5.1 b5.2 1).bind fun b10 => (if b10.1 < 0 then none else ((laws_eqByteS.f k x22 x18).bind fun t40 => (if t40 = true then ((laws_markByteS.f k x22 1).bind fun b13 => ((laws_heldByteS.f k b13.2 1).bind fun t48 => (if t48 < 0 then none else (if t48 = b13.1 then ((laws_toDisk.f k l0_0 l0_1).bind fun b17 => ((impl_DiskImage.f k b17.1 b17.2).bind fun x56 => ((laws_eqByteS.f k x56 x18).bind fun t59 => (if t59 = true then ((laws_heldByteS.f k b13.2 1).bind fun t63 => (if t63 < 0 then none else (if t63 = b13.1 then (some true) else none))) else none)))) else none)))) else none)))) else none))) else none)))))))
theorem laws_FnExactDiskImage.mono : ∀ a0_ a1_ k, LeO (laws_FnExactDiskImage.f k a0_ a1_) (laws_FnExactDiskImage.f (k + 1) a0_ a1_) := by
  intro a0_ a1_ k
  unfold laws_FnExactDiskImage.f
  repeat' first
    | (with_reducible exact LeO.refl _)
    | (with_reducible exact LeO.none _)
    | (with_reducible refine LeO.ite ?_ ?_)
    | (with_reducible refine LeO.bind ?_ (fun _ => ?_))
    | exact impl_DiskImage.mono _ _ _
    | exact laws_eqByteS.mono _ _ _
    | exact laws_eqDisk.mono _ _ _ _ _
    | exact laws_heldByteS.mono _ _ _
    | exact laws_markByteS.mono _ _ _
    | exact laws_markDisk.mono _ _ _ _
    | exact laws_szDisk.mono _ _ _ _
    | exact laws_toDisk.mono _ _ _
    | exact spec_DiskImage.mono _ _ _
set_option maxHeartbeats 16000000 in
set_option maxRecDepth 100000 in
theorem laws_FnExactDiskImage.calls (k : Nat) (A0_0 : Option Addr) (c0_0 : Nat) (l0_0 : List Int) (A0_1 : Option Addr) (c0_1 : Nat) (l0_1 : List (S112)) (r : Bool) (w : World) (hr0_0 : Kd.C (Kd.int .u8) w A0_0 l0_0.length l0_0) (hc0_0 : l0_0.length ≤ c0_0) (hr0_1 : Kd.C k112 w A0_1 l0_1.length l0_1) (hc0_1 : l0_1.length ≤ c0_1) (h : laws_FnExactDiskImage.f k l0_0 l0_1 = some r) (hrt : Aside0 (r = true)) :
    Calls Try.prog 7 #[.agg #[.slice A0_0 l0_0.length c0_0, .slice A0_1 l0_1.length c0_1]] w fun e w' => e = .returned (.bool r) ∧ Below w.heap.size w w' := by
  have hu29 := Try.underlying29
  have hu36 := Try.underlying36
  obtain rfl := hrt.out
  clear hrt
  have HR0_0 := Aside0.mk hr0_0
  have HC0_0 := Aside0.mk hc0_0
  clear hr0_0 hc0_0
  have HR0_1 := Aside0.mk hr0_1
  have HC0_1 := Aside0.mk hc0_1
  clear hr0_1 hc0_1
  have HB_0 := Aside0.mk (Below.refl w.heap.size w)
  have H := h
  clear h
  unfold laws_FnExactDiskImage.f at H
  obtain ⟨t13, J1_, H⟩ := Option.bind_eq_some_iff.mp H
  (try dsimp only at H)
  have J1 := Aside0.mk J1_
  clear J1_
  by_cases cn2 : t13 < 0
  case pos =>
    have c2b0 : decide (t13 < 0) = true := decide_eq_true cn2
    clear cn2 H
    go_enter Try.func7, Try.ntmps7
    go_wp2_with (first
          | ((with_reducible refine gate_dst (N := 1) rfl ?_); refine box_event ?hg (N := 1) ?hd (cs := #[.slice A0_0 l0_0.length c0_0, .slice A0_1 l0_1.length c0_1]) (t := 36) ?hr ?_; (case hd => rfl); (case hg => rfl); (case hr => first | (go_simp; done) | (go_simp; rfl)); intro gb1 hgb w1 hbox hb; have G1 := Aside0.mk (show w.heap.size ≤ gb1 ∧ gb1 < w1.heap.size from ⟨by omega, blk_lt hbox⟩); have Fb1_1 := Aside0.mk (Held.blk hbox); have HB_1 := Aside0.mk (below_step HB_0.out hb); have Z_1 := Aside0.mk (show w.heap.size ≤ w1.heap.size from hb.size); clear HB_0 hb hbox hgb; have z1_0_1 : w1.cell? ⟨gb1, 0, none⟩ = some (.slice A0_0 l0_0.length c0_0) := (blk_cell (show w1.heap[gb1]? = some (.cells #[.slice A0_0 l0_0.length c0_0, .slice A0_1 l0_1.length c0_1] 36 (0, 0)) from Fb1_1.out.now) 0).trans rfl; have z1_1_1 : w1.cell? ⟨gb1, 1, none⟩ = some (.slice A0_1 l0_1.length c0_1) := (blk_cell (show w1.heap[gb1]? = some (.cells #[.slice A0_0 l0_0.length c0_0, .slice A0_1 l0_1.length c0_1] 36 (0, 0)) from Fb1_1.out.now) 1).trans rfl)
          | ((with_reducible refine gate_callee (f := 25) rfl ?_); refine goesL_ (some 13) rfl rfl Try.func25 (by kernel_rfl) rfl #[.agg #[.slice A0_0 l0_0.length c0_0, .slice A0_1 l0_1.length c0_1], .int .i64 1048576] rfl (by (try simp only [List.map_toArray, List.map_cons, List.map_nil]); first | done | rfl) ?_; (with_reducible refine (laws_szDisk.calls k A0_0 c0_0 l0_0 A0_1 c0_1 l0_1 1048576 t13 _ (Kd.C_below HR0_0.out HB_1.out) (HC0_0.out) (Kd.C_below HR0_1.out HB_1.out) (HC0_1.out) J1.out).mono ?_); rintro e w2 ⟨rfl, hb⟩; refine ⟨_, rfl, ?_⟩; have Fb1_2 := Aside0.mk (Fb1_1.out.below hb); have HB_2 := Aside0.mk (below_step HB_1.out hb); have Z_2 := Aside0.mk (show w1.heap.size ≤ w2.heap.size from hb.size); clear Fb1_1 HB_1 z1_0_1 z1_1_1 hb; have z1_0_2 : w2.cell? ⟨gb1, 0, none⟩ = some (.slice A0_0 l0_0.length c0_0) := (blk_cell (show w2.heap[gb1]? = some (.cells #[.slice A0_0 l0_0.length c0_0, .slice A0_1 l0_1.length c0_1] 36 (0, 0)) from Fb1_2.out.now) 0).trans rfl; have z1_1_2 : w2.cell? ⟨gb1, 1, none⟩ = some (.slice A0_1 l0_1.length c0_1) := (blk_cell (show w2.heap[gb1]? = some (.cells #[.slice A0_0 l0_0.length c0_0, .slice A0_1 l0_1.length c0_1] 36 (0, 0)) from Fb1_2.out.now) 1).trans rfl)
          | fail)
    go_ret
    exact ⟨rfl, HB_2.out⟩
  rw [if_neg cn2] at H
  have c2b0 : decide (t13 < 0) = false := decide_eq_false cn2
  clear cn2
  obtain ⟨⟨x17, y17⟩, J3_, H⟩ := Option.bind_eq_some_iff.mp H
  (try dsimp only at H)
  have J3 := Aside0.mk J3_
  clear J3_
  obtain ⟨x18, J4_, H⟩ := Option.bind_eq_some_iff.mp H
  (try dsimp only at H)
  have J4 := Aside0.mk J4_
  clear J4_
  obtain ⟨⟨x20, y20⟩, J5_, H⟩ := Option.bind_eq_some_iff.mp H
  (try dsimp only at H)
  have J5 := Aside0.mk J5_
  clear J5_
  obtain ⟨x22, J6_, H⟩ := Option.bind_eq_some_iff.mp H
  (try dsimp only at H)
  have J6 := Aside0.mk J6_
  clear J6_
  obtain ⟨t25, J7_, H⟩ := Option.bind_eq_some_iff.mp H
  (try dsimp only at H)
  have J7 := Aside0.mk J7_
  clear J7_
  by_cases ct : t25 = true
  case neg => rw [if_neg ct] at H; exact absurd H (by simp)
  rw [if_pos ct] at H
  subst ct
  obtain ⟨⟨x29, y29⟩, J8_, H⟩ := Option.bind_eq_some_iff.mp H
  (try dsimp only at H)
  have J8 := Aside0.mk J8_
  clear J8_
  obtain ⟨t30, J9_, H⟩ := Option.bind_eq_some_iff.mp H
  (try dsimp only at H)
  have J9 := Aside0.mk J9_
  clear J9_
  by_cases ct : t30 = true
  case neg => rw [if_neg ct] at H; exact absurd H (by simp)
  rw [if_pos ct] at H
  subst ct
  obtain ⟨⟨t34, x34, y34⟩, J10_, H⟩ := Option.bind_eq_some_iff.mp H
  (try dsimp only at H)
  have J10 := Aside0.mk J10_
  clear J10_
  by_cases cn11 : t34 < 0
  case pos => rw [if_pos cn11] at H; exact absurd H (by simp)
  rw [if_neg cn11] at H
  have c11b0 : decide (t34 < 0) = false := decide_eq_false cn11
  clear cn11
  obtain ⟨t40, J12_, H⟩ := Option.bind_eq_some_iff.mp H
  (try dsimp only at H)
  have J12 := Aside0.mk J12_
  clear J12_
  by_cases ct : t40 = true
  case neg => rw [if_neg ct] at H; exact absurd H (by simp)
  rw [if_pos ct] at H
  subst ct
  obtain ⟨⟨t45, x45⟩, J13_, H⟩ := Option.bind_eq_some_iff.mp H
  (try dsimp only at H)
  have J13 := Aside0.mk J13_
  clear J13_
  obtain ⟨t48, J14_, H⟩ := Option.bind_eq_some_iff.mp H
  (try dsimp only at H)
  have J14 := Aside0.mk J14_
  clear J14_
  by_cases cn15 : t48 < 0
  case pos => rw [if_pos cn15] at H; exact absurd H (by simp)
  rw [if_neg cn15] at H
  have c15b0 : decide (t48 < 0) = false := decide_eq_false cn15
  clear cn15
  by_cases cq16 : t48 = t45
  case neg => rw [if_neg cq16] at H; exact absurd H (by simp)
  rw [if_pos cq16] at H
  have c16b0 : (t48 == t45) = true := beq_iff_eq.mpr cq16
  have c16b1 : (t48 != t45) = false := bne_eq_false_iff_eq.mpr cq16
  clear cq16
  obtain ⟨⟨x55, y55⟩, J17_, H⟩ := Option.bind_eq_some_iff.mp H
  (try dsimp only at H)
  have J17 := Aside0.mk J17_
  clear J17_
  obtain ⟨x56, J18_, H⟩ := Option.bind_eq_some_iff.mp H
  (try dsimp only at H)
  have J18 := Aside0.mk J18_
  clear J18_
  obtain ⟨t59, J19_, H⟩ := Option.bind_eq_some_iff.mp H
  (try dsimp only at H)
  have J19 := Aside0.mk J19_
  clear J19_
  by_cases ct : t59 = true
  case neg => rw [if_neg ct] at H; exact absurd H (by simp)
  rw [if_pos ct] at H
  subst ct
  obtain ⟨t63, J20_, H⟩ := Option.bind_eq_some_iff.mp H
  (try dsimp only at H)
  have J20 := Aside0.mk J20_
  clear J20_
  by_cases cn21 : t63 < 0
  case pos => rw [if_pos cn21] at H; exact absurd H (by simp)
  rw [if_neg cn21] at H
  have c21b0 : decide (t63 < 0) = false := decide_eq_false cn21
  clear cn21
  by_cases cq22 : t63 = t45
  case neg => rw [if_neg cq22] at H; exact absurd H (by simp)
  rw [if_pos cq22] at H
  have c22b0 : (t63 == t45) = true := beq_iff_eq.mpr cq22
  have c22b1 : (t63 != t45) = false := bne_eq_false_iff_eq.mpr cq22
  clear cq22
  clear H
  go_enter Try.func7, Try.ntmps7
  try go_wp2_with (first
      | ((with_reducible refine gate_dst (N := 1) rfl ?_); refine box_event ?hg (N := 1) ?hd (cs := #[.slice A0_0 l0_0.length c0_0, .slice A0_1 l0_1.length c0_1]) (t := 36) ?hr ?_; (case hd => rfl); (case hg => rfl); (case hr => first | (go_simp; done) | (go_simp; rfl)); intro gb1 hgb w1 hbox hb; have G1 := Aside0.mk (show w.heap.size ≤ gb1 ∧ gb1 < w1.heap.size from ⟨by omega, blk_lt hbox⟩); have Fb1_1 := Aside0.mk (Held.blk hbox); have HB_1 := Aside0.mk (below_step HB_0.out hb); have Z_1 := Aside0.mk (show w.heap.size ≤ w1.heap.size from hb.size); clear HB_0 hb hbox hgb; have z1_0_1 : w1.cell? ⟨gb1, 0, none⟩ = some (.slice A0_0 l0_0.length c0_0) := (blk_cell (show w1.heap[gb1]? = some (.cells #[.slice A0_0 l0_0.length c0_0, .slice A0_1 l0_1.length c0_1] 36 (0, 0)) from Fb1_1.out.now) 0).trans rfl; have z1_1_1 : w1.cell? ⟨gb1, 1, none⟩ = some (.slice A0_1 l0_1.length c0_1) := (blk_cell (show w1.heap[gb1]? = some (.cells #[.slice A0_0 l0_0.length c0_0, .slice A0_1 l0_1.length c0_1] 36 (0, 0)) from Fb1_1.out.now) 1).trans rfl)
      | ((with_reducible refine gate_callee (f := 25) rfl ?_); refine goesL_ (some 13) rfl rfl Try.func25 (by kernel_rfl) rfl #[.agg #[.slice A0_0 l0_0.length c0_0, .slice A0_1 l0_1.length c0_1], .int .i64 1048576] rfl (by (try simp only [List.map_toArray, List.map_cons, List.map_nil]); first | done | rfl) ?_; (with_reducible refine (laws_szDisk.calls k A0_0 c0_0 l0_0 A0_1 c0_1 l0_1 1048576 t13 _ (Kd.C_below HR0_0.out HB_1.out) (HC0_0.out) (Kd.C_below HR0_1.out HB_1.out) (HC0_1.out) J1.out).mono ?_); rintro e w2 ⟨rfl, hb⟩; refine ⟨_, rfl, ?_⟩; have Fb1_2 := Aside0.mk (Fb1_1.out.below hb); have HB_2 := Aside0.mk (below_step HB_1.out hb); have Z_2 := Aside0.mk (show w1.heap.size ≤ w2.heap.size from hb.size); clear Fb1_1 HB_1 z1_0_1 z1_1_1 hb; have z1_0_2 : w2.cell? ⟨gb1, 0, none⟩ = some (.slice A0_0 l0_0.length c0_0) := (blk_cell (show w2.heap[gb1]? = some (.cells #[.slice A0_0 l0_0.length c0_0, .slice A0_1 l0_1.length c0_1] 36 (0, 0)) from Fb1_2.out.now) 0).trans rfl; have z1_1_2 : w2.cell? ⟨gb1, 1, none⟩ = some (.slice A0_1 l0_1.length c0_1) := (blk_cell (show w2.heap[gb1]? = some (.cells #[.slice A0_0 l0_0.length c0_0, .slice A0_1 l0_1.length c0_1] 36 (0, 0)) from Fb1_2.out.now) 1).trans rfl)
      | ((with_reducible refine gate_callee (f := 27) rfl ?_); refine goesL_ (some 17) rfl rfl Try.func27 (by kernel_rfl) rfl #[.agg #[.slice A0_0 l0_0.length c0_0, .slice A0_1 l0_1.length c0_1]] rfl (by (try simp only [List.map_toArray, List.map_cons, List.map_nil]); first | done | rfl) ?_; (with_reducible refine (laws_toDisk.calls k A0_0 c0_0 l0_0 A0_1 c0_1 l0_1 x17 y17 _ (Kd.C_below HR0_0.out HB_2.out) (HC0_0.out) (Kd.C_below HR0_1.out HB_2.out) (HC0_1.out) J3.out).mono ?_); rintro e w3 ⟨v_, u_, rfl, ho0, ho1, hb⟩; have htw := Two.of (ok' := fun _ => True) rfl ho0 (Kd.S_mono ho1 (fun _ h_ => ⟨trivial, h_⟩)); obtain ⟨U17, cu17, V17, cv17, rfl, rfl⟩ := Two.slices htw; have hrw := Two.held (b := w.heap.size) htw (Below.size HB_2.out); refine ⟨_, rfl, ?_⟩; have Fo17_3 := Aside0.mk hrw; clear hrw; clear ho0 ho1 htw; have Fb1_3 := Aside0.mk (Fb1_2.out.below hb); have HB_3 := Aside0.mk (below_step HB_2.out hb); have Z_3 := Aside0.mk (show w2.heap.size ≤ w3.heap.size from hb.size); clear Fb1_2 HB_2 z1_0_2 z1_1_2 hb; have z1_0_3 : w3.cell? ⟨gb1, 0, none⟩ = some (.slice A0_0 l0_0.length c0_0) := (blk_cell (show w3.heap[gb1]? = some (.cells #[.slice A0_0 l0_0.length c0_0, .slice A0_1 l0_1.length c0_1] 36 (0, 0)) from Fb1_3.out.now) 0).trans rfl; have z1_1_3 : w3.cell? ⟨gb1, 1, none⟩ = some (.slice A0_1 l0_1.length c0_1) := (blk_cell (show w3.heap[gb1]? = some (.cells #[.slice A0_0 l0_0.length c0_0, .slice A0_1 l0_1.length c0_1] 36 (0, 0)) from Fb1_3.out.now) 1).trans rfl)
      | ((with_reducible refine gate_callee (f := 31) rfl ?_); refine goesL_ (some 18) rfl rfl Try.func31 (by kernel_rfl) rfl #[.agg #[.slice U17 x17.length cu17, .slice V17 y17.length cv17]] rfl (by (try simp only [List.map_toArray, List.map_cons, List.map_nil]); first | done | rfl) ?_; (with_reducible refine (spec_DiskImage.calls k U17 cu17 x17 V17 cv17 y17 x18 _ (Two.c1 (Fo17_3.out.now)) (Two.l1 (Fo17_3.out.now)) (Two.c2 (Fo17_3.out.now)) (Two.l2 (Fo17_3.out.now)) J4.out).mono ?_); rintro e w4 ⟨v_, rfl, ho0, hb⟩; have hrw := Held.row (b := w.heap.size) ho0 hb.size (Below.size HB_3.out); obtain ⟨U18, cu18, rfl⟩ := Kd.R_slice ho0; refine ⟨_, rfl, ?_⟩; have Fo18_4 := Aside0.mk hrw; clear hrw; clear ho0; have Fb1_4 := Aside0.mk (Fb1_3.out.below hb); have Fo17_4 := Aside0.mk (Fo17_3.out.below hb); have HB_4 := Aside0.mk (below_step HB_3.out hb); have Z_4 := Aside0.mk (show w3.heap.size ≤ w4.heap.size from hb.size); clear Fb1_3 Fo17_3 HB_3 z1_0_3 z1_1_3 hb; have z1_0_4 : w4.cell? ⟨gb1, 0, none⟩ = some (.slice A0_0 l0_0.length c0_0) := (blk_cell (show w4.heap[gb1]? = some (.cells #[.slice A0_0 l0_0.length c0_0, .slice A0_1 l0_1.length c0_1] 36 (0, 0)) from Fb1_4.out.now) 0).trans rfl; have z1_1_4 : w4.cell? ⟨gb1, 1, none⟩ = some (.slice A0_1 l0_1.length c0_1) := (blk_cell (show w4.heap[gb1]? = some (.cells #[.slice A0_0 l0_0.length c0_0, .slice A0_1 l0_1.length c0_1] 36 (0, 0)) from Fb1_4.out.now) 1).trans rfl)
      | ((with_reducible refine gate_callee (f := 27) rfl ?_); refine goesL_ (some 20) rfl rfl Try.func27 (by kernel_rfl) rfl #[.agg #[.slice A0_0 l0_0.length c0_0, .slice A0_1 l0_1.length c0_1]] rfl (by (try simp only [List.map_toArray, List.map_cons, List.map_nil]); first | done | rfl) ?_; (with_reducible refine (laws_toDisk.calls k A0_0 c0_0 l0_0 A0_1 c0_1 l0_1 x20 y20 _ (Kd.C_below HR0_0.out HB_4.out) (HC0_0.out) (Kd.C_below HR0_1.out HB_4.out) (HC0_1.out) J5.out).mono ?_); rintro e w5 ⟨v_, u_, rfl, ho0, ho1, hb⟩; have htw := Two.of (ok' := fun _ => True) rfl ho0 (Kd.S_mono ho1 (fun _ h_ => ⟨trivial, h_⟩)); obtain ⟨U20, cu20, V20, cv20, rfl, rfl⟩ := Two.slices htw; have hrw := Two.held (b := w.heap.size) htw (Below.size HB_4.out); refine ⟨_, rfl, ?_⟩; have Fo20_5 := Aside0.mk hrw; clear hrw; clear ho0 ho1 htw; have Fb1_5 := Aside0.mk (Fb1_4.out.below hb); have Fo17_5 := Aside0.mk (Fo17_4.out.below hb); have Fo18_5 := Aside0.mk (Fo18_4.out.below hb); have HB_5 := Aside0.mk (below_step HB_4.out hb); have Z_5 := Aside0.mk (show w4.heap.size ≤ w5.heap.size from hb.size); clear Fb1_4 Fo17_4 Fo18_4 HB_4 z1_0_4 z1_1_4 hb; have z1_0_5 : w5.cell? ⟨gb1, 0, none⟩ = some (.slice A0_0 l0_0.length c0_0) := (blk_cell (show w5.heap[gb1]? = some (.cells #[.slice A0_0 l0_0.length c0_0, .slice A0_1 l0_1.length c0_1] 36 (0, 0)) from Fb1_5.out.now) 0).trans rfl; have z1_1_5 : w5.cell? ⟨gb1, 1, none⟩ = some (.slice A0_1 l0_1.length c0_1) := (blk_cell (show w5.heap[gb1]? = some (.cells #[.slice A0_0 l0_0.length c0_0, .slice A0_1 l0_1.length c0_1] 36 (0, 0)) from Fb1_5.out.now) 1).trans rfl)
      | ((with_reducible refine gate_dst (N := 5) rfl ?_); refine box_event ?hg (N := 5) ?hd (cs := #[.slice none 0 0, .slice none 0 0]) (t := 29) ?hr ?_; (case hd => rfl); (case hg => rfl); (case hr => first | (go_simp; done) | (go_simp; rfl)); intro gb5 hgb w6 hbox hb; have G5 := Aside0.mk (show w5.heap.size ≤ gb5 ∧ gb5 < w6.heap.size from ⟨by omega, blk_lt hbox⟩); have Fb5_6 := Aside0.mk (Held.blk hbox); have Fb1_6 := Aside0.mk (Fb1_5.out.below hb); have Fo17_6 := Aside0.mk (Fo17_5.out.below hb); have Fo18_6 := Aside0.mk (Fo18_5.out.below hb); have Fo20_6 := Aside0.mk (Fo20_5.out.below hb); have HB_6 := Aside0.mk (below_step HB_5.out hb); have Z_6 := Aside0.mk (show w5.heap.size ≤ w6.heap.size from hb.size); clear Fb1_5 Fo17_5 Fo18_5 Fo20_5 HB_5 z1_0_5 z1_1_5 hb hbox hgb; have z1_0_6 : w6.cell? ⟨gb1, 0, none⟩ = some (.slice A0_0 l0_0.length c0_0) := (blk_cell (show w6.heap[gb1]? = some (.cells #[.slice A0_0 l0_0.length c0_0, .slice A0_1 l0_1.length c0_1] 36 (0, 0)) from Fb1_6.out.now) 0).trans rfl; have z1_1_6 : w6.cell? ⟨gb1, 1, none⟩ = some (.slice A0_1 l0_1.length c0_1) := (blk_cell (show w6.heap[gb1]? = some (.cells #[.slice A0_0 l0_0.length c0_0, .slice A0_1 l0_1.length c0_1] 36 (0, 0)) from Fb1_6.out.now) 1).trans rfl; have z5_0_6 : w6.cell? ⟨gb5, 0, none⟩ = some (.slice none 0 0) := (blk_cell (show w6.heap[gb5]? = some (.cells #[.slice none 0 0, .slice none 0 0] 29 (0, 0)) from Fb5_6.out.now) 0).trans rfl; have z5_1_6 : w6.cell? ⟨gb5, 1, none⟩ = some (.slice none 0 0) := (blk_cell (show w6.heap[gb5]? = some (.cells #[.slice none 0 0, .slice none 0 0] 29 (0, 0)) from Fb5_6.out.now) 1).trans rfl)
      | ((with_reducible refine gate_store (t := 29) (p := 5) rfl ?_); refine Box.store_cells (P := Try.prog) ?hg (t := 29) (p := .tmp 5) (x := .tmp 20) ?ho ?hn gb5 0 ?ha (u := .agg #[.slice U20 x20.length cu20, .slice V20 y20.length cv20]) ?hx [.slice U20 x20.length cu20, .slice V20 y20.length cv20] rfl (by kernel_rfl) (by intro q_ hq_; simp only [List.mem_cons, List.not_mem_nil, or_false] at hq_; rcases hq_ with rfl | rfl <;> rfl) #[.slice none 0 0, .slice none 0 0] #[.slice U20 x20.length cu20, .slice V20 y20.length cv20] (e := 29) (show w6.heap[gb5]? = some (.cells #[.slice none 0 0, .slice none 0 0] 29 (0, 0)) from Fb5_6.out.now) (by show 0 + 2 ≤ 2; decide) rfl ?_; (case ho => rfl); (case hg => rfl); (case hn => rfl); (case ha => first | rfl | (go_simp; done) | (go_simp; rfl)); (case hx => first | rfl | (go_simp; done) | (go_simp; rfl)); intro w7 hbox hgr; have n_ := Aside0.mk (Held.blk hbox); have Fb1_7 := Aside0.mk (Fb1_6.out.grown hgr (by have := Z_1.out; have := Z_2.out; have := Z_3.out; have := Z_4.out; have := Z_5.out; have := Z_6.out; have := G1.out; have := G5.out; omega)); have Fo17_7 := Aside0.mk (Fo17_6.out.grown hgr (by have := Z_1.out; have := Z_2.out; have := Z_3.out; have := Z_4.out; have := Z_5.out; have := Z_6.out; have := G1.out; have := G5.out; omega)); have Fo18_7 := Aside0.mk (Fo18_6.out.grown hgr (by have := Z_1.out; have := Z_2.out; have := Z_3.out; have := Z_4.out; have := Z_5.out; have := Z_6.out; have := G1.out; have := G5.out; omega)); have Fo20_7 := Aside0.mk (Fo20_6.out.grown hgr (by have := Z_1.out; have := Z_2.out; have := Z_3.out; have := Z_4.out; have := Z_5.out; have := Z_6.out; have := G1.out; have := G5.out; omega)); have HB_7 := Aside0.mk (Box.below_grown HB_6.out hgr (by have hh_ := (Below.size HB_6.out); have := Z_1.out; have := Z_2.out; have := Z_3.out; have := Z_4.out; have := Z_5.out; have := Z_6.out; have := G1.out; have := G5.out; omega)); have Z_7 := Aside0.mk (show w6.heap.size ≤ w7.heap.size from grown_top hgr); clear Fb1_6 Fo17_6 Fo18_6 Fo20_6 Fb5_6 HB_6 z1_0_6 z1_1_6 z5_0_6 z5_1_6 hbox hgr; have Fb5_7 := n_; clear n_; have z1_0_7 : w7.cell? ⟨gb1, 0, none⟩ = some (.slice A0_0 l0_0.length c0_0) := (blk_cell (show w7.heap[gb1]? = some (.cells #[.slice A0_0 l0_0.length c0_0, .slice A0_1 l0_1.length c0_1] 36 (0, 0)) from Fb1_7.out.now) 0).trans rfl; have z1_1_7 : w7.cell? ⟨gb1, 1, none⟩ = some (.slice A0_1 l0_1.length c0_1) := (blk_cell (show w7.heap[gb1]? = some (.cells #[.slice A0_0 l0_0.length c0_0, .slice A0_1 l0_1.length c0_1] 36 (0, 0)) from Fb1_7.out.now) 1).trans rfl; have z5_0_7 : w7.cell? ⟨gb5, 0, none⟩ = some (.slice U20 x20.length cu20) := (blk_cell (show w7.heap[gb5]? = some (.cells #[.slice U20 x20.length cu20, .slice V20 y20.length cv20] 29 (0, 0)) from Fb5_7.out.now) 0).trans rfl; have z5_1_7 : w7.cell? ⟨gb5, 1, none⟩ = some (.slice V20 y20.length cv20) := (blk_cell (show w7.heap[gb5]? = some (.cells #[.slice U20 x20.length cu20, .slice V20 y20.length cv20] 29 (0, 0)) from Fb5_7.out.now) 1).trans rfl)
      | ((with_reducible refine gate_callee (f := 32) rfl ?_); refine goesL_ (some 22) rfl rfl Try.func32 (by kernel_rfl) rfl #[.agg #[.slice U20 x20.length cu20, .slice V20 y20.length cv20]] rfl (by (try simp only [List.map_toArray, List.map_cons, List.map_nil]); first | done | rfl) ?_; (with_reducible refine (impl_DiskImage.calls k U20 cu20 x20 V20 cv20 y20 x22 _ (Two.c1 (Fo20_7.out.now)) (Two.l1 (Fo20_7.out.now)) (Two.c2 (Fo20_7.out.now)) (Two.l2 (Fo20_7.out.now)) J6.out).mono ?_); rintro e w8 ⟨v_, rfl, ho0, hb⟩; have hrw := Held.row (b := w.heap.size) ho0 hb.size (Below.size HB_7.out); obtain ⟨U22, cu22, rfl⟩ := Kd.R_slice ho0; refine ⟨_, rfl, ?_⟩; have Fo22_8 := Aside0.mk hrw; clear hrw; clear ho0; have Fb1_8 := Aside0.mk (Fb1_7.out.below hb); have Fo17_8 := Aside0.mk (Fo17_7.out.below hb); have Fo18_8 := Aside0.mk (Fo18_7.out.below hb); have Fo20_8 := Aside0.mk (Fo20_7.out.below hb); have Fb5_8 := Aside0.mk (Fb5_7.out.below hb); have HB_8 := Aside0.mk (below_step HB_7.out hb); have Z_8 := Aside0.mk (show w7.heap.size ≤ w8.heap.size from hb.size); clear Fb1_7 Fo17_7 Fo18_7 Fo20_7 Fb5_7 HB_7 z1_0_7 z1_1_7 z5_0_7 z5_1_7 hb; have z1_0_8 : w8.cell? ⟨gb1, 0, none⟩ = some (.slice A0_0 l0_0.length c0_0) := (blk_cell (show w8.heap[gb1]? = some (.cells #[.slice A0_0 l0_0.length c0_0, .slice A0_1 l0_1.length c0_1] 36 (0, 0)) from Fb1_8.out.now) 0).trans rfl; have z1_1_8 : w8.cell? ⟨gb1, 1, none⟩ = some (.slice A0_1 l0_1.length c0_1) := (blk_cell (show w8.heap[gb1]? = some (.cells #[.slice A0_0 l0_0.length c0_0, .slice A0_1 l0_1.length c0_1] 36 (0, 0)) from Fb1_8.out.now) 1).trans rfl; have z5_0_8 : w8.cell? ⟨gb5, 0, none⟩ = some (.slice U20 x20.length cu20) := (blk_cell (show w8.heap[gb5]? = some (.cells #[.slice U20 x20.length cu20, .slice V20 y20.length cv20] 29 (0, 0)) from Fb5_8.out.now) 0).trans rfl; have z5_1_8 : w8.cell? ⟨gb5, 1, none⟩ = some (.slice V20 y20.length cv20) := (blk_cell (show w8.heap[gb5]? = some (.cells #[.slice U20 x20.length cu20, .slice V20 y20.length cv20] 29 (0, 0)) from Fb5_8.out.now) 1).trans rfl)
      | ((with_reducible refine gate_callee (f := 17) rfl ?_); refine goesL_ (some 25) rfl rfl Try.func17 (by kernel_rfl) rfl #[.slice U22 x22.length cu22, .slice U18 x18.length cu18] rfl (by (try simp only [List.map_toArray, List.map_cons, List.map_nil]); first | done | rfl) ?_; (with_reducible refine (laws_eqByteS.calls k U22 cu22 x22 U18 cu18 x18 true _ ((Kd.R_reads' (Fo22_8.out.now)).2.2) ((Kd.R_reads' (Fo22_8.out.now)).2.1) ((Kd.R_reads' (Fo18_8.out.now)).2.2) ((Kd.R_reads' (Fo18_8.out.now)).2.1) J7.out).mono ?_); rintro e w9 ⟨rfl, hdr⟩; have hb := drawn_below hdr; clear hdr; refine ⟨_, rfl, ?_⟩; have Fb1_9 := Aside0.mk (Fb1_8.out.below hb); have Fo17_9 := Aside0.mk (Fo17_8.out.below hb); have Fo18_9 := Aside0.mk (Fo18_8.out.below hb); have Fo20_9 := Aside0.mk (Fo20_8.out.below hb); have Fb5_9 := Aside0.mk (Fb5_8.out.below hb); have Fo22_9 := Aside0.mk (Fo22_8.out.below hb); have HB_9 := Aside0.mk (below_step HB_8.out hb); have Z_9 := Aside0.mk (show w8.heap.size ≤ w9.heap.size from hb.size); clear Fb1_8 Fo17_8 Fo18_8 Fo20_8 Fb5_8 Fo22_8 HB_8 z1_0_8 z1_1_8 z5_0_8 z5_1_8 hb; have z1_0_9 : w9.cell? ⟨gb1, 0, none⟩ = some (.slice A0_0 l0_0.length c0_0) := (blk_cell (show w9.heap[gb1]? = some (.cells #[.slice A0_0 l0_0.length c0_0, .slice A0_1 l0_1.length c0_1] 36 (0, 0)) from Fb1_9.out.now) 0).trans rfl; have z1_1_9 : w9.cell? ⟨gb1, 1, none⟩ = some (.slice A0_1 l0_1.length c0_1) := (blk_cell (show w9.heap[gb1]? = some (.cells #[.slice A0_0 l0_0.length c0_0, .slice A0_1 l0_1.length c0_1] 36 (0, 0)) from Fb1_9.out.now) 1).trans rfl; have z5_0_9 : w9.cell? ⟨gb5, 0, none⟩ = some (.slice U20 x20.length cu20) := (blk_cell (show w9.heap[gb5]? = some (.cells #[.slice U20 x20.length cu20, .slice V20 y20.length cv20] 29 (0, 0)) from Fb5_9.out.now) 0).trans rfl; have z5_1_9 : w9.cell? ⟨gb5, 1, none⟩ = some (.slice V20 y20.length cv20) := (blk_cell (show w9.heap[gb5]? = some (.cells #[.slice U20 x20.length cu20, .slice V20 y20.length cv20] 29 (0, 0)) from Fb5_9.out.now) 1).trans rfl)
      | fail)
  have Fb1_10 := Aside0.mk (Fb1_9.out.drew)
  have Fo17_10 := Aside0.mk (Fo17_9.out.drew)
  have Fo18_10 := Aside0.mk (Fo18_9.out.drew)
  have Fo20_10 := Aside0.mk (Fo20_9.out.drew)
  have Fb5_10 := Aside0.mk (Fb5_9.out.drew)
  have Fo22_10 := Aside0.mk (Fo22_9.out.drew)
  have HB_10 := Aside0.mk (below_drew1 HB_9.out)
  clear Fb1_9 Fo17_9 Fo18_9 Fo20_9 Fb5_9 Fo22_9 HB_9
  refine start_ (n := 5) (S := fun w' => w'.cell? ⟨gb1, 0, none⟩ = some (.slice A0_0 l0_0.length c0_0) ∧ w'.cell? ⟨gb1, 1, none⟩ = some (.slice A0_1 l0_1.length c0_1) ∧ w'.cell? ⟨gb5, 0, none⟩ = some (.slice U20 x20.length cu20) ∧ w'.cell? ⟨gb5, 1, none⟩ = some (.slice V20 y20.length cv20)) (ds := []) #[false, false, false, false, false] (by kernel_rfl) rfl rfl ⟨z1_0_9, z1_1_9, z5_0_9, z5_1_9⟩ (fun hHeld => ?_)
  have hsz : w9.heap.size ≤ w9.drew.heap.size := Nat.le_refl _
  clear z1_0_9 z1_1_9 z5_0_9 z5_1_9
  generalize w9.drew = w10 at Fb1_10 Fo17_10 Fo18_10 Fo20_10 Fb5_10 Fo22_10 HB_10 hsz hHeld ⊢
  have Z_10 := Aside0.mk hsz; clear hsz
  have z1_0_10 : w10.cell? ⟨gb1, 0, none⟩ = some (.slice A0_0 l0_0.length c0_0) := (blk_cell (show w10.heap[gb1]? = some (.cells #[.slice A0_0 l0_0.length c0_0, .slice A0_1 l0_1.length c0_1] 36 (0, 0)) from Fb1_10.out.now) 0).trans rfl
  have z1_1_10 : w10.cell? ⟨gb1, 1, none⟩ = some (.slice A0_1 l0_1.length c0_1) := (blk_cell (show w10.heap[gb1]? = some (.cells #[.slice A0_0 l0_0.length c0_0, .slice A0_1 l0_1.length c0_1] 36 (0, 0)) from Fb1_10.out.now) 1).trans rfl
  have z5_0_10 : w10.cell? ⟨gb5, 0, none⟩ = some (.slice U20 x20.length cu20) := (blk_cell (show w10.heap[gb5]? = some (.cells #[.slice U20 x20.length cu20, .slice V20 y20.length cv20] 29 (0, 0)) from Fb5_10.out.now) 0).trans rfl
  have z5_1_10 : w10.cell? ⟨gb5, 1, none⟩ = some (.slice V20 y20.length cv20) := (blk_cell (show w10.heap[gb5]? = some (.cells #[.slice U20 x20.length cu20, .slice V20 y20.length cv20] 29 (0, 0)) from Fb5_10.out.now) 1).trans rfl
  refine take_ (i := 0) (N := some 27) (v := ?_) (a' := ?_) #[true, false, false, false, false] rfl rfl (by kernel_rfl) (fun _ _ _ h => h) (Or.inl ⟨by rfl, ?_⟩) hHeld ?_ ?_
  rotate_left
  · rintro w' ⟨s0, s1, s2, s3⟩
    go_simp
    with_reducible rfl
  rotate_left
  · simp only [Act.put, List.setIfInBounds_toArray, List.set_cons_zero, List.set_cons_succ, i64_w, i32_w]
    rfl
  refine take_ (i := 1) (N := some 28) (v := ?_) (a' := ?_) #[true, true, false, false, false] rfl rfl (by kernel_rfl) (fun _ _ _ h => h) (Or.inl ⟨by rfl, ?_⟩) hHeld ?_ ?_
  rotate_left
  · rintro w' ⟨s0, s1, s2, s3⟩
    go_simp
    with_reducible rfl
  rotate_left
  · simp only [Act.put, List.setIfInBounds_toArray, List.set_cons_zero, List.set_cons_succ, i64_w, i32_w]
    rfl
  refine one_ (i := 2) (N := some 29) #[true, true, true, false, false] rfl rfl (by kernel_rfl) (by decide) (fun K hK => ?_)
  refine goes_ Try.func27 (by kernel_rfl) rfl #[.agg #[.slice A0_0 l0_0.length c0_0, .slice A0_1 l0_1.length c0_1]] (by rfl) rfl rfl (by (try simp only [List.map_toArray, List.map_cons, List.map_nil]); first | done | rfl) ?_
  (with_reducible refine (laws_toDisk.calls k A0_0 c0_0 l0_0 A0_1 c0_1 l0_1 x29 y29 _ (Kd.C_below HR0_0.out HB_10.out) (HC0_0.out) (Kd.C_below HR0_1.out HB_10.out) (HC0_1.out) J8.out).mono ?_)
  rintro e w11 ⟨v_, u_, rfl, ho0, ho1, hb⟩
  have htw := Two.of (ok' := fun _ => True) rfl ho0 (Kd.S_mono ho1 (fun _ h_ => ⟨trivial, h_⟩))
  obtain ⟨U29, cu29, V29, cv29, rfl, rfl⟩ := Two.slices htw
  have hrw := Two.held (b := w.heap.size) htw (Below.size HB_10.out)
  refine ⟨_, rfl, ?_⟩
  have Fo29_11 := Aside0.mk hrw; clear hrw; clear ho0 ho1 htw
  have Fb1_11 := Aside0.mk (Fb1_10.out.below hb); have Fo17_11 := Aside0.mk (Fo17_10.out.below hb); have Fo18_11 := Aside0.mk (Fo18_10.out.below hb); have Fo20_11 := Aside0.mk (Fo20_10.out.below hb); have Fb5_11 := Aside0.mk (Fb5_10.out.below hb); have Fo22_11 := Aside0.mk (Fo22_10.out.below hb); have HB_11 := Aside0.mk (below_step HB_10.out hb); have Z_11 := Aside0.mk (show w10.heap.size ≤ w11.heap.size from hb.size)
  clear Fb1_10 Fo17_10 Fo18_10 Fo20_10 Fb5_10 Fo22_10 HB_10 z1_0_10 z1_1_10 z5_0_10 z5_1_10 hb
  have z1_0_11 : w11.cell? ⟨gb1, 0, none⟩ = some (.slice A0_0 l0_0.length c0_0) := (blk_cell (show w11.heap[gb1]? = some (.cells #[.slice A0_0 l0_0.length c0_0, .slice A0_1 l0_1.length c0_1] 36 (0, 0)) from Fb1_11.out.now) 0).trans rfl; have z1_1_11 : w11.cell? ⟨gb1, 1, none⟩ = some (.slice A0_1 l0_1.length c0_1) := (blk_cell (show w11.heap[gb1]? = some (.cells #[.slice A0_0 l0_0.length c0_0, .slice A0_1 l0_1.length c0_1] 36 (0, 0)) from Fb1_11.out.now) 1).trans rfl; have z5_0_11 : w11.cell? ⟨gb5, 0, none⟩ = some (.slice U20 x20.length cu20) := (blk_cell (show w11.heap[gb5]? = some (.cells #[.slice U20 x20.length cu20, .slice V20 y20.length cv20] 29 (0, 0)) from Fb5_11.out.now) 0).trans rfl; have z5_1_11 : w11.cell? ⟨gb5, 1, none⟩ = some (.slice V20 y20.length cv20) := (blk_cell (show w11.heap[gb5]? = some (.cells #[.slice U20 x20.length cu20, .slice V20 y20.length cv20] 29 (0, 0)) from Fb5_11.out.now) 1).trans rfl
  refine hK.out _ _ ⟨z1_0_11, z1_1_11, z5_0_11, z5_1_11⟩ (fun hHeld => ?_)
  clear hK K
  refine norm_ (a' := ?_) ?_ ?_
  rotate_left
  · show Act.put _ (some 29) _ = _
    simp only [Act.put, List.setIfInBounds_toArray, List.set_cons_zero, List.set_cons_succ, i64_w, i32_w]
    rfl
  refine one_ (i := 3) (N := some 30) #[true, true, true, true, false] rfl rfl (by kernel_rfl) (by decide) (fun K hK => ?_)
  refine goes_ Try.func22 (by kernel_rfl) rfl #[.agg #[.slice U20 x20.length cu20, .slice V20 y20.length cv20], .agg #[.slice U29 x29.length cu29, .slice V29 y29.length cv29]] (by rfl) rfl rfl (by (try simp only [List.map_toArray, List.map_cons, List.map_nil]); first | done | rfl) ?_
  (with_reducible refine (laws_eqDisk.calls k U20 cu20 x20 V20 cv20 y20 U29 cu29 x29 V29 cv29 y29 true _ (Two.c1 (Fo20_11.out.now)) (Two.l1 (Fo20_11.out.now)) (Two.c2 (Fo20_11.out.now)) (Two.l2 (Fo20_11.out.now)) (Two.c1 (Fo29_11.out.now)) (Two.l1 (Fo29_11.out.now)) (Two.c2 (Fo29_11.out.now)) (Two.l2 (Fo29_11.out.now)) J9.out).mono ?_)
  rintro e w12 ⟨rfl, hb⟩
  refine ⟨_, rfl, ?_⟩
  have Fb1_12 := Aside0.mk (Fb1_11.out.below hb); have Fo17_12 := Aside0.mk (Fo17_11.out.below hb); have Fo18_12 := Aside0.mk (Fo18_11.out.below hb); have Fo20_12 := Aside0.mk (Fo20_11.out.below hb); have Fb5_12 := Aside0.mk (Fb5_11.out.below hb); have Fo22_12 := Aside0.mk (Fo22_11.out.below hb); have Fo29_12 := Aside0.mk (Fo29_11.out.below hb); have HB_12 := Aside0.mk (below_step HB_11.out hb); have Z_12 := Aside0.mk (show w11.heap.size ≤ w12.heap.size from hb.size)
  clear Fb1_11 Fo17_11 Fo18_11 Fo20_11 Fb5_11 Fo22_11 Fo29_11 HB_11 z1_0_11 z1_1_11 z5_0_11 z5_1_11 hb
  have z1_0_12 : w12.cell? ⟨gb1, 0, none⟩ = some (.slice A0_0 l0_0.length c0_0) := (blk_cell (show w12.heap[gb1]? = some (.cells #[.slice A0_0 l0_0.length c0_0, .slice A0_1 l0_1.length c0_1] 36 (0, 0)) from Fb1_12.out.now) 0).trans rfl; have z1_1_12 : w12.cell? ⟨gb1, 1, none⟩ = some (.slice A0_1 l0_1.length c0_1) := (blk_cell (show w12.heap[gb1]? = some (.cells #[.slice A0_0 l0_0.length c0_0, .slice A0_1 l0_1.length c0_1] 36 (0, 0)) from Fb1_12.out.now) 1).trans rfl; have z5_0_12 : w12.cell? ⟨gb5, 0, none⟩ = some (.slice U20 x20.length cu20) := (blk_cell (show w12.heap[gb5]? = some (.cells #[.slice U20 x20.length cu20, .slice V20 y20.length cv20] 29 (0, 0)) from Fb5_12.out.now) 0).trans rfl; have z5_1_12 : w12.cell? ⟨gb5, 1, none⟩ = some (.slice V20 y20.length cv20) := (blk_cell (show w12.heap[gb5]? = some (.cells #[.slice U20 x20.length cu20, .slice V20 y20.length cv20] 29 (0, 0)) from Fb5_12.out.now) 1).trans rfl
  refine hK.out _ _ ⟨z1_0_12, z1_1_12, z5_0_12, z5_1_12⟩ (fun hHeld => ?_)
  clear hK K
  refine norm_ (a' := ?_) ?_ ?_
  rotate_left
  · show Act.put _ (some 30) _ = _
    simp only [Act.put, List.setIfInBounds_toArray, List.set_cons_zero, List.set_cons_succ, i64_w, i32_w]
    rfl
  refine pure_ (i := 4) (N := some 31) (v := ?_) (a' := ?_) #[true, true, true, true, true] rfl rfl (by kernel_rfl) (fun _ _ _ h => h) (Or.inl ⟨by rfl, ?_⟩) ?_ ?_
  rotate_left
  · intro w'
    go_simp
    with_reducible rfl
  rotate_left
  · simp only [Act.put, List.setIfInBounds_toArray, List.set_cons_zero, List.set_cons_succ, i64_w, i32_w]
    rfl
  refine done_ (by kernel_rfl) ?_
  try go_wp2_with (first
      | ((with_reducible refine gate_callee (f := 23) rfl ?_); refine goesL_ (some 34) rfl rfl Try.func23 (by kernel_rfl) rfl #[.agg #[.slice U20 x20.length cu20, .slice V20 y20.length cv20], .int .i64 1] rfl (by (try simp only [List.map_toArray, List.map_cons, List.map_nil]); first | done | rfl) ?_; (with_reducible refine (laws_markDisk.calls k (w4.heap.size) (w5.heap.size) U20 cu20 x20 V20 cv20 y20 1 t34 x34 y34 w _ HB_12.out (Fo20_12.out.top) (Fo20_12.out.now) J10.out).mono ?_); rintro e w13 ⟨rfl, hl0, hl1, ho, hb, hk⟩; refine ⟨_, rfl, ?_⟩; have Fm34_13 := Aside0.mk (Two.marked (lo := w4.heap.size) (hi := w5.heap.size) ho (Nat.le_trans (by have := Z_1.out; have := Z_2.out; have := Z_3.out; have := Z_4.out; have := Z_5.out; have := Z_6.out; have := Z_7.out; have := Z_8.out; have := Z_9.out; have := Z_10.out; have := Z_11.out; have := Z_12.out; have := G1.out; have := G5.out; omega) (Nat.le_refl w12.heap.size))); have Lm34_0 := Aside0.mk hl0; have Lm34_1 := Aside0.mk hl1; have Fb1_13 := Aside0.mk (Fb1_12.out.kept hk (fun k_ hk_ => by have hq_ : w4.heap.size ≤ k_ ∧ k_ < w5.heap.size := hk_; have := Z_1.out; have := Z_2.out; have := Z_3.out; have := Z_4.out; have := Z_5.out; have := Z_6.out; have := Z_7.out; have := Z_8.out; have := Z_9.out; have := Z_10.out; have := Z_11.out; have := Z_12.out; have := G1.out; have := G5.out; omega)); have Fo17_13 := Aside0.mk (Fo17_12.out.kept hk (fun k_ hk_ => by have hq_ : w4.heap.size ≤ k_ ∧ k_ < w5.heap.size := hk_; have := Z_1.out; have := Z_2.out; have := Z_3.out; have := Z_4.out; have := Z_5.out; have := Z_6.out; have := Z_7.out; have := Z_8.out; have := Z_9.out; have := Z_10.out; have := Z_11.out; have := Z_12.out; have := G1.out; have := G5.out; omega)); have Fo18_13 := Aside0.mk (Fo18_12.out.kept hk (fun k_ hk_ => by have hq_ : w4.heap.size ≤ k_ ∧ k_ < w5.heap.size := hk_; have := Z_1.out; have := Z_2.out; have := Z_3.out; have := Z_4.out; have := Z_5.out; have := Z_6.out; have := Z_7.out; have := Z_8.out; have := Z_9.out; have := Z_10.out; have := Z_11.out; have := Z_12.out; have := G1.out; have := G5.out; omega)); have Fb5_13 := Aside0.mk (Fb5_12.out.kept hk (fun k_ hk_ => by have hq_ : w4.heap.size ≤ k_ ∧ k_ < w5.heap.size := hk_; have := Z_1.out; have := Z_2.out; have := Z_3.out; have := Z_4.out; have := Z_5.out; have := Z_6.out; have := Z_7.out; have := Z_8.out; have := Z_9.out; have := Z_10.out; have := Z_11.out; have := Z_12.out; have := G1.out; have := G5.out; omega)); have Fo22_13 := Aside0.mk (Fo22_12.out.kept hk (fun k_ hk_ => by have hq_ : w4.heap.size ≤ k_ ∧ k_ < w5.heap.size := hk_; have := Z_1.out; have := Z_2.out; have := Z_3.out; have := Z_4.out; have := Z_5.out; have := Z_6.out; have := Z_7.out; have := Z_8.out; have := Z_9.out; have := Z_10.out; have := Z_11.out; have := Z_12.out; have := G1.out; have := G5.out; omega)); have Fo29_13 := Aside0.mk (Fo29_12.out.kept hk (fun k_ hk_ => by have hq_ : w4.heap.size ≤ k_ ∧ k_ < w5.heap.size := hk_; have := Z_1.out; have := Z_2.out; have := Z_3.out; have := Z_4.out; have := Z_5.out; have := Z_6.out; have := Z_7.out; have := Z_8.out; have := Z_9.out; have := Z_10.out; have := Z_11.out; have := Z_12.out; have := G1.out; have := G5.out; omega)); have HB_13 := Aside0.mk (hb); have Z_13 := Aside0.mk (show w12.heap.size ≤ w13.heap.size from hk.1); clear Fb1_12 Fo17_12 Fo18_12 Fb5_12 Fo22_12 Fo29_12 Fo20_12 HB_12 z1_0_12 z1_1_12 z5_0_12 z5_1_12 ho hb hk hl0 hl1; have z1_0_13 : w13.cell? ⟨gb1, 0, none⟩ = some (.slice A0_0 l0_0.length c0_0) := (blk_cell (show w13.heap[gb1]? = some (.cells #[.slice A0_0 l0_0.length c0_0, .slice A0_1 l0_1.length c0_1] 36 (0, 0)) from Fb1_13.out.now) 0).trans rfl; have z1_1_13 : w13.cell? ⟨gb1, 1, none⟩ = some (.slice A0_1 l0_1.length c0_1) := (blk_cell (show w13.heap[gb1]? = some (.cells #[.slice A0_0 l0_0.length c0_0, .slice A0_1 l0_1.length c0_1] 36 (0, 0)) from Fb1_13.out.now) 1).trans rfl; have z5_0_13 : w13.cell? ⟨gb5, 0, none⟩ = some (.slice U20 x20.length cu20) := (blk_cell (show w13.heap[gb5]? = some (.cells #[.slice U20 x20.length cu20, .slice V20 y20.length cv20] 29 (0, 0)) from Fb5_13.out.now) 0).trans rfl; have z5_1_13 : w13.cell? ⟨gb5, 1, none⟩ = some (.slice V20 y20.length cv20) := (blk_cell (show w13.heap[gb5]? = some (.cells #[.slice U20 x20.length cu20, .slice V20 y20.length cv20] 29 (0, 0)) from Fb5_13.out.now) 1).trans rfl)
      | (go_at_call 17; (with_reducible refine (laws_eqByteS.calls k U22 cu22 x22 U18 cu18 x18 true _ ((Kd.R_reads' (Fo22_13.out.now)).2.2) ((Kd.R_reads' (Fo22_13.out.now)).2.1) ((Kd.R_reads' (Fo18_13.out.now)).2.2) ((Kd.R_reads' (Fo18_13.out.now)).2.1) J12.out).mono ?_); rintro e w14 ⟨rfl, hdr⟩; have hb := drawn_below hdr; clear hdr; have Fb1_14 := Aside0.mk (Fb1_13.out.below hb); have Fo17_14 := Aside0.mk (Fo17_13.out.below hb); have Fo18_14 := Aside0.mk (Fo18_13.out.below hb); have Fb5_14 := Aside0.mk (Fb5_13.out.below hb); have Fo22_14 := Aside0.mk (Fo22_13.out.below hb); have Fo29_14 := Aside0.mk (Fo29_13.out.below hb); have Fm34_14 := Aside0.mk (Fm34_13.out.below hb); have HB_14 := Aside0.mk (below_step HB_13.out hb); have Z_14 := Aside0.mk (show w13.heap.size ≤ w14.heap.size from hb.size); clear Fb1_13 Fo17_13 Fo18_13 Fb5_13 Fo22_13 Fo29_13 Fm34_13 HB_13 z1_0_13 z1_1_13 z5_0_13 z5_1_13 hb; have z1_0_14 : w14.cell? ⟨gb1, 0, none⟩ = some (.slice A0_0 l0_0.length c0_0) := (blk_cell (show w14.heap[gb1]? = some (.cells #[.slice A0_0 l0_0.length c0_0, .slice A0_1 l0_1.length c0_1] 36 (0, 0)) from Fb1_14.out.now) 0).trans rfl; have z1_1_14 : w14.cell? ⟨gb1, 1, none⟩ = some (.slice A0_1 l0_1.length c0_1) := (blk_cell (show w14.heap[gb1]? = some (.cells #[.slice A0_0 l0_0.length c0_0, .slice A0_1 l0_1.length c0_1] 36 (0, 0)) from Fb1_14.out.now) 1).trans rfl; have z5_0_14 : w14.cell? ⟨gb5, 0, none⟩ = some (.slice U20 x20.length cu20) := (blk_cell (show w14.heap[gb5]? = some (.cells #[.slice U20 x20.length cu20, .slice V20 y20.length cv20] 29 (0, 0)) from Fb5_14.out.now) 0).trans rfl; have z5_1_14 : w14.cell? ⟨gb5, 1, none⟩ = some (.slice V20 y20.length cv20) := (blk_cell (show w14.heap[gb5]? = some (.cells #[.slice U20 x20.length cu20, .slice V20 y20.length cv20] 29 (0, 0)) from Fb5_14.out.now) 1).trans rfl)
      | ((with_reducible refine gate_callee (f := 18) rfl ?_); refine goesL_ (some 45) rfl rfl Try.func18 (by kernel_rfl) rfl #[.slice U22 x22.length cu22, .int .i64 1] rfl (by (try simp only [List.map_toArray, List.map_cons, List.map_nil]); first | done | rfl) ?_; (with_reducible refine (laws_markByteS.calls k _ _ x22 1 t45 x45 w _ HB_14.out (Fo22_14.out.now) J13.out).mono ?_); rintro e w15 ⟨rfl, ho, hb, hk⟩; refine ⟨_, rfl, ?_⟩; have Fm45_15 := Aside0.mk (Held.markedR (lo := w7.heap.size) (hi := w8.heap.size) ho (Nat.le_trans (by have := Z_1.out; have := Z_2.out; have := Z_3.out; have := Z_4.out; have := Z_5.out; have := Z_6.out; have := Z_7.out; have := Z_8.out; have := Z_9.out; have := Z_10.out; have := Z_11.out; have := Z_12.out; have := Z_13.out; have := Z_14.out; have := G1.out; have := G5.out; omega) (Nat.le_refl w14.heap.size))); have Lm45_0 := Aside0.mk ((Kd.R_reads' ho).1.symm); have Fb1_15 := Aside0.mk (Fb1_14.out.kept hk (fun k_ hk_ => by have hq_ : w7.heap.size ≤ k_ ∧ k_ < w8.heap.size := hk_; have := Z_1.out; have := Z_2.out; have := Z_3.out; have := Z_4.out; have := Z_5.out; have := Z_6.out; have := Z_7.out; have := Z_8.out; have := Z_9.out; have := Z_10.out; have := Z_11.out; have := Z_12.out; have := Z_13.out; have := Z_14.out; have := G1.out; have := G5.out; omega)); have Fo17_15 := Aside0.mk (Fo17_14.out.kept hk (fun k_ hk_ => by have hq_ : w7.heap.size ≤ k_ ∧ k_ < w8.heap.size := hk_; have := Z_1.out; have := Z_2.out; have := Z_3.out; have := Z_4.out; have := Z_5.out; have := Z_6.out; have := Z_7.out; have := Z_8.out; have := Z_9.out; have := Z_10.out; have := Z_11.out; have := Z_12.out; have := Z_13.out; have := Z_14.out; have := G1.out; have := G5.out; omega)); have Fo18_15 := Aside0.mk (Fo18_14.out.kept hk (fun k_ hk_ => by have hq_ : w7.heap.size ≤ k_ ∧ k_ < w8.heap.size := hk_; have := Z_1.out; have := Z_2.out; have := Z_3.out; have := Z_4.out; have := Z_5.out; have := Z_6.out; have := Z_7.out; have := Z_8.out; have := Z_9.out; have := Z_10.out; have := Z_11.out; have := Z_12.out; have := Z_13.out; have := Z_14.out; have := G1.out; have := G5.out; omega)); have Fb5_15 := Aside0.mk (Fb5_14.out.kept hk (fun k_ hk_ => by have hq_ : w7.heap.size ≤ k_ ∧ k_ < w8.heap.size := hk_; have := Z_1.out; have := Z_2.out; have := Z_3.out; have := Z_4.out; have := Z_5.out; have := Z_6.out; have := Z_7.out; have := Z_8.out; have := Z_9.out; have := Z_10.out; have := Z_11.out; have := Z_12.out; have := Z_13.out; have := Z_14.out; have := G1.out; have := G5.out; omega)); have Fo29_15 := Aside0.mk (Fo29_14.out.kept hk (fun k_ hk_ => by have hq_ : w7.heap.size ≤ k_ ∧ k_ < w8.heap.size := hk_; have := Z_1.out; have := Z_2.out; have := Z_3.out; have := Z_4.out; have := Z_5.out; have := Z_6.out; have := Z_7.out; have := Z_8.out; have := Z_9.out; have := Z_10.out; have := Z_11.out; have := Z_12.out; have := Z_13.out; have := Z_14.out; have := G1.out; have := G5.out; omega)); have HB_15 := Aside0.mk (hb); have Z_15 := Aside0.mk (show w14.heap.size ≤ w15.heap.size from hk.1); clear Fb1_14 Fo17_14 Fo18_14 Fb5_14 Fo29_14 Fo22_14 Fm34_14 HB_14 z1_0_14 z1_1_14 z5_0_14 z5_1_14 ho hb hk; have z1_0_15 : w15.cell? ⟨gb1, 0, none⟩ = some (.slice A0_0 l0_0.length c0_0) := (blk_cell (show w15.heap[gb1]? = some (.cells #[.slice A0_0 l0_0.length c0_0, .slice A0_1 l0_1.length c0_1] 36 (0, 0)) from Fb1_15.out.now) 0).trans rfl; have z1_1_15 : w15.cell? ⟨gb1, 1, none⟩ = some (.slice A0_1 l0_1.length c0_1) := (blk_cell (show w15.heap[gb1]? = some (.cells #[.slice A0_0 l0_0.length c0_0, .slice A0_1 l0_1.length c0_1] 36 (0, 0)) from Fb1_15.out.now) 1).trans rfl; have z5_0_15 : w15.cell? ⟨gb5, 0, none⟩ = some (.slice U20 x20.length cu20) := (blk_cell (show w15.heap[gb5]? = some (.cells #[.slice U20 x20.length cu20, .slice V20 y20.length cv20] 29 (0, 0)) from Fb5_15.out.now) 0).trans rfl; have z5_1_15 : w15.cell? ⟨gb5, 1, none⟩ = some (.slice V20 y20.length cv20) := (blk_cell (show w15.heap[gb5]? = some (.cells #[.slice U20 x20.length cu20, .slice V20 y20.length cv20] 29 (0, 0)) from Fb5_15.out.now) 1).trans rfl)
      | ((with_reducible refine gate_callee (f := 19) rfl ?_); refine goesL_ (some 48) rfl rfl Try.func19 (by kernel_rfl) rfl #[.slice U22 x22.length cu22, .int .i64 1] rfl (by (try simp only [List.map_toArray, List.map_cons, List.map_nil]); first | done | rfl) ?_; have hcall := laws_heldByteS.calls k U22 cu22 x45 1 t48 w15 ((Kd.R_reads' (Fm45_15.out.now)).2.2) ((by have h_ := Kd.R_reads' (Fm45_15.out.now); omega)) J14.out; rw [show x45.length = x22.length from Lm45_0.out] at hcall; refine hcall.mono ?_; rintro e w16 ⟨rfl, hdr⟩; have hb := drawn_below hdr; clear hdr; refine ⟨_, rfl, ?_⟩; have Fb1_16 := Aside0.mk (Fb1_15.out.below hb); have Fo17_16 := Aside0.mk (Fo17_15.out.below hb); have Fo18_16 := Aside0.mk (Fo18_15.out.below hb); have Fb5_16 := Aside0.mk (Fb5_15.out.below hb); have Fo29_16 := Aside0.mk (Fo29_15.out.below hb); have Fm45_16 := Aside0.mk (Fm45_15.out.below hb); have HB_16 := Aside0.mk (below_step HB_15.out hb); have Z_16 := Aside0.mk (show w15.heap.size ≤ w16.heap.size from hb.size); clear Fb1_15 Fo17_15 Fo18_15 Fb5_15 Fo29_15 Fm45_15 HB_15 z1_0_15 z1_1_15 z5_0_15 z5_1_15 hb; have z1_0_16 : w16.cell? ⟨gb1, 0, none⟩ = some (.slice A0_0 l0_0.length c0_0) := (blk_cell (show w16.heap[gb1]? = some (.cells #[.slice A0_0 l0_0.length c0_0, .slice A0_1 l0_1.length c0_1] 36 (0, 0)) from Fb1_16.out.now) 0).trans rfl; have z1_1_16 : w16.cell? ⟨gb1, 1, none⟩ = some (.slice A0_1 l0_1.length c0_1) := (blk_cell (show w16.heap[gb1]? = some (.cells #[.slice A0_0 l0_0.length c0_0, .slice A0_1 l0_1.length c0_1] 36 (0, 0)) from Fb1_16.out.now) 1).trans rfl; have z5_0_16 : w16.cell? ⟨gb5, 0, none⟩ = some (.slice U20 x20.length cu20) := (blk_cell (show w16.heap[gb5]? = some (.cells #[.slice U20 x20.length cu20, .slice V20 y20.length cv20] 29 (0, 0)) from Fb5_16.out.now) 0).trans rfl; have z5_1_16 : w16.cell? ⟨gb5, 1, none⟩ = some (.slice V20 y20.length cv20) := (blk_cell (show w16.heap[gb5]? = some (.cells #[.slice U20 x20.length cu20, .slice V20 y20.length cv20] 29 (0, 0)) from Fb5_16.out.now) 1).trans rfl)
      | ((with_reducible refine gate_callee (f := 27) rfl ?_); refine goesL_ (some 55) rfl rfl Try.func27 (by kernel_rfl) rfl #[.agg #[.slice A0_0 l0_0.length c0_0, .slice A0_1 l0_1.length c0_1]] rfl (by (try simp only [List.map_toArray, List.map_cons, List.map_nil]); first | done | rfl) ?_; (with_reducible refine (laws_toDisk.calls k A0_0 c0_0 l0_0 A0_1 c0_1 l0_1 x55 y55 _ (Kd.C_below HR0_0.out HB_16.out) (HC0_0.out) (Kd.C_below HR0_1.out HB_16.out) (HC0_1.out) J17.out).mono ?_); rintro e w17 ⟨v_, u_, rfl, ho0, ho1, hb⟩; have htw := Two.of (ok' := fun _ => True) rfl ho0 (Kd.S_mono ho1 (fun _ h_ => ⟨trivial, h_⟩)); obtain ⟨U55, cu55, V55, cv55, rfl, rfl⟩ := Two.slices htw; have hrw := Two.held (b := w.heap.size) htw (Below.size HB_16.out); refine ⟨_, rfl, ?_⟩; have Fo55_17 := Aside0.mk hrw; clear hrw; clear ho0 ho1 htw; have Fb1_17 := Aside0.mk (Fb1_16.out.below hb); have Fo17_17 := Aside0.mk (Fo17_16.out.below hb); have Fo18_17 := Aside0.mk (Fo18_16.out.below hb); have Fb5_17 := Aside0.mk (Fb5_16.out.below hb); have Fo29_17 := Aside0.mk (Fo29_16.out.below hb); have Fm45_17 := Aside0.mk (Fm45_16.out.below hb); have HB_17 := Aside0.mk (below_step HB_16.out hb); have Z_17 := Aside0.mk (show w16.heap.size ≤ w17.heap.size from hb.size); clear Fb1_16 Fo17_16 Fo18_16 Fb5_16 Fo29_16 Fm45_16 HB_16 z1_0_16 z1_1_16 z5_0_16 z5_1_16 hb; have z1_0_17 : w17.cell? ⟨gb1, 0, none⟩ = some (.slice A0_0 l0_0.length c0_0) := (blk_cell (show w17.heap[gb1]? = some (.cells #[.slice A0_0 l0_0.length c0_0, .slice A0_1 l0_1.length c0_1] 36 (0, 0)) from Fb1_17.out.now) 0).trans rfl; have z1_1_17 : w17.cell? ⟨gb1, 1, none⟩ = some (.slice A0_1 l0_1.length c0_1) := (blk_cell (show w17.heap[gb1]? = some (.cells #[.slice A0_0 l0_0.length c0_0, .slice A0_1 l0_1.length c0_1] 36 (0, 0)) from Fb1_17.out.now) 1).trans rfl; have z5_0_17 : w17.cell? ⟨gb5, 0, none⟩ = some (.slice U20 x20.length cu20) := (blk_cell (show w17.heap[gb5]? = some (.cells #[.slice U20 x20.length cu20, .slice V20 y20.length cv20] 29 (0, 0)) from Fb5_17.out.now) 0).trans rfl; have z5_1_17 : w17.cell? ⟨gb5, 1, none⟩ = some (.slice V20 y20.length cv20) := (blk_cell (show w17.heap[gb5]? = some (.cells #[.slice U20 x20.length cu20, .slice V20 y20.length cv20] 29 (0, 0)) from Fb5_17.out.now) 1).trans rfl)
      | ((with_reducible refine gate_callee (f := 32) rfl ?_); refine goesL_ (some 56) rfl rfl Try.func32 (by kernel_rfl) rfl #[.agg #[.slice U55 x55.length cu55, .slice V55 y55.length cv55]] rfl (by (try simp only [List.map_toArray, List.map_cons, List.map_nil]); first | done | rfl) ?_; (with_reducible refine (impl_DiskImage.calls k U55 cu55 x55 V55 cv55 y55 x56 _ (Two.c1 (Fo55_17.out.now)) (Two.l1 (Fo55_17.out.now)) (Two.c2 (Fo55_17.out.now)) (Two.l2 (Fo55_17.out.now)) J18.out).mono ?_); rintro e w18 ⟨v_, rfl, ho0, hb⟩; have hrw := Held.row (b := w.heap.size) ho0 hb.size (Below.size HB_17.out); obtain ⟨U56, cu56, rfl⟩ := Kd.R_slice ho0; refine ⟨_, rfl, ?_⟩; have Fo56_18 := Aside0.mk hrw; clear hrw; clear ho0; have Fb1_18 := Aside0.mk (Fb1_17.out.below hb); have Fo17_18 := Aside0.mk (Fo17_17.out.below hb); have Fo18_18 := Aside0.mk (Fo18_17.out.below hb); have Fb5_18 := Aside0.mk (Fb5_17.out.below hb); have Fo29_18 := Aside0.mk (Fo29_17.out.below hb); have Fm45_18 := Aside0.mk (Fm45_17.out.below hb); have Fo55_18 := Aside0.mk (Fo55_17.out.below hb); have HB_18 := Aside0.mk (below_step HB_17.out hb); have Z_18 := Aside0.mk (show w17.heap.size ≤ w18.heap.size from hb.size); clear Fb1_17 Fo17_17 Fo18_17 Fb5_17 Fo29_17 Fm45_17 Fo55_17 HB_17 z1_0_17 z1_1_17 z5_0_17 z5_1_17 hb; have z1_0_18 : w18.cell? ⟨gb1, 0, none⟩ = some (.slice A0_0 l0_0.length c0_0) := (blk_cell (show w18.heap[gb1]? = some (.cells #[.slice A0_0 l0_0.length c0_0, .slice A0_1 l0_1.length c0_1] 36 (0, 0)) from Fb1_18.out.now) 0).trans rfl; have z1_1_18 : w18.cell? ⟨gb1, 1, none⟩ = some (.slice A0_1 l0_1.length c0_1) := (blk_cell (show w18.heap[gb1]? = some (.cells #[.slice A0_0 l0_0.length c0_0, .slice A0_1 l0_1.length c0_1] 36 (0, 0)) from Fb1_18.out.now) 1).trans rfl; have z5_0_18 : w18.cell? ⟨gb5, 0, none⟩ = some (.slice U20 x20.length cu20) := (blk_cell (show w18.heap[gb5]? = some (.cells #[.slice U20 x20.length cu20, .slice V20 y20.length cv20] 29 (0, 0)) from Fb5_18.out.now) 0).trans rfl; have z5_1_18 : w18.cell? ⟨gb5, 1, none⟩ = some (.slice V20 y20.length cv20) := (blk_cell (show w18.heap[gb5]? = some (.cells #[.slice U20 x20.length cu20, .slice V20 y20.length cv20] 29 (0, 0)) from Fb5_18.out.now) 1).trans rfl)
      | ((with_reducible refine gate_callee (f := 17) rfl ?_); refine goesL_ (some 59) rfl rfl Try.func17 (by kernel_rfl) rfl #[.slice U56 x56.length cu56, .slice U18 x18.length cu18] rfl (by (try simp only [List.map_toArray, List.map_cons, List.map_nil]); first | done | rfl) ?_; (with_reducible refine (laws_eqByteS.calls k U56 cu56 x56 U18 cu18 x18 true _ ((Kd.R_reads' (Fo56_18.out.now)).2.2) ((Kd.R_reads' (Fo56_18.out.now)).2.1) ((Kd.R_reads' (Fo18_18.out.now)).2.2) ((Kd.R_reads' (Fo18_18.out.now)).2.1) J19.out).mono ?_); rintro e w19 ⟨rfl, hdr⟩; have hb := drawn_below hdr; clear hdr; refine ⟨_, rfl, ?_⟩; have Fb1_19 := Aside0.mk (Fb1_18.out.below hb); have Fo17_19 := Aside0.mk (Fo17_18.out.below hb); have Fo18_19 := Aside0.mk (Fo18_18.out.below hb); have Fb5_19 := Aside0.mk (Fb5_18.out.below hb); have Fo29_19 := Aside0.mk (Fo29_18.out.below hb); have Fm45_19 := Aside0.mk (Fm45_18.out.below hb); have Fo55_19 := Aside0.mk (Fo55_18.out.below hb); have Fo56_19 := Aside0.mk (Fo56_18.out.below hb); have HB_19 := Aside0.mk (below_step HB_18.out hb); have Z_19 := Aside0.mk (show w18.heap.size ≤ w19.heap.size from hb.size); clear Fb1_18 Fo17_18 Fo18_18 Fb5_18 Fo29_18 Fm45_18 Fo55_18 Fo56_18 HB_18 z1_0_18 z1_1_18 z5_0_18 z5_1_18 hb; have z1_0_19 : w19.cell? ⟨gb1, 0, none⟩ = some (.slice A0_0 l0_0.length c0_0) := (blk_cell (show w19.heap[gb1]? = some (.cells #[.slice A0_0 l0_0.length c0_0, .slice A0_1 l0_1.length c0_1] 36 (0, 0)) from Fb1_19.out.now) 0).trans rfl; have z1_1_19 : w19.cell? ⟨gb1, 1, none⟩ = some (.slice A0_1 l0_1.length c0_1) := (blk_cell (show w19.heap[gb1]? = some (.cells #[.slice A0_0 l0_0.length c0_0, .slice A0_1 l0_1.length c0_1] 36 (0, 0)) from Fb1_19.out.now) 1).trans rfl; have z5_0_19 : w19.cell? ⟨gb5, 0, none⟩ = some (.slice U20 x20.length cu20) := (blk_cell (show w19.heap[gb5]? = some (.cells #[.slice U20 x20.length cu20, .slice V20 y20.length cv20] 29 (0, 0)) from Fb5_19.out.now) 0).trans rfl; have z5_1_19 : w19.cell? ⟨gb5, 1, none⟩ = some (.slice V20 y20.length cv20) := (blk_cell (show w19.heap[gb5]? = some (.cells #[.slice U20 x20.length cu20, .slice V20 y20.length cv20] 29 (0, 0)) from Fb5_19.out.now) 1).trans rfl)
      | ((with_reducible refine gate_callee (f := 19) rfl ?_); refine goesL_ (some 63) rfl rfl Try.func19 (by kernel_rfl) rfl #[.slice U22 x22.length cu22, .int .i64 1] rfl (by (try simp only [List.map_toArray, List.map_cons, List.map_nil]); first | done | rfl) ?_; have hcall := laws_heldByteS.calls k U22 cu22 x45 1 t63 w19 ((Kd.R_reads' (Fm45_19.out.now)).2.2) ((by have h_ := Kd.R_reads' (Fm45_19.out.now); omega)) J20.out; rw [show x45.length = x22.length from Lm45_0.out] at hcall; refine hcall.mono ?_; rintro e w20 ⟨rfl, hdr⟩; have hb := drawn_below hdr; clear hdr; refine ⟨_, rfl, ?_⟩; have Fb1_20 := Aside0.mk (Fb1_19.out.below hb); have Fo17_20 := Aside0.mk (Fo17_19.out.below hb); have Fo18_20 := Aside0.mk (Fo18_19.out.below hb); have Fb5_20 := Aside0.mk (Fb5_19.out.below hb); have Fo29_20 := Aside0.mk (Fo29_19.out.below hb); have Fm45_20 := Aside0.mk (Fm45_19.out.below hb); have Fo55_20 := Aside0.mk (Fo55_19.out.below hb); have Fo56_20 := Aside0.mk (Fo56_19.out.below hb); have HB_20 := Aside0.mk (below_step HB_19.out hb); have Z_20 := Aside0.mk (show w19.heap.size ≤ w20.heap.size from hb.size); clear Fb1_19 Fo17_19 Fo18_19 Fb5_19 Fo29_19 Fm45_19 Fo55_19 Fo56_19 HB_19 z1_0_19 z1_1_19 z5_0_19 z5_1_19 hb; have z1_0_20 : w20.cell? ⟨gb1, 0, none⟩ = some (.slice A0_0 l0_0.length c0_0) := (blk_cell (show w20.heap[gb1]? = some (.cells #[.slice A0_0 l0_0.length c0_0, .slice A0_1 l0_1.length c0_1] 36 (0, 0)) from Fb1_20.out.now) 0).trans rfl; have z1_1_20 : w20.cell? ⟨gb1, 1, none⟩ = some (.slice A0_1 l0_1.length c0_1) := (blk_cell (show w20.heap[gb1]? = some (.cells #[.slice A0_0 l0_0.length c0_0, .slice A0_1 l0_1.length c0_1] 36 (0, 0)) from Fb1_20.out.now) 1).trans rfl; have z5_0_20 : w20.cell? ⟨gb5, 0, none⟩ = some (.slice U20 x20.length cu20) := (blk_cell (show w20.heap[gb5]? = some (.cells #[.slice U20 x20.length cu20, .slice V20 y20.length cv20] 29 (0, 0)) from Fb5_20.out.now) 0).trans rfl; have z5_1_20 : w20.cell? ⟨gb5, 1, none⟩ = some (.slice V20 y20.length cv20) := (blk_cell (show w20.heap[gb5]? = some (.cells #[.slice U20 x20.length cu20, .slice V20 y20.length cv20] 29 (0, 0)) from Fb5_20.out.now) 1).trans rfl)
      | fail)
  go_ret
  exact ⟨rfl, HB_20.out⟩
end


end Go.Proofs.Ytdhjhadcadcceaa.PFnExactDiskImage
