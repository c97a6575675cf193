-- written by a program of this session (wip/src/print2.py)
import Derived.Test.YtdhjhadcadcceaaPFnDiskx0
import Derived.Test.YtdhjhadcadcceaaPFnDiskx1
import Derived.Test.YtdhjhadcadcceaaPFnDiskx2
import Derived.Test.YtdhjhadcadcceaaPFnDiskx9
namespace Go.Proofs.Ytdhjhadcadcceaa.PFnDisk
open Go.RowKit Go.Proofs.YtdhjhadcadcceaaW.PrintWords Go.Proofs.YtdhjhadcadcceaaW.PrintLast Go.Proofs.YtdhjhadcadcceaaW.PrintMore
attribute [local go_sem] max2_int min2_int max_two min_two max_three min_three max_four min_four   -- for this text's walks alone
set_option linter.unusedVariables false
set_option linter.unusedSimpArgs false

/-! ### spec_l1Do: function 86 -/
mutual
def spec_l1Do.j0 : Nat → Bool → List Int → List (S62) → Int → Int → List Int → Option (List Int × (List (S62)) × Bool)
 | 0, _, _, _, _, _, _ => none
 | k + 1, x20, x434000, x434001, x435000, x435001, x435002 => if x20 = true then (spec_l1Do.l0 k 0 x434000 x434001) else (if x435000 = 1 then (if (x434001.length : Int) = 600 then (some (x434000, x434001, false)) else (if x435001 < 0 then (some (x434000, x434001, false)) else ((spec_l1Blocks.f x434000 x434001).bind fun t442 => (if x435001 ≥ t442 then (some (x434000, x434001, false)) else (if (x435002.length : Int) = 64 then ((spec_l1Copy.f x435002).bind fun t443 => (if x434001.length < 4398046511104 then (some (x434000, (x434001 ++ [(⟨x435001, t443⟩ : S62)]), true)) else (none))) else (some (x434000, x434001, false))))))) else (some (x434000, x434001, false)))
def spec_l1Do.l0 : Nat → Int → List Int → List (S62) → Option (List Int × (List (S62)) × Bool)
 | 0, _, _, _ => none
 | k + 1, x6, x434000, x434001 => if x6 < (x434001.length : Int) then (if 0 ≤ x6 then ((spec_l1Put.f k x434000 ((rd_T62 x434001 x6).f0) ((rd_T62 x434001 x6).f1)).bind fun t438 => (spec_l1Do.l0 k (wrap64 (x6 + 1)) t438 x434001)) else (none)) else (some (x434000, (([] : List (S62))), true))
end
def spec_l1Do.f (k : Nat) (l0_0 : List Int) (l0_1 : List (S62)) (a1_0 : Int) (a1_1 : Int) (l1_2 : List Int) : Option (List Int × (List (S62)) × Bool) := if a1_0 = 2 then (if a1_1 = 0 then (spec_l1Do.j0 k ((l1_2.length : Int) == 0) l0_0 l0_1 a1_0 a1_1 l1_2) else (spec_l1Do.j0 k false l0_0 l0_1 a1_0 a1_1 l1_2)) else (spec_l1Do.j0 k false l0_0 l0_1 a1_0 a1_1 l1_2)
def spec_l1Do.T5 : Bool × List (List Nat × List Nat) := (true, [([], []), ([0], [0]), ([], []), ([2], [2]), ([], []), ([3, 4], [3, 4]), ([5], [5]), ([6], [6]), ([], []), ([8], [8]), ([], []), ([9, 10], [9, 10]), ([11], [11]), ([12], [12]), ([1, 7, 13], [1, 7, 13])])
def spec_l1Do.B5 : List Nat := [0, 1, 0, 4, 0, 28, 60, 124, 0, 256, 0, 1792, 3840, 7936, 16383]
theorem spec_l1Do.tab5 : rtab .any (opsOf Try.f86 5) = spec_l1Do.T5 := by kernel_rfl
theorem spec_l1Do.bits5 : waitsOk spec_l1Do.T5.2 spec_l1Do.B5 = true := by kernel_rfl
def spec_l1Do.T8 : Bool × List (List Nat × List Nat) := (true, [([], []), ([0], [0]), ([1], [1]), ([2], [2]), ([3], [3]), ([4, 3], [3, 4]), ([5, 3], [3, 5]), ([6, 3], [3, 6]), ([3, 7], [3, 7]), ([8, 3], [8]), ([9], [9]), ([10, 9], [9, 10]), ([11, 9], [9, 11]), ([9, 12], [9, 12]), ([13, 9], [13]), ([14], [14]), ([15, 14], [14, 15]), ([14], [14]), ([17, 14, 14], [14, 17]), ([16, 18, 14], [14, 16, 18]), ([14, 19], [14, 19]), ([20, 18], [20]), ([21], [21]), ([22, 21], [21, 22]), ([23, 21], [21, 23]), ([24, 21], [21, 24]), ([21, 25], [21, 25])])
def spec_l1Do.B8 : List Nat := [0, 1, 3, 7, 15, 31, 63, 127, 255, 511, 1023, 2047, 4095, 8191, 16383, 32767, 65535, 32767, 163839, 524287, 1048575, 2097151, 4194303, 8388607, 16777215, 33554431, 67108863]
theorem spec_l1Do.tab8 : rtab .any (opsOf Try.f86 8) = spec_l1Do.T8 := by kernel_rfl
theorem spec_l1Do.bits8 : waitsOk spec_l1Do.T8.2 spec_l1Do.B8 = true := by kernel_rfl
def spec_l1Do.T10 : Bool × List (List Nat × List Nat) := (true, [([], []), ([0], [0]), ([], []), ([2], [2]), ([], []), ([4], [4]), ([5], [5]), ([3, 6], [3, 6]), ([7], [7]), ([1, 8, 6], [1, 8]), ([0, 1, 2, 3, 4, 5, 6, 7, 8, 9], []), ([10, 9, 9, 0, 1, 2, 3, 4, 5, 6, 7, 8, 9], [9, 10])])
def spec_l1Do.B10 : List Nat := [0, 1, 0, 4, 0, 16, 48, 124, 252, 511, 1023, 2047]
theorem spec_l1Do.tab10 : rtab .any (opsOf Try.f86 10) = spec_l1Do.T10 := by kernel_rfl
theorem spec_l1Do.bits10 : waitsOk spec_l1Do.T10.2 spec_l1Do.B10 = true := by kernel_rfl
set_option maxHeartbeats 8000000 in
set_option maxRecDepth 100000 in
theorem spec_l1Do.calls (k : Nat) (P0_0_ : Nat → Prop) (u9000_ : Value) (l0_0 : List Int) (P0_1_ : Nat → Prop) (A0_1 : Option Addr) (c0_1 : Nat) (l0_1 : List (S62)) (a1_0 : Int) (a1_1 : Int) (A1_2 : Option Addr) (c1_2 : Nat) (l1_2 : List Int) (r1 : List Int) (r2 : List (S62)) (r3 : Bool) (w0 w : World) (hB : Below w0.heap.size w0 w) (ho0_0 : Kd.R (Kd.int .u8) 5 w w0.heap.size P0_0_ u9000_ l0_0) (hs0_1 : Kd.S k62 62 w w0.heap.size (fun k_ => P0_1_ k_ ∧ some k_ ≠ (u9000_ : Value).ownBlock) (.slice A0_1 l0_1.length c0_1) l0_1) (hr1_2 : ∀ W_, Kept w W_ (fun k_ => P0_0_ k_ ∨ P0_1_ k_) → Kd.C (Kd.int .u8) W_ A1_2 l1_2.length l1_2) (hc1_2 : l1_2.length ≤ c1_2) (h : spec_l1Do.f k l0_0 l0_1 a1_0 a1_1 l1_2 = some (r1, r2, r3)) :
  Calls Try.prog 86 #[.agg #[u9000_, .slice A0_1 l0_1.length c0_1], .agg #[.int .i64 a1_0, .int .i64 a1_1, .slice A1_2 l1_2.length c1_2]] w fun e w' => ∃ v0_ v1_ : Value, e = .returned (.tuple #[.agg #[v0_, v1_], .bool r3]) ∧ Kd.R (Kd.int .u8) 5 w' w0.heap.size (fun k_ => (P0_0_ k_ ∨ w.heap.size ≤ k_)) v0_ r1 ∧ Kd.S k62 62 w' w0.heap.size (fun k_ => ((P0_0_ k_ ∨ P0_1_ k_) ∨ w.heap.size ≤ k_) ∧ some k_ ≠ (v0_ : Value).ownBlock) v1_ r2 ∧ Below w0.heap.size w0 w' ∧ Kept w w' (fun k_ => P0_0_ k_ ∨ P0_1_ k_) := by
 have hu29 := Try.underlying29
 have hu93 := Try.underlying93
 have hu62 := Try.underlying62
 have HO0_0 := Aside0.mk (show Kd.R (Kd.int .u8) 5 w w0.heap.size (fun k_ => (P0_0_ k_ ∨ w.heap.size ≤ k_)) u9000_ l0_0 from Kd.R_mono ho0_0 (fun k_ hk => (.inl hk)))
 have HO0_1 := Aside0.mk (show Kd.S k62 62 w w0.heap.size (fun k_ => ((P0_0_ k_ ∨ P0_1_ k_) ∨ w.heap.size ≤ k_) ∧ some k_ ≠ (u9000_ : Value).ownBlock) (.slice A0_1 l0_1.length c0_1) l0_1 from Kd.S_mono hs0_1 (fun k_ hk => ⟨.inl (.inr hk.1), hk.2⟩))
 have HR1_2 := Aside0.mk hr1_2
 have HC1_2 := Aside0.mk hc1_2
 clear hr1_2 hc1_2
 have HK := Aside0.mk (Kept.refl w (fun k_ => P0_0_ k_ ∨ P0_1_ k_))
 have HW0 := Aside0.mk hB.size
 have HB := Aside0.mk hB
 clear hB
 have H : (if a1_0 = 2 then (if a1_1 = 0 then (spec_l1Do.j0 k ((l1_2.length : Int) == 0) l0_0 l0_1 a1_0 a1_1 l1_2) else (spec_l1Do.j0 k false l0_0 l0_1 a1_0 a1_1 l1_2)) else (spec_l1Do.j0 k false l0_0 l0_1 a1_0 a1_1 l1_2)) = some (r1, r2, r3) := h
 clear h
 have HC3 := Aside0.mk H
 clear H
 obtain ⟨Ao4, co4, eo4⟩ := Kd.R_slice HO0_0.out
 subst eo4
 go_enter Try.func86, Try.ntmps86
 go_upto_region 1 with (first | ((with_reducible refine gate_dst (N := 2) rfl ?_); (try (refine gate_guard (by rfl) ?_; dsimp only)); refine Rgn.bx 2 #[.slice Ao4 l0_0.length co4, .slice A0_1 l0_1.length c0_1] 29 ?_; intro gb433 hg w5 hbox hb; replace HO0_0 := Aside0.mk (Kd.R_below (Rgn.rq HO0_0.out) hb); replace HO0_1 := Aside0.mk (Kd.S_below (Kd.S_elderB (Rgn.sq HO0_1.out) gb433 (Nat.le_of_eq hg.symm)) hb); have BK433 := Aside0.mk (hbox); have GW433 := Aside0.mk ((by rw [hg]; exact (by first | exact HK.out.1 | exact (show Kept w _ (fun k_ => P0_0_ k_ ∨ P0_1_ k_) from by exact Rgn.kq HK.out).1) : w.heap.size ≤ gb433)); replace HK := Aside0.mk (Kept.below (S := (fun k_ => P0_0_ k_ ∨ P0_1_ k_)) (Rgn.kq HK.out) hb); have GE433 := Aside0.mk (Rgn.ge hg HB.out); replace HB := Aside0.mk (below_step (Rgn.bq HB.out) hb); clear hb hbox hg) | ((with_reducible refine gate_dst (N := 3) rfl ?_); (try (refine gate_guard (by rfl) ?_; dsimp only)); refine Rgn.bx 3 #[.int .i64 a1_0, .int .i64 a1_1, .slice A1_2 l1_2.length c1_2] 93 ?_; intro gb434 hg w6 hbox hb; replace HO0_0 := Aside0.mk (Kd.R_below (Rgn.rq HO0_0.out) hb); replace HO0_1 := Aside0.mk (Kd.S_below (Kd.S_elderB (Rgn.sq HO0_1.out) gb434 (Nat.le_of_eq hg.symm)) hb); have BK434 := Aside0.mk (hbox); have GW434 := Aside0.mk ((by rw [hg]; exact (by first | exact HK.out.1 | exact (show Kept w _ (fun k_ => P0_0_ k_ ∨ P0_1_ k_) from by repeat (first | (with_reducible first | exact HK.out | apply Kept.alloc | apply Kept.drewN | apply Kept.drew | refine Kept.setCell ?_ (.inr GW433.out) _) | exact HK.out)).1) : w.heap.size ≤ gb434)); replace HK := Aside0.mk (Kept.below (S := (fun k_ => P0_0_ k_ ∨ P0_1_ k_)) (by repeat (first | (with_reducible first | exact HK.out | apply Kept.alloc | apply Kept.drewN | apply Kept.drew | refine Kept.setCell ?_ (.inr GW433.out) _) | exact HK.out)) hb); have GE434 := Aside0.mk (Rgn.ge hg HB.out); replace HB := Aside0.mk (below_step (Rgn.bq HB.out) hb); have NB433_434 := Aside0.mk (Rgn.nl hg BK433.out); have NB434_433 := Aside0.mk (Rgn.ng hg BK433.out); replace BK433 := Aside0.mk (Rgn.bb BK433.out hb); clear hb hbox hg) | ((with_reducible refine gate_dst (N := 4) rfl ?_); (try (refine gate_guard (by rfl) ?_; dsimp only)); refine Rgn.bx 4 #[.slice none 0 0, .slice none 0 0] 29 ?_; intro gb435 hg w7 hbox hb; replace HO0_0 := Aside0.mk (Kd.R_below (Rgn.rq HO0_0.out) hb); replace HO0_1 := Aside0.mk (Kd.S_below (Kd.S_elderB (Rgn.sq HO0_1.out) gb435 (Nat.le_of_eq hg.symm)) hb); have BK435 := Aside0.mk (hbox); have GW435 := Aside0.mk ((by rw [hg]; exact (by first | exact HK.out.1 | exact (show Kept w _ (fun k_ => P0_0_ k_ ∨ P0_1_ k_) from by repeat (first | (with_reducible first | exact HK.out | apply Kept.alloc | apply Kept.drewN | apply Kept.drew | refine Kept.setCell ?_ (.inr GW433.out) _ | refine Kept.setCell ?_ (.inr GW434.out) _) | exact HK.out)).1) : w.heap.size ≤ gb435)); replace HK := Aside0.mk (Kept.below (S := (fun k_ => P0_0_ k_ ∨ P0_1_ k_)) (by repeat (first | (with_reducible first | exact HK.out | apply Kept.alloc | apply Kept.drewN | apply Kept.drew | refine Kept.setCell ?_ (.inr GW433.out) _ | refine Kept.setCell ?_ (.inr GW434.out) _) | exact HK.out)) hb); have GE435 := Aside0.mk (Rgn.ge hg HB.out); replace HB := Aside0.mk (below_step (Rgn.bq HB.out) hb); have NB433_435 := Aside0.mk (Rgn.nl hg BK433.out); have NB435_433 := Aside0.mk (Rgn.ng hg BK433.out); replace BK433 := Aside0.mk (Rgn.bb BK433.out hb); have NB434_435 := Aside0.mk (Rgn.nl hg BK434.out); have NB435_434 := Aside0.mk (Rgn.ng hg BK434.out); replace BK434 := Aside0.mk (Rgn.bb BK434.out hb); clear hb hbox hg))
 (try simp only [Act.put, List.setIfInBounds_toArray, List.set_cons_zero, List.set_cons_succ])
 go_cut [20] (fun v20 wc => ∃ (kq : Nat) (x20_2 : Bool), v20 = .bool x20_2 ∧ Aside0 (spec_l1Do.j0 kq x20_2 l0_0 l0_1 a1_0 a1_1 l1_2 = some (r1, r2, r3)) ∧ Aside0 (kq ≤ k) ∧ Aside0 (Kd.R (Kd.int .u8) 5 wc w0.heap.size (fun k_ => (P0_0_ k_ ∨ w.heap.size ≤ k_)) (.slice Ao4 l0_0.length co4) l0_0) ∧ Aside0 (Kd.S k62 62 wc w0.heap.size (fun k_ => ((P0_0_ k_ ∨ P0_1_ k_) ∨ w.heap.size ≤ k_) ∧ some k_ ≠ ((.slice Ao4 l0_0.length co4) : Value).ownBlock ∧ k_ ≠ gb433 ∧ k_ ≠ gb434 ∧ k_ ≠ gb435) (.slice A0_1 l0_1.length c0_1) l0_1) ∧ Aside0 (wc.heap[gb433]? = some (.cells #[(.slice Ao4 l0_0.length co4), (.slice A0_1 l0_1.length c0_1)] 29 (0, 0))) ∧ Aside0 (wc.heap[gb434]? = some (.cells #[.int .i64 a1_0, .int .i64 a1_1, (.slice A1_2 l1_2.length c1_2)] 93 (0, 0))) ∧ Aside0 (wc.heap[gb435]? = some (.cells #[(.slice none 0 0), (.slice none 0 0)] 29 (0, 0))) ∧ Aside0 (Kept w wc (fun k_ => P0_0_ k_ ∨ P0_1_ k_)) ∧ Aside0 (Below w0.heap.size w0 wc))
 case first =>
  have H := HC3.out
  clear HC3
  by_cases c8 : a1_0 = 2
  ·
   rw [if_pos c8] at H
   have c8b0 : (a1_0 == 2) = true := beq_iff_eq.mpr c8
   have c8b1 : (a1_0 != 2) = false := bne_eq_false_iff_eq.mpr c8
   clear c8
   (first | rw [c8b0] | (simp only [i64_w, i32_w]; rw [c8b0]) | skip)
   by_cases c9 : a1_1 = 0
   ·
    rw [if_pos c9] at H
    have c9b0 : (a1_1 == 0) = true := beq_iff_eq.mpr c9
    have c9b1 : (a1_1 != 0) = false := bne_eq_false_iff_eq.mpr c9
    clear c9
    have H' := Aside0.mk H
    clear H
    have hnb10 := NB434_433.out
    have hnc10 := NB433_434.out
    have hnb11 := NB434_435.out
    have hnc11 := NB435_434.out
    have hcz12_0 := Rgn.cz0 BK434.out
    have hcz12_1 := Rgn.cz1 BK434.out
    have hcz12_2 := Rgn.cz2 BK434.out
    have hfz12_0 := blk_frozen BK434.out 0
    have hfz12_1 := blk_frozen BK434.out 1
    have hfz12_2 := blk_frozen BK434.out 2
    go_wp2
    go_meet
    case rel => exact ⟨_, (((l1_2.length : Int) == 0)), (by first | rfl | (simp; done) | (simp [*]; done)), H', ⟨by first | omega | exact Nat.le_refl _⟩, ⟨by (with_reducible repeat (first | apply Kd.R_alloc | apply Kd.R_drewN | apply Kd.R_drew)); exact HO0_0.out⟩, ⟨by (with_reducible repeat (first | apply Kd.S_alloc | apply Kd.S_drewN | apply Kd.S_drew)); exact Kd.S_mono HO0_1.out (fun _ hk => ⟨hk.1.1.1.1, ⟨hk.1.1.1.2, ⟨hk.1.1.2, ⟨hk.1.2, hk.2⟩⟩⟩⟩)⟩, ⟨Rgn.kb BK433.out⟩, ⟨Rgn.kb BK434.out⟩, ⟨Rgn.kb BK435.out⟩, ⟨by repeat (first | (with_reducible first | exact HK.out | apply Kept.alloc | apply Kept.drewN | apply Kept.drew | refine Kept.setCell ?_ (.inr GW433.out) _ | refine Kept.setCell ?_ (.inr GW434.out) _ | refine Kept.setCell ?_ (.inr GW435.out) _) | exact HK.out)⟩, ⟨Rgn.bq HB.out⟩⟩
   ·
    rw [if_neg c9] at H
    have c9b0 : (a1_1 == 0) = false := beq_eq_false_iff_ne.mpr c9
    have c9b1 : (a1_1 != 0) = true := bne_iff_ne.mpr c9
    have H' := Aside0.mk H
    clear H
    have hnb13 := NB434_433.out
    have hnc13 := NB433_434.out
    have hnb14 := NB434_435.out
    have hnc14 := NB435_434.out
    have hcz15_0 := Rgn.cz0 BK434.out
    have hcz15_1 := Rgn.cz1 BK434.out
    have hcz15_2 := Rgn.cz2 BK434.out
    have hfz15_0 := blk_frozen BK434.out 0
    have hfz15_1 := blk_frozen BK434.out 1
    have hfz15_2 := blk_frozen BK434.out 2
    go_wp2
    go_meet
    case rel => exact ⟨_, (false), (by first | rfl | (simp; done) | (simp [*]; done)), H', ⟨by first | omega | exact Nat.le_refl _⟩, ⟨by (with_reducible repeat (first | apply Kd.R_alloc | apply Kd.R_drewN | apply Kd.R_drew)); exact HO0_0.out⟩, ⟨by (with_reducible repeat (first | apply Kd.S_alloc | apply Kd.S_drewN | apply Kd.S_drew)); exact Kd.S_mono HO0_1.out (fun _ hk => ⟨hk.1.1.1.1, ⟨hk.1.1.1.2, ⟨hk.1.1.2, ⟨hk.1.2, hk.2⟩⟩⟩⟩)⟩, ⟨Rgn.kb BK433.out⟩, ⟨Rgn.kb BK434.out⟩, ⟨Rgn.kb BK435.out⟩, ⟨by repeat (first | (with_reducible first | exact HK.out | apply Kept.alloc | apply Kept.drewN | apply Kept.drew | refine Kept.setCell ?_ (.inr GW433.out) _ | refine Kept.setCell ?_ (.inr GW434.out) _ | refine Kept.setCell ?_ (.inr GW435.out) _) | exact HK.out)⟩, ⟨Rgn.bq HB.out⟩⟩
  ·
   rw [if_neg c8] at H
   have c8b0 : (a1_0 == 2) = false := beq_eq_false_iff_ne.mpr c8
   have c8b1 : (a1_0 != 2) = true := bne_iff_ne.mpr c8
   (first | rw [c8b0] | (simp only [i64_w, i32_w]; rw [c8b0]) | skip)
   have H' := Aside0.mk H
   clear H
   have hnb16 := NB434_433.out
   have hnc16 := NB433_434.out
   have hnb17 := NB434_435.out
   have hnc17 := NB435_434.out
   have hcz18_0 := Rgn.cz0 BK434.out
   have hcz18_1 := Rgn.cz1 BK434.out
   have hcz18_2 := Rgn.cz2 BK434.out
   have hfz18_0 := blk_frozen BK434.out 0
   have hfz18_1 := blk_frozen BK434.out 1
   have hfz18_2 := blk_frozen BK434.out 2
   go_wp2
   go_meet
   case rel => exact ⟨_, (false), (by first | rfl | (simp; done) | (simp [*]; done)), H', ⟨by first | omega | exact Nat.le_refl _⟩, ⟨by (with_reducible repeat (first | apply Kd.R_alloc | apply Kd.R_drewN | apply Kd.R_drew)); exact HO0_0.out⟩, ⟨by (with_reducible repeat (first | apply Kd.S_alloc | apply Kd.S_drewN | apply Kd.S_drew)); exact Kd.S_mono HO0_1.out (fun _ hk => ⟨hk.1.1.1.1, ⟨hk.1.1.1.2, ⟨hk.1.1.2, ⟨hk.1.2, hk.2⟩⟩⟩⟩)⟩, ⟨Rgn.kb BK433.out⟩, ⟨Rgn.kb BK434.out⟩, ⟨Rgn.kb BK435.out⟩, ⟨by repeat (first | (with_reducible first | exact HK.out | apply Kept.alloc | apply Kept.drewN | apply Kept.drew | refine Kept.setCell ?_ (.inr GW433.out) _ | refine Kept.setCell ?_ (.inr GW434.out) _ | refine Kept.setCell ?_ (.inr GW435.out) _) | exact HK.out)⟩, ⟨Rgn.bq HB.out⟩⟩
 case rest =>
  clear HC3
  try clear c1
  try clear p2
  try clear c8
  try clear c8b0
  try clear c8b1
  try clear c9
  try clear c9b0
  try clear c9b1
  try clear c10
  try clear c11
  try clear c13
  try clear c14
  try clear c16
  try clear c17
  try clear hcz12_0 hcz12_1 hcz12_2
  try clear hcz15_0 hcz15_1 hcz15_2
  try clear hcz18_0 hcz18_1 hcz18_2
  try clear hfz12_0 hfz12_1 hfz12_2
  try clear hfz15_0 hfz15_1 hfz15_2
  try clear hfz18_0 hfz18_1 hfz18_2
  obtain ⟨kq, x20_2, rfl, HA, HJ2, HO_434000, HO_434001, BK433, BK434, BK435, HK, HB⟩ := hcut
  cases kq with
  | zero => exact absurd HA.out (by simp [spec_l1Do.j0])
  | succ kj2 =>
   have H := HA.out
   clear HA
   simp only [spec_l1Do.j0] at H
   by_cases c19 : x20_2 = true
   ·
    subst c19
    have H1 : (spec_l1Do.l0 kj2 0 l0_0 l0_1) = some (r1, r2, r3) := by rw [if_pos rfl] at H; exact H
    clear H
    have H := H1
    clear H1
    have H' := Aside0.mk H
    clear H
    go_wp2
    go_loopg [6] kj2 (fun kq v6 w' => ∃ (x6_2 : Int) (x434000_2 : List Int) (u434000 : Value), v6 = .int .i64 x6_2 ∧ Aside0 (spec_l1Do.l0 kq x6_2 x434000_2 l0_1 = some (r1, r2, r3)) ∧ Aside0 (kq ≤ kj2) ∧ Aside0 (Kd.R (Kd.int .u8) 5 w' w0.heap.size (fun k_ => (P0_0_ k_ ∨ w.heap.size ≤ k_)) u434000 x434000_2) ∧ Aside0 (Kd.S k62 62 w' w0.heap.size (fun k_ => ((P0_0_ k_ ∨ P0_1_ k_) ∨ w.heap.size ≤ k_) ∧ some k_ ≠ (u434000 : Value).ownBlock ∧ k_ ≠ gb433 ∧ k_ ≠ gb434 ∧ k_ ≠ gb435) (.slice A0_1 l0_1.length c0_1) l0_1) ∧ Aside0 (w'.heap[gb433]? = some (.cells #[u434000, (.slice A0_1 l0_1.length c0_1)] 29 (0, 0))) ∧ Aside0 (w'.heap[gb434]? = some (.cells #[.int .i64 a1_0, .int .i64 a1_1, (.slice A1_2 l1_2.length c1_2)] 93 (0, 0))) ∧ Aside0 (w'.heap[gb435]? = some (.cells #[(.slice none 0 0), (.slice none 0 0)] 29 (0, 0))) ∧ Aside0 (Kept w w' (fun k_ => P0_0_ k_ ∨ P0_1_ k_)) ∧ Aside0 (Below w0.heap.size w0 w'))
    case atStart => exact ⟨(0), (l0_0), (.slice Ao4 l0_0.length co4), (by first | rfl | (simp; done) | (simp [*]; done)), H', ⟨Nat.le_refl _⟩, ⟨Rgn.rq HO_434000.out⟩, ⟨by (with_reducible repeat (first | apply Kd.S_alloc | apply Kd.S_drewN | apply Kd.S_drew)); exact HO_434001.out⟩, ⟨Rgn.kb BK433.out⟩, ⟨Rgn.kb BK434.out⟩, ⟨Rgn.kb BK435.out⟩, ⟨by repeat (first | (with_reducible first | exact HK.out | apply Kept.alloc | apply Kept.drewN | apply Kept.drew | refine Kept.setCell ?_ (.inr GW433.out) _ | refine Kept.setCell ?_ (.inr GW434.out) _ | refine Kept.setCell ?_ (.inr GW435.out) _) | exact HK.out)⟩, ⟨Rgn.bq HB.out⟩⟩
    case round =>
     clear H'
     try clear c1
     try clear p2
     try clear c8
     try clear c8b0
     try clear c8b1
     try clear c9
     try clear c9b0
     try clear c9b1
     try clear c10
     try clear c11
     try clear c13
     try clear c14
     try clear c16
     try clear c17
     try clear c19
     try clear hcz12_0 hcz12_1 hcz12_2
     try clear hcz15_0 hcz15_1 hcz15_2
     try clear hcz18_0 hcz18_1 hcz18_2
     try clear hfz12_0 hfz12_1 hfz12_2
     try clear hfz15_0 hfz15_1 hfz15_2
     try clear hfz18_0 hfz18_1 hfz18_2
     try clear p2
     obtain ⟨x6_2, x434000_2, u434000, rfl, HA, HK2, HO_434000, HO_434001, BK433, BK434, BK435, HK, HB⟩ := hrel
     cases gk with
     | zero => exact absurd HA.out (by simp [spec_l1Do.l0])
     | succ k2 =>
      have H := HA.out
      clear HA
      simp only [spec_l1Do.l0] at H
      by_cases c20 : x6_2 < (l0_1.length : Int)
      ·
       rw [if_pos c20] at H
       have c20b0 : decide (x6_2 < (l0_1.length : Int)) = true := decide_eq_true c20
       clear c20
       by_cases c21 : 0 ≤ x6_2
       ·
        rw [if_pos c21] at H
        have c21b0 : decide (0 ≤ x6_2) = true := decide_eq_true c21
        clear c21
        replace H := Option.bind_eq_some_iff.mp H
        obtain ⟨t438, A220, H⟩ := H
        replace H : (spec_l1Do.l0 k2 (wrap64 (x6_2 + 1)) t438 l0_1) = some (r1, r2, r3) := H
        have A22 := Aside0.mk A220
        clear A220
        have H' := Aside0.mk H
        clear H
        have hnb23 := NB433_434.out
        have hnc23 := NB434_433.out
        have hnb24 := NB433_435.out
        have hnc24 := NB435_433.out
        have hcz25_0 := Rgn.cz0 BK433.out
        have hcz25_1 := Rgn.cz1 BK433.out
        have hfz25_0 := blk_frozen BK433.out 0
        have hfz25_1 := blk_frozen BK433.out 1
        try go_wp2
        replace HO_434000 := Aside0.mk (Kd.R_drew HO_434000.out)
        replace HO_434001 := Aside0.mk (Kd.S_drew HO_434001.out)
        replace BK433 := Aside0.mk (blk_drew BK433.out)
        replace BK434 := Aside0.mk (blk_drew BK434.out)
        replace BK435 := Aside0.mk (blk_drew BK435.out)
        replace HK := Aside0.mk (Kept.drew HK.out)
        replace HB := Aside0.mk (below_drew1 HB.out)
        have p436 : 0 ≤ (x6_2 : Int) := of_decide_eq_true (by first | (with_reducible assumption) | assumption)
        have q436 : x6_2 < (l0_1.length : Int) := of_decide_eq_true (by first | (with_reducible assumption) | assumption)
        obtain ⟨ad436, A436_1, c436_1, e436, hx436_0, hx436_1, hl436_1, hi436_1⟩ := at_T62 (Kd.S_reads' HO_434001.out).2.2 x6_2 p436 q436
        cases e436
        obtain ⟨ce436, hce436, hMe436, hcc436⟩ := Kd.V_get (Kd.S_V (base' := w0.heap.size) HO_434001.out) z62 x6_2 p436 (by first | exact q436 | exact of_decide_eq_true (by first | (with_reducible assumption) | assumption) | (have e_ := (Kd.S_reads' HO_434001.out).1; omega))
        obtain ⟨ua436_1, uc436_1, rfl, ul436_1, ge436_1⟩ := k62_openF hMe436
        have hv436_1 := hcc436 1 _ rfl
        rw [add_field _ _ 1 (by omega)] at hv436_1
        replace hv436_1 := Option.some.inj (hv436_1.symm.trans hx436_1)
        injection hv436_1 with hva_ hvn_ hvc_
        rw [hva_] at ge436_1
        rw [hvc_] at ul436_1
        have HL436_1 := Aside0.mk (show Kd.V (Kd.int .u8) 5 _ w0.heap.size _ _ ((rd_T62 l0_1 x6_2).f1) from Kd.V_mk ul436_1 ge436_1)
        clear hva_ hvn_ hvc_ ge436_1 ul436_1
        clear hcc436 hce436
        have HR436_1 := Aside0.mk hi436_1
        have HC436_1 := Aside0.mk hl436_1
        clear hi436_1 hl436_1
        replace p436 := eq_true p436
        replace q436 := eq_true q436
        have p437 : 0 ≤ (x6_2 : Int) := of_decide_eq_true (by first | (with_reducible assumption) | assumption)
        have q437 : x6_2 < (l0_1.length : Int) := of_decide_eq_true (by first | (with_reducible assumption) | assumption)
        obtain ⟨ad437, A437_1, c437_1, e437, hx437_0, hx437_1, hl437_1, hi437_1⟩ := at_T62 (Kd.S_reads' HO_434001.out).2.2 x6_2 p437 q437
        obtain rfl : ad436 = ad437 := (by injection e437)
        obtain ⟨ce437, hce437, hMe437, hcc437⟩ := Kd.V_get (Kd.S_V (base' := w0.heap.size) HO_434001.out) z62 x6_2 p437 (by first | exact q437 | exact of_decide_eq_true (by first | (with_reducible assumption) | assumption) | (have e_ := (Kd.S_reads' HO_434001.out).1; omega))
        obtain ⟨ua437_1, uc437_1, rfl, ul437_1, ge437_1⟩ := k62_openF hMe437
        have hv437_1 := hcc437 1 _ rfl
        rw [add_field _ _ 1 (by omega)] at hv437_1
        replace hv437_1 := Option.some.inj (hv437_1.symm.trans hx437_1)
        injection hv437_1 with hva_ hvn_ hvc_
        rw [hva_] at ge437_1
        rw [hvc_] at ul437_1
        have HL437_1 := Aside0.mk (show Kd.V (Kd.int .u8) 5 _ w0.heap.size _ _ ((rd_T62 l0_1 x6_2).f1) from Kd.V_mk ul437_1 ge437_1)
        clear hva_ hvn_ hvc_ ge437_1 ul437_1
        clear hcc437 hce437
        have HR437_1 := Aside0.mk hi437_1
        have HC437_1 := Aside0.mk hl437_1
        clear hi437_1 hl437_1
        replace p437 := eq_true p437
        replace q437 := eq_true q437
        have ea_ := Option.some.inj (hx436_1.symm.trans hx437_1)
        injection ea_ with ea_ en_ ec_
        subst ea_
        subst ec_
        clear en_
        obtain ⟨Ao27, co27, eo27⟩ := Kd.R_slice HO_434000.out
        (first | subst eo27 | (injection eo27 with f1_ f2_ f3_; have f4_ := f1_.symm; have f5_ := f3_.symm; clear f1_ f2_ f3_; subst f4_; subst f5_))
        refine start_ (n := 15) (S := fun w' => w'.cell? ⟨gb433, 0, none⟩ = some (.slice Ao27 x434000_2.length co27) ∧ w'.cell? ⟨gb433, 1, none⟩ = some (.slice (some ad436) l0_1.length c0_1) ∧ w'.cell? (ad436.add ((x6_2).toNat * 2)) = some (.int .i64 ((rd_T62 l0_1 x6_2).f0)) ∧ w'.cell? ⟨(ad436.add ((x6_2).toNat * 2)).block, (ad436.add ((x6_2).toNat * 2)).off + 1, none⟩ = some (.slice A436_1 ((rd_T62 l0_1 x6_2).f1).length c436_1) ∧ w'.cell? (ad436.add ((x6_2).toNat * 2)) = some (.int .i64 ((rd_T62 l0_1 x6_2).f0)) ∧ w'.cell? ⟨(ad436.add ((x6_2).toNat * 2)).block, (ad436.add ((x6_2).toNat * 2)).off + 1, none⟩ = some (.slice A436_1 ((rd_T62 l0_1 x6_2).f1).length c436_1)) (ds := []) #[false, false, false, false, false, false, false, false, false, false, false, false, false, false, false] (by kernel_rfl) rfl rfl ⟨(blk_cell BK433.out 0).trans rfl, (blk_cell BK433.out 1).trans rfl, hx436_0, hx436_1, hx437_0, hx437_1⟩ (fun hHeld => ?_); refine with_tabW spec_l1Do.tab5 spec_l1Do.bits5 (fun HT_ HW_ => ?_)
        generalize wr.drew = w26 at HO_434000 HO_434001 BK433 BK434 BK435 HK HB HL436_1 HL437_1 HR436_1 HR437_1 hx436_0 hx436_1 hx437_0 hx437_1 hHeld ⊢
        refine Rgn.pu HT_.out 0 28 ?_
        refine Rgn.pu HT_.out 2 30 ?_
        refine Rgn.pu HT_.out 4 32 ?_
        refine Rgn.pu HT_.out 8 36 ?_
        refine Rgn.pu HT_.out 10 38 ?_
        refine Rgn.tk HT_.out HW_.out 1 29 hHeld ?_
        refine Rgn.tk HT_.out HW_.out 3 31 hHeld ?_
        refine Rgn.pu HT_.out 5 33 ?_
        refine Rgn.pu HT_.out 6 34 ?_
        refine Rgn.tk HT_.out HW_.out 7 35 hHeld ?_
        refine Rgn.tk HT_.out HW_.out 9 37 hHeld ?_
        refine Rgn.pu HT_.out 11 39 ?_
        refine Rgn.pu HT_.out 12 40 ?_
        refine Rgn.tk HT_.out HW_.out 13 41 hHeld ?_
        refine one_ (i := 14) (N := some 42) #[true, true, true, true, true, true, true, true, true, true, true, true, true, true, true] rfl rfl (one_of HT_.out (by kernel_rfl)) (by decide) (fun K hK => ?_)
        refine Rgn.gs Try.func76 #[.slice Ao27 x434000_2.length co27, .int .i64 ((rd_T62 l0_1 x6_2).f0), .slice A436_1 ((rd_T62 l0_1 x6_2).f1).length c436_1] ?_
        with_reducible refine (spec_l1Put.calls k2 (fun k_ => some k_ = (.slice Ao27 x434000_2.length co27 : Value).ownBlock) (.slice Ao27 x434000_2.length co27) x434000_2 ((rd_T62 l0_1 x6_2).f0) _ _ ((rd_T62 l0_1 x6_2).f1) t438 w0 _ ?side1 ?side2 ?side3 ?side4 A22.out).mono ?_
        (case side1 => exact Rgn.bq HB.out)
        (case side2 => exact Kd.R_tight rfl HO_434000.out)
        (case side3 => exact Kd.C_kept_ownV (HL437_1.out) (fun k_ hk_ hs_ => (hk_.2.1) hs_))
        (case side4 => exact HC437_1.out)
        rintro e w28 ⟨rfl, hy0, hb, hkp⟩
        have HS2_ := cell_kept (hHeld.2.2.1) hkp (by first | (rw [add_block]; exact (fun hs_ => (((Kd.S_R HO_434001.out).1 _ rfl).2.1) hs_)) | (show ¬ _; simp only [add_block]; exact (fun hs_ => (((Kd.S_R HO_434001.out).1 _ rfl).2.1) hs_)) | exact (fun hs_ => (((Kd.S_R HO_434001.out).1 _ rfl).2.1) hs_))
        have HS3_ := cell_kept (hHeld.2.2.2.1) hkp (by first | (rw [add_block]; exact (fun hs_ => (((Kd.S_R HO_434001.out).1 _ rfl).2.1) hs_)) | (show ¬ _; simp only [add_block]; exact (fun hs_ => (((Kd.S_R HO_434001.out).1 _ rfl).2.1) hs_)) | exact (fun hs_ => (((Kd.S_R HO_434001.out).1 _ rfl).2.1) hs_))
        have HS4_ := cell_kept (hHeld.2.2.2.2.1) hkp (by first | (rw [add_block]; exact (fun hs_ => (((Kd.S_R HO_434001.out).1 _ rfl).2.1) hs_)) | (show ¬ _; simp only [add_block]; exact (fun hs_ => (((Kd.S_R HO_434001.out).1 _ rfl).2.1) hs_)) | exact (fun hs_ => (((Kd.S_R HO_434001.out).1 _ rfl).2.1) hs_))
        have HS5_ := cell_kept (hHeld.2.2.2.2.2) hkp (by first | (rw [add_block]; exact (fun hs_ => (((Kd.S_R HO_434001.out).1 _ rfl).2.1) hs_)) | (show ¬ _; simp only [add_block]; exact (fun hs_ => (((Kd.S_R HO_434001.out).1 _ rfl).2.1) hs_)) | exact (fun hs_ => (((Kd.S_R HO_434001.out).1 _ rfl).2.1) hs_))
        refine ⟨_, rfl, ?_⟩
        replace HO_434001 := Aside0.mk (Kd.S_mono (ok' := fun k_ => ((P0_0_ k_ ∨ P0_1_ k_) ∨ w.heap.size ≤ k_) ∧ some k_ ≠ (.slice Ao27 x434000_2.length co27 : Value).ownBlock ∧ k_ ≠ gb433 ∧ k_ ≠ gb434 ∧ k_ ≠ gb435) (Kd.S_keptB (HO_434001.out) hkp (fun k_ hk_ hs_ => (hk_.2.1) hs_)) (fun k_ hk_ => ⟨hk_.1.1, hk_.1.2.1, hk_.1.2.2.1, hk_.1.2.2.2.1, hk_.1.2.2.2.2⟩))
        replace BK433 := Aside0.mk (blk_kept (Rgn.kb BK433.out) hkp (fun hs_ => (fun e_ => (Kd.R_ne HO_434000.out BK433.out (by decide)) e_) hs_))
        replace BK434 := Aside0.mk (blk_kept (Rgn.kb BK434.out) hkp (fun hs_ => (fun e_ => (Kd.R_ne HO_434000.out BK434.out (by decide)) e_) hs_))
        replace BK435 := Aside0.mk (blk_kept (Rgn.kb BK435.out) hkp (fun hs_ => (fun e_ => (Kd.R_ne HO_434000.out BK435.out (by decide)) e_) hs_))
        replace HK := Aside0.mk (Kept.then_ (S := (fun k_ => P0_0_ k_ ∨ P0_1_ k_)) (by repeat (first | (with_reducible first | exact HK.out | apply Kept.alloc | apply Kept.drewN | apply Kept.drew | refine Kept.setCell ?_ (.inr GW433.out) _ | refine Kept.setCell ?_ (.inr GW434.out) _ | refine Kept.setCell ?_ (.inr GW435.out) _) | exact HK.out)) hkp (fun k_ hs_ => (Or.imp_left Or.inl (HO_434000.out.1 k_ hs_.symm))))
        replace HO_434000 := Aside0.mk (Kd.R_reok rfl hy0 (fun k_ e_ => HO_434000.out.1 k_ e_))
        replace HB := Aside0.mk (hb)
        clear HL436_1 HL437_1
        (try clear hb)
        (try clear hkp)
        (try clear hy0)
        refine hK.out _ _ ⟨(blk_cell BK433.out 0).trans rfl, (blk_cell BK433.out 1).trans rfl, HS2_, HS3_, HS4_, HS5_⟩ (fun hHeld => ?_)
        clear hK K
        refine norm_ (a' := ?_) ?_ ?_
        rotate_left
        ·
         show Act.put _ (some 42) _ = _
         simp only [Act.put, List.setIfInBounds_toArray, List.set_cons_zero, List.set_cons_succ, i64_w, i32_w]
         rfl
        refine done_ (done_of HT_.out (by kernel_rfl)) ?_
        try go_wp2
        go_roundg k2
        case measure => have := HJ2.out; have := HK2.out; omega
        case rel => exact ⟨(wrap64 (x6_2 + 1)), (t438), (.slice Ao27 x434000_2.length co27), (by first | rfl | (simp; done) | (simp [*]; done)), H', ⟨by have := HJ2.out; have := HK2.out; omega⟩, ⟨Rgn.rq HO_434000.out⟩, ⟨by (with_reducible repeat (first | apply Kd.S_alloc | apply Kd.S_drewN | apply Kd.S_drew)); exact HO_434001.out⟩, ⟨Rgn.kb BK433.out⟩, ⟨Rgn.kb BK434.out⟩, ⟨Rgn.kb BK435.out⟩, ⟨by repeat (first | (with_reducible first | exact HK.out | apply Kept.alloc | apply Kept.drewN | apply Kept.drew | refine Kept.setCell ?_ (.inr GW433.out) _ | refine Kept.setCell ?_ (.inr GW434.out) _ | refine Kept.setCell ?_ (.inr GW435.out) _) | exact HK.out)⟩, ⟨Rgn.bq HB.out⟩⟩
       ·
        rw [if_neg c21] at H
        exact absurd H (by simp)
      ·
       rw [if_neg c20] at H
       have c20b0 : decide (x6_2 < (l0_1.length : Int)) = false := decide_eq_false c20
       clear c20
       obtain ⟨y439, hy439⟩ : ∃ y_ : List (S62), y_ = (([] : List (S62))) := ⟨_, rfl⟩
       replace H : (some (x434000_2, y439, true)) = some (r1, r2, r3) := by first | (rw [hy439]; with_reducible exact H) | (have H2_ := (Option.bind_some _ _).symm.trans H; rw [hy439]; with_reducible exact H2_) | (have H2_ := (Option.bind_some _ _).symm.trans H; with_reducible exact H2_) | with_reducible exact H | (rw [hy439]; exact H) | exact H
       have Ny439 := Aside0.mk hy439
       clear hy439
       simp only [Option.some.injEq, Prod.mk.injEq] at H
       obtain ⟨rfl, rfl, rfl⟩ := H
       have hnb29 := NB433_434.out
       have hnc29 := NB434_433.out
       have hnb30 := NB433_435.out
       have hnc30 := NB435_433.out
       have hcz31_0 := Rgn.cz0 BK433.out
       have hcz31_1 := Rgn.cz1 BK433.out
       have hfz31_0 := blk_frozen BK433.out 0
       have hfz31_1 := blk_frozen BK433.out 1
       go_wp2_with (first | ((with_reducible refine gate_dst (N := 43) rfl ?_); (try (refine gate_guard (by rfl) ?_; dsimp only)); refine Kd.S_lit k62 _ 62 ?hg (N := 43) ?hd (xs := ([] : List (S62))) (inner := []) (ok := (fun k_ => ((P0_0_ k_ ∨ P0_1_ k_) ∨ w.heap.size ≤ k_) ∧ some k_ ≠ (u434000 : Value).ownBlock ∧ k_ ≠ gb433 ∧ k_ ≠ gb434 ∧ k_ ≠ gb435)) (okp := (fun k_ => ((P0_0_ k_ ∨ P0_1_ k_) ∨ w.heap.size ≤ k_) ∧ some k_ ≠ (u434000 : Value).ownBlock ∧ k_ ≠ gb433 ∧ k_ ≠ gb434 ∧ k_ ≠ gb435)) ?hr ?hp (fun _ hk => hk) ((show ∀ k_, wr.heap.size ≤ k_ → (fun k_ => ((P0_0_ k_ ∨ P0_1_ k_) ∨ w.heap.size ≤ k_) ∧ some k_ ≠ (u434000 : Value).ownBlock ∧ k_ ≠ gb433 ∧ k_ ≠ gb434 ∧ k_ ≠ gb435) k_ from fun k_ hk => ⟨(.inr (Nat.le_trans (by first | exact HK.out.1 | exact (show Kept w _ (fun k_ => P0_0_ k_ ∨ P0_1_ k_) from by repeat (first | (with_reducible first | exact HK.out | apply Kept.alloc | apply Kept.drewN | apply Kept.drew | refine Kept.setCell ?_ (.inr GW433.out) _ | refine Kept.setCell ?_ (.inr GW434.out) _ | refine Kept.setCell ?_ (.inr GW435.out) _) | exact HK.out)).1) hk)), Kd.fresh' (Kd.R_lt (Rgn.rq HO_434000.out)) k_ hk, Kd.freshB (g := gb433) (o := .cells #[u434000, .slice A0_1 l0_1.length c0_1] 29 (0, 0)) (Rgn.kb BK433.out) k_ hk, Kd.freshB (g := gb434) (o := .cells #[.int .i64 a1_0, .int .i64 a1_1, .slice A1_2 l1_2.length c1_2] 93 (0, 0)) (Rgn.kb BK434.out) k_ hk, Kd.freshB (g := gb435) (o := .cells #[.slice none 0 0, .slice none 0 0] 29 (0, 0)) (Rgn.kb BK435.out) k_ hk⟩) _ (Nat.le_refl _)) (Below.refl _ _) (Nat.le_refl _) (by simp) ?_; (case hd => rfl); (case hg => rfl); (case hr => first | (go_simp; done) | (go_simp; rfl)); (case hp => exact (Reps.none _ _)); intro v440 w32 ho33 hb hg_ hnew_; clear hg_ hnew_; (first | rw [← Ny439.out] at ho33 | (simp only [Int.reduceToNat] at ho33; rw [← Ny439.out] at ho33)); replace HO_434000 := Aside0.mk (Kd.R_below (Rgn.rq HO_434000.out) hb); replace HO_434001 := Aside0.mk (Kd.S_elder' (Rgn.sq HO_434001.out) (Kd.S_base ho33) hb); have HO441 := Aside0.mk (Kd.S_lower ho33 (below_size (Rgn.bq HB.out))); replace BK433 := Aside0.mk (Rgn.bb BK433.out hb); replace BK434 := Aside0.mk (Rgn.bb BK434.out hb); replace BK435 := Aside0.mk (Rgn.bb BK435.out hb); replace HK := Aside0.mk (Kept.below (S := (fun k_ => P0_0_ k_ ∨ P0_1_ k_)) (by repeat (first | (with_reducible first | exact HK.out | apply Kept.alloc | apply Kept.drewN | apply Kept.drew | refine Kept.setCell ?_ (.inr GW433.out) _ | refine Kept.setCell ?_ (.inr GW434.out) _ | refine Kept.setCell ?_ (.inr GW435.out) _) | exact HK.out)) hb); replace HB := Aside0.mk (below_step (Rgn.bq HB.out) hb); clear hb ho33; obtain ⟨Ao34, co34, eo34⟩ := Kd.S_slice HO441.out; subst eo34; obtain ⟨hcz35_0, hcz35_1, hfz35_0, hfz35_1⟩ := Rgn.c2 BK433.out; obtain ⟨Ao36, co36, eo36⟩ := Kd.R_slice HO_434000.out; subst eo36; have hnb37 := NB435_434.out; have hnc37 := NB434_435.out; obtain ⟨hcz38_0, hcz38_1, hfz38_0, hfz38_1⟩ := Rgn.c2 BK435.out))
       refine bodyPost_ret (results_ct rfl _ _ gb435 29 #[.slice Ao36 x434000_2.length co36, .slice Ao34 y439.length co34] (0, 0) _ rfl (by (with_reducible repeat (first | refine blk_drewN ?_ _ | refine blk_drew ?_ | refine blk_alloc ?_ _)); refine blk_put (cs := #[.slice Ao36 x434000_2.length co36, .slice none 0 0]) ?_ 1 _ rfl; (with_reducible repeat (first | refine blk_drewN ?_ _ | refine blk_drew ?_ | refine blk_alloc ?_ _)); refine blk_put (cs := #[.slice none 0 0, .slice none 0 0]) ?_ 0 _ rfl; (with_reducible repeat (first | refine blk_drewN ?_ _ | refine blk_drew ?_ | refine blk_alloc ?_ _)); refine blk_far ?_ NB435_433.out _; (with_reducible repeat (first | refine blk_drewN ?_ _ | refine blk_drew ?_ | refine blk_alloc ?_ _)); exact BK435.out) Try.underlying29 rfl (by kernel_rfl)) rfl ?_
       exact ⟨_, _, by first | rfl | (simp [errW_none, errW_some] <;> rfl) | (simp [*, errW_none, errW_some] <;> rfl), by (with_reducible repeat (first | apply Kd.R_alloc | apply Kd.R_drewN | apply Kd.R_drew)); exact Kd.R_mono (Kd.R_far (p := ⟨gb435, 1, none⟩) (Kd.R_far (p := ⟨gb435, 0, none⟩) (Kd.R_far (p := ⟨gb433, 1, none⟩) (Kd.R_types (Kd.R_types HO_434000.out BK433.out (by decide)) BK435.out (by decide)) (fun _ hk => hk.1.2) (.slice Ao34 y439.length co34)) (fun _ hk => hk.2) (.slice Ao36 x434000_2.length co36)) (fun _ hk => hk.2) (.slice Ao34 y439.length co34)) (fun _ hk => hk.1.1), by (with_reducible repeat (first | apply Kd.S_alloc | apply Kd.S_drewN | apply Kd.S_drew)); exact Kd.S_mono (Kd.S_far (p := ⟨gb435, 1, none⟩) (Kd.S_far (p := ⟨gb435, 0, none⟩) (Kd.S_far (p := ⟨gb433, 1, none⟩) (Kd.S_mono (Kd.S_mono HO441.out (fun k_ hk => (⟨hk, hk.2.2.1⟩ : _ ∧ k_ ≠ gb433))) (fun k_ hk => (⟨hk, hk.1.2.2.2.2⟩ : _ ∧ k_ ≠ gb435))) (fun _ hk => hk.1.2) (.slice Ao34 y439.length co34)) (fun _ hk => hk.2) (.slice Ao36 x434000_2.length co36)) (fun _ hk => hk.2) (.slice Ao34 y439.length co34)) (fun _ hk => ⟨hk.1.1.1, hk.1.1.2.1⟩), Rgn.bq HB.out, by repeat (first | (with_reducible first | exact HK.out | apply Kept.alloc | apply Kept.drewN | apply Kept.drew | refine Kept.setCell ?_ (.inr GW433.out) _ | refine Kept.setCell ?_ (.inr GW434.out) _ | refine Kept.setCell ?_ (.inr GW435.out) _) | exact HK.out)⟩
   ·
    replace c19 := Bool.eq_false_iff.mpr c19
    subst c19
    have H1 : (if a1_0 = 1 then (if (l0_1.length : Int) = 600 then (some (l0_0, l0_1, false)) else (if a1_1 < 0 then (some (l0_0, l0_1, false)) else ((spec_l1Blocks.f l0_0 l0_1).bind fun t442 => (if a1_1 ≥ t442 then (some (l0_0, l0_1, false)) else (if (l1_2.length : Int) = 64 then ((spec_l1Copy.f l1_2).bind fun t443 => (if l0_1.length < 4398046511104 then (some (l0_0, (l0_1 ++ [(⟨a1_1, t443⟩ : S62)]), true)) else (none))) else (some (l0_0, l0_1, false))))))) else (some (l0_0, l0_1, false))) = some (r1, r2, r3) := by rw [if_neg (show ¬ (false = true) by decide)] at H; exact H
    clear H
    have H := H1
    clear H1
    by_cases c39 : a1_0 = 1
    ·
     rw [if_pos c39] at H
     have c39b0 : (a1_0 == 1) = true := beq_iff_eq.mpr c39
     have c39b1 : (a1_0 != 1) = false := bne_eq_false_iff_eq.mpr c39
     clear c39
     by_cases c40 : (l0_1.length : Int) = 600
     ·
      rw [if_pos c40] at H
      have c40b0 : ((l0_1.length : Int) == 600) = true := beq_iff_eq.mpr c40
      have c40b1 : ((l0_1.length : Int) != 600) = false := bne_eq_false_iff_eq.mpr c40
      clear c40
      simp only [Option.some.injEq, Prod.mk.injEq] at H
      obtain ⟨rfl, rfl, rfl⟩ := H
      try go_wp2
      replace HO_434000 := Aside0.mk (Kd.R_drew HO_434000.out)
      replace HO_434001 := Aside0.mk (Kd.S_drew HO_434001.out)
      replace BK433 := Aside0.mk (blk_drew BK433.out)
      replace BK434 := Aside0.mk (blk_drew BK434.out)
      replace BK435 := Aside0.mk (blk_drew BK435.out)
      replace HK := Aside0.mk (Kept.drew HK.out)
      replace HB := Aside0.mk (below_drew1 HB.out)
      refine start_ (n := 27) (S := fun w' => w'.cell? ⟨gb434, 0, none⟩ = some (.int .i64 a1_0) ∧ w'.cell? ⟨gb434, 1, none⟩ = some (.int .i64 a1_1) ∧ w'.cell? ⟨gb434, 2, none⟩ = some (.slice A1_2 l1_2.length c1_2) ∧ w'.cell? ⟨gb433, 0, none⟩ = some (.slice Ao4 l0_0.length co4) ∧ w'.cell? ⟨gb433, 1, none⟩ = some (.slice A0_1 l0_1.length c0_1)) (ds := []) #[false, false, false, false, false, false, false, false, false, false, false, false, false, false, false, false, false, false, false, false, false, false, false, false, false, false, false] (by kernel_rfl) rfl rfl ⟨(blk_cell BK434.out 0).trans rfl, (blk_cell BK434.out 1).trans rfl, (blk_cell BK434.out 2).trans rfl, (blk_cell BK433.out 0).trans rfl, (blk_cell BK433.out 1).trans rfl⟩ (fun hHeld => ?_); refine with_tabW spec_l1Do.tab8 spec_l1Do.bits8 (fun HT_ HW_ => ?_)
      generalize wc.drew = w41 at HO_434000 HO_434001 BK433 BK434 BK435 HK HB hHeld ⊢
      refine Rgn.pu HT_.out 0 46 ?_
      refine Rgn.tk HT_.out HW_.out 1 47 hHeld ?_
      refine Rgn.pu HT_.out 2 48 ?_
      refine Rgn.pu HT_.out 3 49 ?_
      refine Rgn.pu HT_.out 4 50 ?_
      refine Rgn.tk HT_.out HW_.out 5 51 hHeld ?_
      refine Rgn.pu HT_.out 6 52 ?_
      refine Rgn.pu HT_.out 7 53 ?_
      refine Rgn.pu HT_.out 8 54 ?_
      refine Rgn.pu HT_.out 9 55 ?_
      refine Rgn.pn HT_.out 10 56 ?_
      refine Rgn.pn HT_.out 11 57 ?_
      refine Rgn.pn HT_.out 12 58 ?_
      refine Rgn.pu HT_.out 13 59 ?_
      refine Rgn.pu HT_.out 14 60 ?_
      refine Rgn.pn HT_.out 15 61 ?_
      refine Rgn.pn HT_.out 16 62 ?_
      refine Rgn.pn HT_.out 17 63 ?_
      refine Rgn.pn HT_.out 18 64 ?_
      refine Rgn.pn HT_.out 19 65 ?_
      refine Rgn.pu HT_.out 20 66 ?_
      refine Rgn.pu HT_.out 21 67 ?_
      refine Rgn.pn HT_.out 22 68 ?_
      refine Rgn.pn HT_.out 23 69 ?_
      refine Rgn.pn HT_.out 24 70 ?_
      refine Rgn.pn HT_.out 25 71 ?_
      refine Rgn.pu HT_.out 26 72 ?_
      refine done_ (done_of HT_.out (by kernel_rfl)) ?_
      have hnb42 := NB433_434.out
      have hnc42 := NB434_433.out
      have hnb43 := NB433_435.out
      have hnc43 := NB435_433.out
      have hcz44_0 := Rgn.cz0 BK433.out
      have hcz44_1 := Rgn.cz1 BK433.out
      have hfz44_0 := blk_frozen BK433.out 0
      have hfz44_1 := blk_frozen BK433.out 1
      have hnb45 := NB435_434.out
      have hnc45 := NB434_435.out
      have hcz46_0 := Rgn.cz0 BK435.out
      have hcz46_1 := Rgn.cz1 BK435.out
      have hfz46_0 := blk_frozen BK435.out 0
      have hfz46_1 := blk_frozen BK435.out 1
      try go_wp2
      refine bodyPost_ret (results_ct rfl _ _ gb435 29 #[.slice Ao4 l0_0.length co4, .slice A0_1 l0_1.length c0_1] (0, 0) _ rfl (by (with_reducible repeat (first | refine blk_drewN ?_ _ | refine blk_drew ?_ | refine blk_alloc ?_ _)); refine blk_put (cs := #[.slice Ao4 l0_0.length co4, .slice none 0 0]) ?_ 1 _ rfl; (with_reducible repeat (first | refine blk_drewN ?_ _ | refine blk_drew ?_ | refine blk_alloc ?_ _)); refine blk_put (cs := #[.slice none 0 0, .slice none 0 0]) ?_ 0 _ rfl; (with_reducible repeat (first | refine blk_drewN ?_ _ | refine blk_drew ?_ | refine blk_alloc ?_ _)); exact BK435.out) Try.underlying29 rfl (by kernel_rfl)) rfl ?_
      exact ⟨_, _, by first | rfl | (simp [errW_none, errW_some] <;> rfl) | (simp [*, errW_none, errW_some] <;> rfl), by (with_reducible repeat (first | apply Kd.R_alloc | apply Kd.R_drewN | apply Kd.R_drew)); exact Kd.R_mono (Kd.R_far (p := ⟨gb435, 1, none⟩) (Kd.R_far (p := ⟨gb435, 0, none⟩) (Kd.R_types HO_434000.out BK435.out (by decide)) (fun _ hk => hk.2) (.slice Ao4 l0_0.length co4)) (fun _ hk => hk.2) (.slice A0_1 l0_1.length c0_1)) (fun _ hk => hk.1), by (with_reducible repeat (first | apply Kd.S_alloc | apply Kd.S_drewN | apply Kd.S_drew)); exact Kd.S_mono (Kd.S_far (p := ⟨gb435, 1, none⟩) (Kd.S_far (p := ⟨gb435, 0, none⟩) (Kd.S_mono HO_434001.out (fun k_ hk => (⟨hk, hk.2.2.2.2⟩ : _ ∧ k_ ≠ gb435))) (fun _ hk => hk.2) (.slice Ao4 l0_0.length co4)) (fun _ hk => hk.2) (.slice A0_1 l0_1.length c0_1)) (fun _ hk => ⟨hk.1.1, hk.1.2.1⟩), Rgn.bq HB.out, by repeat (first | (with_reducible first | exact HK.out | apply Kept.alloc | apply Kept.drewN | apply Kept.drew | refine Kept.setCell ?_ (.inr GW433.out) _ | refine Kept.setCell ?_ (.inr GW434.out) _ | refine Kept.setCell ?_ (.inr GW435.out) _) | exact HK.out)⟩
     ·
      rw [if_neg c40] at H
      have c40b0 : ((l0_1.length : Int) == 600) = false := beq_eq_false_iff_ne.mpr c40
      have c40b1 : ((l0_1.length : Int) != 600) = true := bne_iff_ne.mpr c40
      by_cases c47 : a1_1 < 0
      ·
       rw [if_pos c47] at H
       have c47b0 : decide (a1_1 < 0) = true := decide_eq_true c47
       clear c47
       simp only [Option.some.injEq, Prod.mk.injEq] at H
       obtain ⟨rfl, rfl, rfl⟩ := H
       try go_wp2
       replace HO_434000 := Aside0.mk (Kd.R_drew HO_434000.out)
       replace HO_434001 := Aside0.mk (Kd.S_drew HO_434001.out)
       replace BK433 := Aside0.mk (blk_drew BK433.out)
       replace BK434 := Aside0.mk (blk_drew BK434.out)
       replace BK435 := Aside0.mk (blk_drew BK435.out)
       replace HK := Aside0.mk (Kept.drew HK.out)
       replace HB := Aside0.mk (below_drew1 HB.out)
       refine start_ (n := 27) (S := fun w' => w'.cell? ⟨gb434, 0, none⟩ = some (.int .i64 a1_0) ∧ w'.cell? ⟨gb434, 1, none⟩ = some (.int .i64 a1_1) ∧ w'.cell? ⟨gb434, 2, none⟩ = some (.slice A1_2 l1_2.length c1_2) ∧ w'.cell? ⟨gb433, 0, none⟩ = some (.slice Ao4 l0_0.length co4) ∧ w'.cell? ⟨gb433, 1, none⟩ = some (.slice A0_1 l0_1.length c0_1)) (ds := []) #[false, false, false, false, false, false, false, false, false, false, false, false, false, false, false, false, false, false, false, false, false, false, false, false, false, false, false] (by kernel_rfl) rfl rfl ⟨(blk_cell BK434.out 0).trans rfl, (blk_cell BK434.out 1).trans rfl, (blk_cell BK434.out 2).trans rfl, (blk_cell BK433.out 0).trans rfl, (blk_cell BK433.out 1).trans rfl⟩ (fun hHeld => ?_); refine with_tabW spec_l1Do.tab8 spec_l1Do.bits8 (fun HT_ HW_ => ?_)
       generalize wc.drew = w48 at HO_434000 HO_434001 BK433 BK434 BK435 HK HB hHeld ⊢
       refine Rgn.pu HT_.out 0 46 ?_
       refine Rgn.tk HT_.out HW_.out 1 47 hHeld ?_
       refine Rgn.pu HT_.out 2 48 ?_
       refine Rgn.pu HT_.out 3 49 ?_
       refine Rgn.pu HT_.out 4 50 ?_
       refine Rgn.tk HT_.out HW_.out 5 51 hHeld ?_
       refine Rgn.pu HT_.out 6 52 ?_
       refine Rgn.pu HT_.out 7 53 ?_
       refine Rgn.pu HT_.out 8 54 ?_
       refine Rgn.pu HT_.out 9 55 ?_
       refine Rgn.pu HT_.out 10 56 ?_
       refine Rgn.tk HT_.out HW_.out 11 57 hHeld ?_
       refine Rgn.pu HT_.out 12 58 ?_
       refine Rgn.pu HT_.out 13 59 ?_
       refine Rgn.pu HT_.out 14 60 ?_
       refine Rgn.pn HT_.out 15 61 ?_
       refine Rgn.pn HT_.out 16 62 ?_
       refine Rgn.pn HT_.out 17 63 ?_
       refine Rgn.pn HT_.out 18 64 ?_
       refine Rgn.pn HT_.out 19 65 ?_
       refine Rgn.pu HT_.out 20 66 ?_
       refine Rgn.pu HT_.out 21 67 ?_
       refine Rgn.pn HT_.out 22 68 ?_
       refine Rgn.pn HT_.out 23 69 ?_
       refine Rgn.pn HT_.out 24 70 ?_
       refine Rgn.pn HT_.out 25 71 ?_
       refine Rgn.pu HT_.out 26 72 ?_
       refine done_ (done_of HT_.out (by kernel_rfl)) ?_
       have hnb49 := NB433_434.out
       have hnc49 := NB434_433.out
       have hnb50 := NB433_435.out
       have hnc50 := NB435_433.out
       have hcz51_0 := Rgn.cz0 BK433.out
       have hcz51_1 := Rgn.cz1 BK433.out
       have hfz51_0 := blk_frozen BK433.out 0
       have hfz51_1 := blk_frozen BK433.out 1
       have hnb52 := NB435_434.out
       have hnc52 := NB434_435.out
       have hcz53_0 := Rgn.cz0 BK435.out
       have hcz53_1 := Rgn.cz1 BK435.out
       have hfz53_0 := blk_frozen BK435.out 0
       have hfz53_1 := blk_frozen BK435.out 1
       try go_wp2
       refine bodyPost_ret (results_ct rfl _ _ gb435 29 #[.slice Ao4 l0_0.length co4, .slice A0_1 l0_1.length c0_1] (0, 0) _ rfl (by (with_reducible repeat (first | refine blk_drewN ?_ _ | refine blk_drew ?_ | refine blk_alloc ?_ _)); refine blk_put (cs := #[.slice Ao4 l0_0.length co4, .slice none 0 0]) ?_ 1 _ rfl; (with_reducible repeat (first | refine blk_drewN ?_ _ | refine blk_drew ?_ | refine blk_alloc ?_ _)); refine blk_put (cs := #[.slice none 0 0, .slice none 0 0]) ?_ 0 _ rfl; (with_reducible repeat (first | refine blk_drewN ?_ _ | refine blk_drew ?_ | refine blk_alloc ?_ _)); exact BK435.out) Try.underlying29 rfl (by kernel_rfl)) rfl ?_
       exact ⟨_, _, by first | rfl | (simp [errW_none, errW_some] <;> rfl) | (simp [*, errW_none, errW_some] <;> rfl), by (with_reducible repeat (first | apply Kd.R_alloc | apply Kd.R_drewN | apply Kd.R_drew)); exact Kd.R_mono (Kd.R_far (p := ⟨gb435, 1, none⟩) (Kd.R_far (p := ⟨gb435, 0, none⟩) (Kd.R_types HO_434000.out BK435.out (by decide)) (fun _ hk => hk.2) (.slice Ao4 l0_0.length co4)) (fun _ hk => hk.2) (.slice A0_1 l0_1.length c0_1)) (fun _ hk => hk.1), by (with_reducible repeat (first | apply Kd.S_alloc | apply Kd.S_drewN | apply Kd.S_drew)); exact Kd.S_mono (Kd.S_far (p := ⟨gb435, 1, none⟩) (Kd.S_far (p := ⟨gb435, 0, none⟩) (Kd.S_mono HO_434001.out (fun k_ hk => (⟨hk, hk.2.2.2.2⟩ : _ ∧ k_ ≠ gb435))) (fun _ hk => hk.2) (.slice Ao4 l0_0.length co4)) (fun _ hk => hk.2) (.slice A0_1 l0_1.length c0_1)) (fun _ hk => ⟨hk.1.1, hk.1.2.1⟩), Rgn.bq HB.out, by repeat (first | (with_reducible first | exact HK.out | apply Kept.alloc | apply Kept.drewN | apply Kept.drew | refine Kept.setCell ?_ (.inr GW433.out) _ | refine Kept.setCell ?_ (.inr GW434.out) _ | refine Kept.setCell ?_ (.inr GW435.out) _) | exact HK.out)⟩
      ·
       rw [if_neg c47] at H
       have c47b0 : decide (a1_1 < 0) = false := decide_eq_false c47
       clear c47
       replace H := Option.bind_eq_some_iff.mp H
       obtain ⟨t442, A540, H⟩ := H
       replace H : (if a1_1 ≥ t442 then (some (l0_0, l0_1, false)) else (if (l1_2.length : Int) = 64 then ((spec_l1Copy.f l1_2).bind fun t443 => (if l0_1.length < 4398046511104 then (some (l0_0, (l0_1 ++ [(⟨a1_1, t443⟩ : S62)]), true)) else (none))) else (some (l0_0, l0_1, false)))) = some (r1, r2, r3) := H
       have A54 := Aside0.mk A540
       clear A540
       by_cases c55 : a1_1 ≥ t442
       ·
        rw [if_pos c55] at H
        have c55b0 : decide (t442 ≤ a1_1) = true := decide_eq_true c55
        clear c55
        simp only [Option.some.injEq, Prod.mk.injEq] at H
        obtain ⟨rfl, rfl, rfl⟩ := H
        try go_wp2
        replace HO_434000 := Aside0.mk (Kd.R_drew HO_434000.out)
        replace HO_434001 := Aside0.mk (Kd.S_drew HO_434001.out)
        replace BK433 := Aside0.mk (blk_drew BK433.out)
        replace BK434 := Aside0.mk (blk_drew BK434.out)
        replace BK435 := Aside0.mk (blk_drew BK435.out)
        replace HK := Aside0.mk (Kept.drew HK.out)
        replace HB := Aside0.mk (below_drew1 HB.out)
        refine start_ (n := 27) (S := fun w' => w'.cell? ⟨gb434, 0, none⟩ = some (.int .i64 a1_0) ∧ w'.cell? ⟨gb434, 1, none⟩ = some (.int .i64 a1_1) ∧ w'.cell? ⟨gb434, 2, none⟩ = some (.slice A1_2 l1_2.length c1_2) ∧ w'.cell? ⟨gb433, 0, none⟩ = some (.slice Ao4 l0_0.length co4) ∧ w'.cell? ⟨gb433, 1, none⟩ = some (.slice A0_1 l0_1.length c0_1)) (ds := []) #[false, false, false, false, false, false, false, false, false, false, false, false, false, false, false, false, false, false, false, false, false, false, false, false, false, false, false] (by kernel_rfl) rfl rfl ⟨(blk_cell BK434.out 0).trans rfl, (blk_cell BK434.out 1).trans rfl, (blk_cell BK434.out 2).trans rfl, (blk_cell BK433.out 0).trans rfl, (blk_cell BK433.out 1).trans rfl⟩ (fun hHeld => ?_); refine with_tabW spec_l1Do.tab8 spec_l1Do.bits8 (fun HT_ HW_ => ?_)
        generalize wc.drew = w56 at HO_434000 HO_434001 BK433 BK434 BK435 HK HB hHeld ⊢
        refine Rgn.pu HT_.out 0 46 ?_
        refine Rgn.tk HT_.out HW_.out 1 47 hHeld ?_
        refine Rgn.pu HT_.out 2 48 ?_
        refine Rgn.pu HT_.out 3 49 ?_
        refine Rgn.pu HT_.out 4 50 ?_
        refine Rgn.tk HT_.out HW_.out 5 51 hHeld ?_
        refine Rgn.pu HT_.out 6 52 ?_
        refine Rgn.pu HT_.out 7 53 ?_
        refine Rgn.pu HT_.out 8 54 ?_
        refine Rgn.pu HT_.out 9 55 ?_
        refine Rgn.pu HT_.out 10 56 ?_
        refine Rgn.tk HT_.out HW_.out 11 57 hHeld ?_
        refine Rgn.pu HT_.out 12 58 ?_
        refine Rgn.pu HT_.out 13 59 ?_
        refine Rgn.pu HT_.out 14 60 ?_
        refine Rgn.pu HT_.out 15 61 ?_
        refine Rgn.tk HT_.out HW_.out 16 62 hHeld ?_
        refine Rgn.tk HT_.out HW_.out 17 63 hHeld ?_
        refine one_ (i := 18) (N := some 64) #[true, true, true, true, true, true, true, true, true, true, true, true, true, true, true, true, true, true, true, false, false, false, false, false, false, false, false] rfl rfl (one_of HT_.out (by kernel_rfl)) (by decide) (fun K hK => ?_)
        refine Rgn.gs Try.func70 #[.agg #[.slice Ao4 l0_0.length co4, .slice A0_1 l0_1.length c0_1]] ?_
        with_reducible refine (spec_l1Blocks.calls _ _ l0_0 _ _ l0_1 t442 _ ?side1 ?side2 ?side3 ?side4 A54.out).mono ?_
        (case side1 => exact Rgn.cq (Kd.R_reads' HO_434000.out).2.2)
        (case side2 => exact (Kd.R_reads' HO_434000.out).2.1)
        (case side3 => repeat (first | exact (Kd.S_reads' HO_434001.out).2.2 | (with_reducible refine Kd.C_alloc ?_ _) | (with_reducible refine Kd.C_drewN ?_ _) | (with_reducible refine Kd.C_drew ?_)))
        (case side4 => exact (Kd.S_reads' HO_434001.out).2.1)
        rintro e w57 ⟨rfl, hb⟩
        refine ⟨_, rfl, ?_⟩
        replace HO_434000 := Aside0.mk (Kd.R_below (Rgn.rq HO_434000.out) hb)
        replace HO_434001 := Aside0.mk (Kd.S_below (Rgn.sq HO_434001.out) hb)
        replace BK433 := Aside0.mk (Rgn.bb BK433.out hb)
        replace BK434 := Aside0.mk (Rgn.bb BK434.out hb)
        replace BK435 := Aside0.mk (Rgn.bb BK435.out hb)
        replace HK := Aside0.mk (Kept.below (S := (fun k_ => P0_0_ k_ ∨ P0_1_ k_)) (by repeat (first | (with_reducible first | exact HK.out | apply Kept.alloc | apply Kept.drewN | apply Kept.drew | refine Kept.setCell ?_ (.inr GW433.out) _ | refine Kept.setCell ?_ (.inr GW434.out) _ | refine Kept.setCell ?_ (.inr GW435.out) _) | exact HK.out)) hb)
        replace HB := Aside0.mk (below_step (Rgn.bq HB.out) hb)
        (try clear hb)
        skip
        skip
        skip
        refine hK.out _ _ ⟨(blk_cell BK434.out 0).trans rfl, (blk_cell BK434.out 1).trans rfl, (blk_cell BK434.out 2).trans rfl, (blk_cell BK433.out 0).trans rfl, (blk_cell BK433.out 1).trans rfl⟩ (fun hHeld => ?_)
        clear hK K
        refine norm_ (a' := ?_) ?_ ?_
        rotate_left
        ·
         show Act.put _ (some 64) _ = _
         simp only [Act.put, List.setIfInBounds_toArray, List.set_cons_zero, List.set_cons_succ, i64_w, i32_w]
         rfl
        refine Rgn.pu HT_.out 19 65 ?_
        refine Rgn.pu HT_.out 20 66 ?_
        refine Rgn.pu HT_.out 21 67 ?_
        refine Rgn.pn HT_.out 22 68 ?_
        refine Rgn.pn HT_.out 23 69 ?_
        refine Rgn.pn HT_.out 24 70 ?_
        refine Rgn.pn HT_.out 25 71 ?_
        refine Rgn.pu HT_.out 26 72 ?_
        refine done_ (done_of HT_.out (by kernel_rfl)) ?_
        have hnb58 := NB433_434.out
        have hnc58 := NB434_433.out
        have hnb59 := NB433_435.out
        have hnc59 := NB435_433.out
        have hcz60_0 := Rgn.cz0 BK433.out
        have hcz60_1 := Rgn.cz1 BK433.out
        have hfz60_0 := blk_frozen BK433.out 0
        have hfz60_1 := blk_frozen BK433.out 1
        have hnb61 := NB435_434.out
        have hnc61 := NB434_435.out
        have hcz62_0 := Rgn.cz0 BK435.out
        have hcz62_1 := Rgn.cz1 BK435.out
        have hfz62_0 := blk_frozen BK435.out 0
        have hfz62_1 := blk_frozen BK435.out 1
        try go_wp2
        refine bodyPost_ret (results_ct rfl _ _ gb435 29 #[.slice Ao4 l0_0.length co4, .slice A0_1 l0_1.length c0_1] (0, 0) _ rfl (by (with_reducible repeat (first | refine blk_drewN ?_ _ | refine blk_drew ?_ | refine blk_alloc ?_ _)); refine blk_put (cs := #[.slice Ao4 l0_0.length co4, .slice none 0 0]) ?_ 1 _ rfl; (with_reducible repeat (first | refine blk_drewN ?_ _ | refine blk_drew ?_ | refine blk_alloc ?_ _)); refine blk_put (cs := #[.slice none 0 0, .slice none 0 0]) ?_ 0 _ rfl; (with_reducible repeat (first | refine blk_drewN ?_ _ | refine blk_drew ?_ | refine blk_alloc ?_ _)); exact BK435.out) Try.underlying29 rfl (by kernel_rfl)) rfl ?_
        exact ⟨_, _, by first | rfl | (simp [errW_none, errW_some] <;> rfl) | (simp [*, errW_none, errW_some] <;> rfl), by (with_reducible repeat (first | apply Kd.R_alloc | apply Kd.R_drewN | apply Kd.R_drew)); exact Kd.R_mono (Kd.R_far (p := ⟨gb435, 1, none⟩) (Kd.R_far (p := ⟨gb435, 0, none⟩) (Kd.R_types HO_434000.out BK435.out (by decide)) (fun _ hk => hk.2) (.slice Ao4 l0_0.length co4)) (fun _ hk => hk.2) (.slice A0_1 l0_1.length c0_1)) (fun _ hk => hk.1), by (with_reducible repeat (first | apply Kd.S_alloc | apply Kd.S_drewN | apply Kd.S_drew)); exact Kd.S_mono (Kd.S_far (p := ⟨gb435, 1, none⟩) (Kd.S_far (p := ⟨gb435, 0, none⟩) (Kd.S_mono HO_434001.out (fun k_ hk => (⟨hk, hk.2.2.2.2⟩ : _ ∧ k_ ≠ gb435))) (fun _ hk => hk.2) (.slice Ao4 l0_0.length co4)) (fun _ hk => hk.2) (.slice A0_1 l0_1.length c0_1)) (fun _ hk => ⟨hk.1.1, hk.1.2.1⟩), Rgn.bq HB.out, by repeat (first | (with_reducible first | exact HK.out | apply Kept.alloc | apply Kept.drewN | apply Kept.drew | refine Kept.setCell ?_ (.inr GW433.out) _ | refine Kept.setCell ?_ (.inr GW434.out) _ | refine Kept.setCell ?_ (.inr GW435.out) _) | exact HK.out)⟩
       ·
        rw [if_neg c55] at H
        have c55b0 : decide (t442 ≤ a1_1) = false := decide_eq_false c55
        clear c55
        by_cases c63 : (l1_2.length : Int) = 64
        ·
         rw [if_pos c63] at H
         have c63b0 : ((l1_2.length : Int) == 64) = true := beq_iff_eq.mpr c63
         have c63b1 : ((l1_2.length : Int) != 64) = false := bne_eq_false_iff_eq.mpr c63
         clear c63
         replace H := Option.bind_eq_some_iff.mp H
         obtain ⟨t443, A640, H⟩ := H
         replace H : (if l0_1.length < 4398046511104 then (some (l0_0, (l0_1 ++ [(⟨a1_1, t443⟩ : S62)]), true)) else (none)) = some (r1, r2, r3) := H
         have A64 := Aside0.mk A640
         clear A640
         by_cases cLM : l0_1.length < 4398046511104
         rotate_left
         ·
          rw [if_neg cLM] at H; cases H
         rw [if_pos cLM] at H
         have LMc := Aside0.mk cLM
         clear cLM
         obtain ⟨y446, hy446⟩ : ∃ y_ : List (S62), y_ = (l0_1 ++ [(⟨a1_1, t443⟩ : S62)]) := ⟨_, rfl⟩
         replace H : (some (l0_0, y446, true)) = some (r1, r2, r3) := by first | (rw [hy446]; with_reducible exact H) | (have H2_ := (Option.bind_some _ _).symm.trans H; rw [hy446]; with_reducible exact H2_) | (have H2_ := (Option.bind_some _ _).symm.trans H; with_reducible exact H2_) | with_reducible exact H | (rw [hy446]; exact H) | exact H
         have Ny446 := Aside0.mk hy446
         clear hy446
         simp only [Option.some.injEq, Prod.mk.injEq] at H
         obtain ⟨rfl, rfl, rfl⟩ := H
         try go_wp2
         replace HO_434000 := Aside0.mk (Kd.R_drew HO_434000.out)
         replace HO_434001 := Aside0.mk (Kd.S_drew HO_434001.out)
         replace BK433 := Aside0.mk (blk_drew BK433.out)
         replace BK434 := Aside0.mk (blk_drew BK434.out)
         replace BK435 := Aside0.mk (blk_drew BK435.out)
         replace HK := Aside0.mk (Kept.drew HK.out)
         replace HB := Aside0.mk (below_drew1 HB.out)
         refine start_ (n := 27) (S := fun w' => w'.cell? ⟨gb434, 0, none⟩ = some (.int .i64 a1_0) ∧ w'.cell? ⟨gb434, 1, none⟩ = some (.int .i64 a1_1) ∧ w'.cell? ⟨gb434, 2, none⟩ = some (.slice A1_2 l1_2.length c1_2) ∧ w'.cell? ⟨gb433, 0, none⟩ = some (.slice Ao4 l0_0.length co4) ∧ w'.cell? ⟨gb433, 1, none⟩ = some (.slice A0_1 l0_1.length c0_1)) (ds := []) #[false, false, false, false, false, false, false, false, false, false, false, false, false, false, false, false, false, false, false, false, false, false, false, false, false, false, false] (by kernel_rfl) rfl rfl ⟨(blk_cell BK434.out 0).trans rfl, (blk_cell BK434.out 1).trans rfl, (blk_cell BK434.out 2).trans rfl, (blk_cell BK433.out 0).trans rfl, (blk_cell BK433.out 1).trans rfl⟩ (fun hHeld => ?_); refine with_tabW spec_l1Do.tab8 spec_l1Do.bits8 (fun HT_ HW_ => ?_)
         generalize wc.drew = w65 at HO_434000 HO_434001 BK433 BK434 BK435 HK HB hHeld ⊢
         refine Rgn.pu HT_.out 0 46 ?_
         refine Rgn.tk HT_.out HW_.out 1 47 hHeld ?_
         refine Rgn.pu HT_.out 2 48 ?_
         refine Rgn.pu HT_.out 3 49 ?_
         refine Rgn.pu HT_.out 4 50 ?_
         refine Rgn.tk HT_.out HW_.out 5 51 hHeld ?_
         refine Rgn.pu HT_.out 6 52 ?_
         refine Rgn.pu HT_.out 7 53 ?_
         refine Rgn.pu HT_.out 8 54 ?_
         refine Rgn.pu HT_.out 9 55 ?_
         refine Rgn.pu HT_.out 10 56 ?_
         refine Rgn.tk HT_.out HW_.out 11 57 hHeld ?_
         refine Rgn.pu HT_.out 12 58 ?_
         refine Rgn.pu HT_.out 13 59 ?_
         refine Rgn.pu HT_.out 14 60 ?_
         refine Rgn.pu HT_.out 15 61 ?_
         refine Rgn.tk HT_.out HW_.out 16 62 hHeld ?_
         refine Rgn.tk HT_.out HW_.out 17 63 hHeld ?_
         refine one_ (i := 18) (N := some 64) #[true, true, true, true, true, true, true, true, true, true, true, true, true, true, true, true, true, true, true, false, false, false, false, false, false, false, false] rfl rfl (one_of HT_.out (by kernel_rfl)) (by decide) (fun K hK => ?_)
         refine Rgn.gs Try.func70 #[.agg #[.slice Ao4 l0_0.length co4, .slice A0_1 l0_1.length c0_1]] ?_
         with_reducible refine (spec_l1Blocks.calls _ _ l0_0 _ _ l0_1 t442 _ ?side1 ?side2 ?side3 ?side4 A54.out).mono ?_
         (case side1 => exact Rgn.cq (Kd.R_reads' HO_434000.out).2.2)
         (case side2 => exact (Kd.R_reads' HO_434000.out).2.1)
         (case side3 => repeat (first | exact (Kd.S_reads' HO_434001.out).2.2 | (with_reducible refine Kd.C_alloc ?_ _) | (with_reducible refine Kd.C_drewN ?_ _) | (with_reducible refine Kd.C_drew ?_)))
         (case side4 => exact (Kd.S_reads' HO_434001.out).2.1)
         rintro e w66 ⟨rfl, hb⟩
         refine ⟨_, rfl, ?_⟩
         replace HO_434000 := Aside0.mk (Kd.R_below (Rgn.rq HO_434000.out) hb)
         replace HO_434001 := Aside0.mk (Kd.S_below (Rgn.sq HO_434001.out) hb)
         replace BK433 := Aside0.mk (Rgn.bb BK433.out hb)
         replace BK434 := Aside0.mk (Rgn.bb BK434.out hb)
         replace BK435 := Aside0.mk (Rgn.bb BK435.out hb)
         replace HK := Aside0.mk (Kept.below (S := (fun k_ => P0_0_ k_ ∨ P0_1_ k_)) (by repeat (first | (with_reducible first | exact HK.out | apply Kept.alloc | apply Kept.drewN | apply Kept.drew | refine Kept.setCell ?_ (.inr GW433.out) _ | refine Kept.setCell ?_ (.inr GW434.out) _ | refine Kept.setCell ?_ (.inr GW435.out) _) | exact HK.out)) hb)
         replace HB := Aside0.mk (below_step (Rgn.bq HB.out) hb)
         (try clear hb)
         skip
         skip
         skip
         refine hK.out _ _ ⟨(blk_cell BK434.out 0).trans rfl, (blk_cell BK434.out 1).trans rfl, (blk_cell BK434.out 2).trans rfl, (blk_cell BK433.out 0).trans rfl, (blk_cell BK433.out 1).trans rfl⟩ (fun hHeld => ?_)
         clear hK K
         refine norm_ (a' := ?_) ?_ ?_
         rotate_left
         ·
          show Act.put _ (some 64) _ = _
          simp only [Act.put, List.setIfInBounds_toArray, List.set_cons_zero, List.set_cons_succ, i64_w, i32_w]
          rfl
         refine Rgn.pu HT_.out 19 65 ?_
         refine Rgn.pu HT_.out 20 66 ?_
         refine Rgn.pu HT_.out 21 67 ?_
         refine Rgn.pu HT_.out 22 68 ?_
         refine Rgn.tk HT_.out HW_.out 23 69 hHeld ?_
         refine Rgn.pu HT_.out 24 70 ?_
         refine Rgn.pu HT_.out 25 71 ?_
         refine Rgn.pu HT_.out 26 72 ?_
         refine done_ (done_of HT_.out (by kernel_rfl)) ?_
         try go_wp2
         replace HO_434000 := Aside0.mk (Kd.R_drew HO_434000.out)
         replace HO_434001 := Aside0.mk (Kd.S_drew HO_434001.out)
         replace BK433 := Aside0.mk (blk_drew BK433.out)
         replace BK434 := Aside0.mk (blk_drew BK434.out)
         replace BK435 := Aside0.mk (blk_drew BK435.out)
         replace HK := Aside0.mk (Kept.drew HK.out)
         replace HB := Aside0.mk (below_drew1 HB.out)
         refine start_ (n := 12) (S := fun w' => w'.cell? ⟨gb433, 0, none⟩ = some (.slice Ao4 l0_0.length co4) ∧ w'.cell? ⟨gb433, 1, none⟩ = some (.slice A0_1 l0_1.length c0_1) ∧ w'.cell? ⟨gb434, 0, none⟩ = some (.int .i64 a1_0) ∧ w'.cell? ⟨gb434, 1, none⟩ = some (.int .i64 a1_1) ∧ w'.cell? ⟨gb434, 2, none⟩ = some (.slice A1_2 l1_2.length c1_2)) (ds := [11]) #[false, false, false, false, false, false, false, false, false, false, false, false] (by kernel_rfl) rfl rfl ⟨(blk_cell BK433.out 0).trans rfl, (blk_cell BK433.out 1).trans rfl, (blk_cell BK434.out 0).trans rfl, (blk_cell BK434.out 1).trans rfl, (blk_cell BK434.out 2).trans rfl⟩ (fun hHeld => ?_); refine with_tabW spec_l1Do.tab10 spec_l1Do.bits10 (fun HT_ HW_ => ?_)
         generalize w66.drew = w67 at HO_434000 HO_434001 BK433 BK434 BK435 HK HB hHeld ⊢
         refine Rgn.pu HT_.out 0 74 ?_
         refine Rgn.pu HT_.out 2 76 ?_
         refine Rgn.pu HT_.out 4 78 ?_
         refine Rgn.tk HT_.out HW_.out 1 75 hHeld ?_
         refine Rgn.tk HT_.out HW_.out 3 77 hHeld ?_
         refine Rgn.tk HT_.out HW_.out 5 79 hHeld ?_
         refine one_ (i := 6) (N := some 80) #[true, true, true, true, true, true, true, false, false, false, false, false] rfl rfl (one_of HT_.out (by kernel_rfl)) (by decide) (fun K hK => ?_)
         refine Rgn.gs Try.func75 #[.slice A1_2 l1_2.length c1_2] ?_
         with_reducible refine (spec_l1Copy.calls _ _ l1_2 t443 _ ?side1 ?side2 A64.out).mono ?_
         (case side1 => exact Kd.C_kept_now HR1_2.out (by repeat (first | (with_reducible first | exact HK.out | apply Kept.alloc | apply Kept.drewN | apply Kept.drew | refine Kept.setCell ?_ (.inr GW433.out) _ | refine Kept.setCell ?_ (.inr GW434.out) _ | refine Kept.setCell ?_ (.inr GW435.out) _) | exact HK.out)))
         (case side2 => exact HC1_2.out)
         rintro e w68 ⟨v444, rfl, ho0, hb⟩
         refine ⟨_, rfl, ?_⟩
         replace HO_434001 := Aside0.mk (Kd.S_elder' (Rgn.sq HO_434001.out) (Kd.R_base ho0) hb)
         have HO445 := Aside0.mk (Kd.R_lower (Kd.R_new' (Kd.R_newM (M := fun k_ => (P0_0_ k_ ∨ w.heap.size ≤ k_)) ho0 (by first | exact HK.out.1 | exact (show Kept w _ (fun k_ => P0_0_ k_ ∨ P0_1_ k_) from by repeat (first | (with_reducible first | exact HK.out | apply Kept.alloc | apply Kept.drewN | apply Kept.drew | refine Kept.setCell ?_ (.inr GW433.out) _ | refine Kept.setCell ?_ (.inr GW434.out) _ | refine Kept.setCell ?_ (.inr GW435.out) _) | exact HK.out)).1) (fun k_ h_ => .inr h_)) (Kd.R_lt (Rgn.rq HO_434000.out))) (below_size (Rgn.bq HB.out)))
         replace HO_434000 := Aside0.mk (Kd.R_elder' (Rgn.rq HO_434000.out) (Kd.R_base ho0) hb)
         replace BK433 := Aside0.mk (Rgn.bb BK433.out hb)
         replace BK434 := Aside0.mk (Rgn.bb BK434.out hb)
         replace BK435 := Aside0.mk (Rgn.bb BK435.out hb)
         replace HK := Aside0.mk (Kept.below (S := (fun k_ => P0_0_ k_ ∨ P0_1_ k_)) (by repeat (first | (with_reducible first | exact HK.out | apply Kept.alloc | apply Kept.drewN | apply Kept.drew | refine Kept.setCell ?_ (.inr GW433.out) _ | refine Kept.setCell ?_ (.inr GW434.out) _ | refine Kept.setCell ?_ (.inr GW435.out) _) | exact HK.out)) hb)
         replace HB := Aside0.mk (below_step (Rgn.bq HB.out) hb)
         (try clear hb)
         skip
         skip
         skip
         (try clear ho0)
         obtain ⟨Ao69, co69, eo69⟩ := Kd.R_slice HO445.out
         (first | subst eo69 | (injection eo69 with f1_ f2_ f3_; have f4_ := f1_.symm; have f5_ := f3_.symm; clear f1_ f2_ f3_; subst f4_; subst f5_))
         refine hK.out _ _ ⟨(blk_cell BK433.out 0).trans rfl, (blk_cell BK433.out 1).trans rfl, (blk_cell BK434.out 0).trans rfl, (blk_cell BK434.out 1).trans rfl, (blk_cell BK434.out 2).trans rfl⟩ (fun hHeld => ?_)
         clear hK K
         refine norm_ (a' := ?_) ?_ ?_
         rotate_left
         ·
          show Act.put _ (some 80) _ = _
          simp only [Act.put, List.setIfInBounds_toArray, List.set_cons_zero, List.set_cons_succ, i64_w, i32_w]
          rfl
         refine Rgn.pu HT_.out 7 81 ?_
         refine one_ (i := 8) (N := some 82) #[true, true, true, true, true, true, true, true, true, false, false, false] rfl rfl (one_of HT_.out (by kernel_rfl)) (by decide) (fun K hK => ?_)
         refine value_ (w1 := ?_) (v := ?_) (by rfl) rfl ?_ ?_
         rotate_left 2
         ·
          go_simp
          constructor
          ·
           rfl
          ·
           rfl
         refine hK.out _ _ ⟨(blk_cell (blk_alloc BK433.out _) 0).trans rfl, (blk_cell (blk_alloc BK433.out _) 1).trans rfl, (blk_cell (blk_alloc BK434.out _) 0).trans rfl, (blk_cell (blk_alloc BK434.out _) 1).trans rfl, (blk_cell (blk_alloc BK434.out _) 2).trans rfl⟩ (fun hHeld => ?_)
         clear hK K
         refine norm_ (a' := ?_) ?_ ?_
         rotate_left
         ·
          show Act.put _ (some 82) _ = _
          simp only [Act.put, List.setIfInBounds_toArray, List.set_cons_zero, List.set_cons_succ, i64_w, i32_w]
          rfl
         refine one_ (i := 9) (N := some 83) #[true, true, true, true, true, true, true, true, true, true, false, false] rfl rfl (one_of HT_.out (by kernel_rfl)) (by decide) (fun K hK => ?_)
         refine Kd.S_append_step k62 (w0 := w0) w0.heap.size (by rfl) (.tmp 75) (.tmp 82) 27 62 (.agg #[(.int .i64 0), (.slice none 0 0)]) 32 rfl Try.underlying27 info62 rfl (by decide) (by omega) (.slice A0_1 l0_1.length c0_1) l0_1 (⟨a1_1, t443⟩ : S62) [.int .i64 a1_1, .slice Ao69 t443.length co69] (fun k_ => ((P0_0_ k_ ∨ P0_1_ k_) ∨ w.heap.size ≤ k_) ∧ some k_ ≠ (.slice Ao4 l0_0.length co4 : Value).ownBlock ∧ k_ ≠ gb433 ∧ k_ ≠ gb434 ∧ k_ ≠ gb435) (fun k_ => some k_ = (.slice Ao69 t443.length co69 : Value).ownBlock) rfl rfl ?aP (fun k_ hk_ => (Kd.R_mono (ok' := fun k_ => (fun k_ => ((P0_0_ k_ ∨ P0_1_ k_) ∨ w.heap.size ≤ k_) ∧ some k_ ≠ (.slice Ao4 l0_0.length co4 : Value).ownBlock ∧ k_ ≠ gb433 ∧ k_ ≠ gb434 ∧ k_ ≠ gb435) k_ ∧ some k_ ≠ (.slice A0_1 l0_1.length c0_1 : Value).ownBlock) (Kd.R_apart' (v := .slice A0_1 l0_1.length c0_1) (Kd.R_types (Kd.R_types (Kd.R_types (HO445.out) BK433.out (by decide)) BK434.out (by decide)) BK435.out (by decide)) (Kd.S_typed HO_434001.out) (by decide)) (fun k_ hk => ⟨⟨(Or.imp_left (fun h_ => (.inl h_)) (hk.1.1.1.1.1.1)), hk.1.1.1.1.2, hk.1.1.1.2, hk.1.1.2, hk.1.2⟩, hk.2⟩)).1 k_ hk_.symm) ?aF ?aO ?aB ?aS ?aL ?_
         (case aP => exact k62_mkM _ _ _ (⟨a1_1, t443⟩ : S62) (Kd.R_mono (Kd.R_tight rfl (Kd.R_mono (ok' := fun k_ => (fun k_ => ((P0_0_ k_ ∨ P0_1_ k_) ∨ w.heap.size ≤ k_) ∧ some k_ ≠ (.slice Ao4 l0_0.length co4 : Value).ownBlock ∧ k_ ≠ gb433 ∧ k_ ≠ gb434 ∧ k_ ≠ gb435) k_ ∧ some k_ ≠ (.slice A0_1 l0_1.length c0_1 : Value).ownBlock) (Kd.R_apart' (v := .slice A0_1 l0_1.length c0_1) (Kd.R_types (Kd.R_types (Kd.R_types (HO445.out) BK433.out (by decide)) BK434.out (by decide)) BK435.out (by decide)) (Kd.S_typed HO_434001.out) (by decide)) (fun k_ hk => ⟨⟨(Or.imp_left (fun h_ => (.inl h_)) (hk.1.1.1.1.1.1)), hk.1.1.1.1.2, hk.1.1.1.2, hk.1.1.2, hk.1.2⟩, hk.2⟩))) (fun _ h_ => h_)))
         (case aB => exact (Rgn.bq HB.out))
         (case aF => exact (fun k_ hk => ⟨.inr (Nat.le_trans (HK.out.1) hk), Kd.fresh' (Kd.R_lt (Rgn.rq HO_434000.out)) k_ hk, Kd.freshB (g := gb433) (o := .cells #[.slice Ao4 l0_0.length co4, .slice A0_1 l0_1.length c0_1] 29 (0, 0)) (Rgn.kb BK433.out) k_ hk, Kd.freshB (g := gb434) (o := .cells #[.int .i64 a1_0, .int .i64 a1_1, .slice A1_2 l1_2.length c1_2] 93 (0, 0)) (Rgn.kb BK434.out) k_ hk, Kd.freshB (g := gb435) (o := .cells #[.slice none 0 0, .slice none 0 0] 29 (0, 0)) (Rgn.kb BK435.out) k_ hk⟩))
         (case aO => exact (Rgn.sq (Kd.S_mono HO_434001.out (fun k_ hk => ⟨hk.1, fun e_ => hk.2 e_⟩))))
         (case aS => exact (below_size (Rgn.bq HB.out)))
         (case aL => have := LMc.out; omega)
         intro v447 w70 ho71 hb hg hat
         rw [← Ny446.out] at ho71
         have n0_ := Aside0.mk (Kd.R_over' (Rgn.rq HO_434000.out) (Kd.S_typed (Rgn.sq HO_434001.out)) (by decide) hg)
         have n1_ := Aside0.mk (ho71)
         have n3_ := Aside0.mk (Rgn.bg BK433.out hg (Kd.S_ne HO_434001.out BK433.out (by decide)))
         have n4_ := Aside0.mk (Rgn.bg BK434.out hg (Kd.S_ne HO_434001.out BK434.out (by decide)))
         have n5_ := Aside0.mk (Rgn.bg BK435.out hg (Kd.S_ne HO_434001.out BK435.out (by decide)))
         have n6_ := Aside0.mk (Kept.of_grown (S := (fun k_ => P0_0_ k_ ∨ P0_1_ k_)) hg (by repeat (first | (with_reducible first | exact HK.out | apply Kept.alloc | apply Kept.drewN | apply Kept.drew | refine Kept.setCell ?_ (.inr GW433.out) _ | refine Kept.setCell ?_ (.inr GW434.out) _ | refine Kept.setCell ?_ (.inr GW435.out) _) | exact HK.out)) (fun k_ e_ => ((Kd.S_R HO_434001.out).1 k_ e_).1.1))
         have n7_ := Aside0.mk hb
         clear HO_434000
         clear HO_434001
         clear BK433
         clear BK434
         clear BK435
         clear HK
         clear HB
         clear HO445
         have HO_434000 := n0_
         have HO448 := n1_
         have BK433 := n3_
         have BK434 := n4_
         have BK435 := n5_
         have HK := n6_
         have HB := n7_
         clear n0_ n1_ n3_ n4_ n5_ n6_ n7_
         clear hb hg hat ho71
         obtain ⟨Ao72, co72, eo72⟩ := Kd.S_slice HO448.out
         (first | subst eo72 | (injection eo72 with f1_ f2_ f3_; have f4_ := f1_.symm; have f5_ := f3_.symm; clear f1_ f2_ f3_; subst f4_; subst f5_))
         refine hK.out _ _ ⟨(blk_cell BK433.out 0).trans rfl, (blk_cell BK433.out 1).trans rfl, (blk_cell BK434.out 0).trans rfl, (blk_cell BK434.out 1).trans rfl, (blk_cell BK434.out 2).trans rfl⟩ (fun hHeld => ?_)
         clear hK K
         refine norm_ (a' := ?_) ?_ ?_
         rotate_left
         ·
          show Act.put _ (some 83) _ = _
          simp only [Act.put, List.setIfInBounds_toArray, List.set_cons_zero, List.set_cons_succ, i64_w, i32_w]
          rfl
         refine Rgn.pu HT_.out 10 84 ?_
         refine last_ (i := 11) (N := none) #[true, true, true, true, true, true, true, true, true, true, true, true] rfl rfl (one_of HT_.out (by kernel_rfl)) (by decide) (fun K hK => ?_)
         have hs73 : w70.cell? ⟨gb433, 1, none⟩ = some (.slice A0_1 l0_1.length c0_1) := (blk_cell BK433.out 1).trans rfl
         have hfs73 := blk_frozen BK433.out 1
         have hns73_1 := NB434_433.out
         have hns73_2 := NB435_433.out
         have hms73_1 := NB433_434.out
         have hms73_2 := NB433_435.out
         refine skip_ (w1 := ?_) (by rfl) rfl ?_ ?_
         rotate_left
         ·
          go_simp
          rfl
         refine hK.out _ _ ?_
         clear hK K
         refine done_ (done_of HT_.out (by kernel_rfl)) ?_
         have hnb74 := NB433_434.out
         have hnc74 := NB434_433.out
         have hnb75 := NB433_435.out
         have hnc75 := NB435_433.out
         have hcz76_0 := Rgn.cz0 BK433.out
         have hcz76_1 := Rgn.cz1 BK433.out
         have hfz76_0 := blk_frozen BK433.out 0
         have hfz76_1 := blk_frozen BK433.out 1
         have hnb77 := NB435_434.out
         have hnc77 := NB434_435.out
         have hcz78_0 := Rgn.cz0 BK435.out
         have hcz78_1 := Rgn.cz1 BK435.out
         have hfz78_0 := blk_frozen BK435.out 0
         have hfz78_1 := blk_frozen BK435.out 1
         try go_wp2
         refine bodyPost_ret (results_ct rfl _ _ gb435 29 #[.slice Ao4 l0_0.length co4, .slice Ao72 y446.length co72] (0, 0) _ rfl (by (with_reducible repeat (first | refine blk_drewN ?_ _ | refine blk_drew ?_ | refine blk_alloc ?_ _)); refine blk_put (cs := #[.slice Ao4 l0_0.length co4, .slice none 0 0]) ?_ 1 _ rfl; (with_reducible repeat (first | refine blk_drewN ?_ _ | refine blk_drew ?_ | refine blk_alloc ?_ _)); refine blk_put (cs := #[.slice none 0 0, .slice none 0 0]) ?_ 0 _ rfl; (with_reducible repeat (first | refine blk_drewN ?_ _ | refine blk_drew ?_ | refine blk_alloc ?_ _)); refine blk_far ?_ NB435_433.out _; (with_reducible repeat (first | refine blk_drewN ?_ _ | refine blk_drew ?_ | refine blk_alloc ?_ _)); exact BK435.out) Try.underlying29 rfl (by kernel_rfl)) rfl ?_
         exact ⟨_, _, by first | rfl | (simp [errW_none, errW_some] <;> rfl) | (simp [*, errW_none, errW_some] <;> rfl), by (with_reducible repeat (first | apply Kd.R_alloc | apply Kd.R_drewN | apply Kd.R_drew)); exact Kd.R_mono (Kd.R_far (p := ⟨gb435, 1, none⟩) (Kd.R_far (p := ⟨gb435, 0, none⟩) (Kd.R_far (p := ⟨gb433, 1, none⟩) (Kd.R_types (Kd.R_types HO_434000.out BK433.out (by decide)) BK435.out (by decide)) (fun _ hk => hk.1.2) (.slice Ao72 y446.length co72)) (fun _ hk => hk.2) (.slice Ao4 l0_0.length co4)) (fun _ hk => hk.2) (.slice Ao72 y446.length co72)) (fun _ hk => hk.1.1.1), by (with_reducible repeat (first | apply Kd.S_alloc | apply Kd.S_drewN | apply Kd.S_drew)); exact Kd.S_mono (Kd.S_far (p := ⟨gb435, 1, none⟩) (Kd.S_far (p := ⟨gb435, 0, none⟩) (Kd.S_far (p := ⟨gb433, 1, none⟩) (Kd.S_mono (Kd.S_mono HO448.out (fun k_ hk => (⟨hk, hk.2.2.1⟩ : _ ∧ k_ ≠ gb433))) (fun k_ hk => (⟨hk, hk.1.2.2.2.2⟩ : _ ∧ k_ ≠ gb435))) (fun _ hk => hk.1.2) (.slice Ao72 y446.length co72)) (fun _ hk => hk.2) (.slice Ao4 l0_0.length co4)) (fun _ hk => hk.2) (.slice Ao72 y446.length co72)) (fun _ hk => ⟨hk.1.1.1, hk.1.1.2.1⟩), Rgn.bq HB.out, by repeat (first | (with_reducible first | exact HK.out | apply Kept.alloc | apply Kept.drewN | apply Kept.drew | refine Kept.setCell ?_ (.inr GW433.out) _ | refine Kept.setCell ?_ (.inr GW434.out) _ | refine Kept.setCell ?_ (.inr GW435.out) _) | exact HK.out)⟩
        ·
         rw [if_neg c63] at H
         have c63b0 : ((l1_2.length : Int) == 64) = false := beq_eq_false_iff_ne.mpr c63
         have c63b1 : ((l1_2.length : Int) != 64) = true := bne_iff_ne.mpr c63
         simp only [Option.some.injEq, Prod.mk.injEq] at H
         obtain ⟨rfl, rfl, rfl⟩ := H
         try go_wp2
         replace HO_434000 := Aside0.mk (Kd.R_drew HO_434000.out)
         replace HO_434001 := Aside0.mk (Kd.S_drew HO_434001.out)
         replace BK433 := Aside0.mk (blk_drew BK433.out)
         replace BK434 := Aside0.mk (blk_drew BK434.out)
         replace BK435 := Aside0.mk (blk_drew BK435.out)
         replace HK := Aside0.mk (Kept.drew HK.out)
         replace HB := Aside0.mk (below_drew1 HB.out)
         refine start_ (n := 27) (S := fun w' => w'.cell? ⟨gb434, 0, none⟩ = some (.int .i64 a1_0) ∧ w'.cell? ⟨gb434, 1, none⟩ = some (.int .i64 a1_1) ∧ w'.cell? ⟨gb434, 2, none⟩ = some (.slice A1_2 l1_2.length c1_2) ∧ w'.cell? ⟨gb433, 0, none⟩ = some (.slice Ao4 l0_0.length co4) ∧ w'.cell? ⟨gb433, 1, none⟩ = some (.slice A0_1 l0_1.length c0_1)) (ds := []) #[false, false, false, false, false, false, false, false, false, false, false, false, false, false, false, false, false, false, false, false, false, false, false, false, false, false, false] (by kernel_rfl) rfl rfl ⟨(blk_cell BK434.out 0).trans rfl, (blk_cell BK434.out 1).trans rfl, (blk_cell BK434.out 2).trans rfl, (blk_cell BK433.out 0).trans rfl, (blk_cell BK433.out 1).trans rfl⟩ (fun hHeld => ?_); refine with_tabW spec_l1Do.tab8 spec_l1Do.bits8 (fun HT_ HW_ => ?_)
         generalize wc.drew = w79 at HO_434000 HO_434001 BK433 BK434 BK435 HK HB hHeld ⊢
         refine Rgn.pu HT_.out 0 46 ?_
         refine Rgn.tk HT_.out HW_.out 1 47 hHeld ?_
         refine Rgn.pu HT_.out 2 48 ?_
         refine Rgn.pu HT_.out 3 49 ?_
         refine Rgn.pu HT_.out 4 50 ?_
         refine Rgn.tk HT_.out HW_.out 5 51 hHeld ?_
         refine Rgn.pu HT_.out 6 52 ?_
         refine Rgn.pu HT_.out 7 53 ?_
         refine Rgn.pu HT_.out 8 54 ?_
         refine Rgn.pu HT_.out 9 55 ?_
         refine Rgn.pu HT_.out 10 56 ?_
         refine Rgn.tk HT_.out HW_.out 11 57 hHeld ?_
         refine Rgn.pu HT_.out 12 58 ?_
         refine Rgn.pu HT_.out 13 59 ?_
         refine Rgn.pu HT_.out 14 60 ?_
         refine Rgn.pu HT_.out 15 61 ?_
         refine Rgn.tk HT_.out HW_.out 16 62 hHeld ?_
         refine Rgn.tk HT_.out HW_.out 17 63 hHeld ?_
         refine one_ (i := 18) (N := some 64) #[true, true, true, true, true, true, true, true, true, true, true, true, true, true, true, true, true, true, true, false, false, false, false, false, false, false, false] rfl rfl (one_of HT_.out (by kernel_rfl)) (by decide) (fun K hK => ?_)
         refine Rgn.gs Try.func70 #[.agg #[.slice Ao4 l0_0.length co4, .slice A0_1 l0_1.length c0_1]] ?_
         with_reducible refine (spec_l1Blocks.calls _ _ l0_0 _ _ l0_1 t442 _ ?side1 ?side2 ?side3 ?side4 A54.out).mono ?_
         (case side1 => exact Rgn.cq (Kd.R_reads' HO_434000.out).2.2)
         (case side2 => exact (Kd.R_reads' HO_434000.out).2.1)
         (case side3 => repeat (first | exact (Kd.S_reads' HO_434001.out).2.2 | (with_reducible refine Kd.C_alloc ?_ _) | (with_reducible refine Kd.C_drewN ?_ _) | (with_reducible refine Kd.C_drew ?_)))
         (case side4 => exact (Kd.S_reads' HO_434001.out).2.1)
         rintro e w80 ⟨rfl, hb⟩
         refine ⟨_, rfl, ?_⟩
         replace HO_434000 := Aside0.mk (Kd.R_below (Rgn.rq HO_434000.out) hb)
         replace HO_434001 := Aside0.mk (Kd.S_below (Rgn.sq HO_434001.out) hb)
         replace BK433 := Aside0.mk (Rgn.bb BK433.out hb)
         replace BK434 := Aside0.mk (Rgn.bb BK434.out hb)
         replace BK435 := Aside0.mk (Rgn.bb BK435.out hb)
         replace HK := Aside0.mk (Kept.below (S := (fun k_ => P0_0_ k_ ∨ P0_1_ k_)) (by repeat (first | (with_reducible first | exact HK.out | apply Kept.alloc | apply Kept.drewN | apply Kept.drew | refine Kept.setCell ?_ (.inr GW433.out) _ | refine Kept.setCell ?_ (.inr GW434.out) _ | refine Kept.setCell ?_ (.inr GW435.out) _) | exact HK.out)) hb)
         replace HB := Aside0.mk (below_step (Rgn.bq HB.out) hb)
         (try clear hb)
         skip
         skip
         skip
         refine hK.out _ _ ⟨(blk_cell BK434.out 0).trans rfl, (blk_cell BK434.out 1).trans rfl, (blk_cell BK434.out 2).trans rfl, (blk_cell BK433.out 0).trans rfl, (blk_cell BK433.out 1).trans rfl⟩ (fun hHeld => ?_)
         clear hK K
         refine norm_ (a' := ?_) ?_ ?_
         rotate_left
         ·
          show Act.put _ (some 64) _ = _
          simp only [Act.put, List.setIfInBounds_toArray, List.set_cons_zero, List.set_cons_succ, i64_w, i32_w]
          rfl
         refine Rgn.pu HT_.out 19 65 ?_
         refine Rgn.pu HT_.out 20 66 ?_
         refine Rgn.pu HT_.out 21 67 ?_
         refine Rgn.pu HT_.out 22 68 ?_
         refine Rgn.tk HT_.out HW_.out 23 69 hHeld ?_
         refine Rgn.pu HT_.out 24 70 ?_
         refine Rgn.pu HT_.out 25 71 ?_
         refine Rgn.pu HT_.out 26 72 ?_
         refine done_ (done_of HT_.out (by kernel_rfl)) ?_
         have hnb81 := NB433_434.out
         have hnc81 := NB434_433.out
         have hnb82 := NB433_435.out
         have hnc82 := NB435_433.out
         have hcz83_0 := Rgn.cz0 BK433.out
         have hcz83_1 := Rgn.cz1 BK433.out
         have hfz83_0 := blk_frozen BK433.out 0
         have hfz83_1 := blk_frozen BK433.out 1
         have hnb84 := NB435_434.out
         have hnc84 := NB434_435.out
         have hcz85_0 := Rgn.cz0 BK435.out
         have hcz85_1 := Rgn.cz1 BK435.out
         have hfz85_0 := blk_frozen BK435.out 0
         have hfz85_1 := blk_frozen BK435.out 1
         try go_wp2
         refine bodyPost_ret (results_ct rfl _ _ gb435 29 #[.slice Ao4 l0_0.length co4, .slice A0_1 l0_1.length c0_1] (0, 0) _ rfl (by (with_reducible repeat (first | refine blk_drewN ?_ _ | refine blk_drew ?_ | refine blk_alloc ?_ _)); refine blk_put (cs := #[.slice Ao4 l0_0.length co4, .slice none 0 0]) ?_ 1 _ rfl; (with_reducible repeat (first | refine blk_drewN ?_ _ | refine blk_drew ?_ | refine blk_alloc ?_ _)); refine blk_put (cs := #[.slice none 0 0, .slice none 0 0]) ?_ 0 _ rfl; (with_reducible repeat (first | refine blk_drewN ?_ _ | refine blk_drew ?_ | refine blk_alloc ?_ _)); exact BK435.out) Try.underlying29 rfl (by kernel_rfl)) rfl ?_
         exact ⟨_, _, by first | rfl | (simp [errW_none, errW_some] <;> rfl) | (simp [*, errW_none, errW_some] <;> rfl), by (with_reducible repeat (first | apply Kd.R_alloc | apply Kd.R_drewN | apply Kd.R_drew)); exact Kd.R_mono (Kd.R_far (p := ⟨gb435, 1, none⟩) (Kd.R_far (p := ⟨gb435, 0, none⟩) (Kd.R_types HO_434000.out BK435.out (by decide)) (fun _ hk => hk.2) (.slice Ao4 l0_0.length co4)) (fun _ hk => hk.2) (.slice A0_1 l0_1.length c0_1)) (fun _ hk => hk.1), by (with_reducible repeat (first | apply Kd.S_alloc | apply Kd.S_drewN | apply Kd.S_drew)); exact Kd.S_mono (Kd.S_far (p := ⟨gb435, 1, none⟩) (Kd.S_far (p := ⟨gb435, 0, none⟩) (Kd.S_mono HO_434001.out (fun k_ hk => (⟨hk, hk.2.2.2.2⟩ : _ ∧ k_ ≠ gb435))) (fun _ hk => hk.2) (.slice Ao4 l0_0.length co4)) (fun _ hk => hk.2) (.slice A0_1 l0_1.length c0_1)) (fun _ hk => ⟨hk.1.1, hk.1.2.1⟩), Rgn.bq HB.out, by repeat (first | (with_reducible first | exact HK.out | apply Kept.alloc | apply Kept.drewN | apply Kept.drew | refine Kept.setCell ?_ (.inr GW433.out) _ | refine Kept.setCell ?_ (.inr GW434.out) _ | refine Kept.setCell ?_ (.inr GW435.out) _) | exact HK.out)⟩
    ·
     rw [if_neg c39] at H
     have c39b0 : (a1_0 == 1) = false := beq_eq_false_iff_ne.mpr c39
     have c39b1 : (a1_0 != 1) = true := bne_iff_ne.mpr c39
     simp only [Option.some.injEq, Prod.mk.injEq] at H
     obtain ⟨rfl, rfl, rfl⟩ := H
     try go_wp2
     replace HO_434000 := Aside0.mk (Kd.R_drew HO_434000.out)
     replace HO_434001 := Aside0.mk (Kd.S_drew HO_434001.out)
     replace BK433 := Aside0.mk (blk_drew BK433.out)
     replace BK434 := Aside0.mk (blk_drew BK434.out)
     replace BK435 := Aside0.mk (blk_drew BK435.out)
     replace HK := Aside0.mk (Kept.drew HK.out)
     replace HB := Aside0.mk (below_drew1 HB.out)
     refine start_ (n := 27) (S := fun w' => w'.cell? ⟨gb434, 0, none⟩ = some (.int .i64 a1_0) ∧ w'.cell? ⟨gb434, 1, none⟩ = some (.int .i64 a1_1) ∧ w'.cell? ⟨gb434, 2, none⟩ = some (.slice A1_2 l1_2.length c1_2)) (ds := []) #[false, false, false, false, false, false, false, false, false, false, false, false, false, false, false, false, false, false, false, false, false, false, false, false, false, false, false] (by kernel_rfl) rfl rfl ⟨(blk_cell BK434.out 0).trans rfl, (blk_cell BK434.out 1).trans rfl, (blk_cell BK434.out 2).trans rfl⟩ (fun hHeld => ?_); refine with_tabW spec_l1Do.tab8 spec_l1Do.bits8 (fun HT_ HW_ => ?_)
     generalize wc.drew = w86 at HO_434000 HO_434001 BK433 BK434 BK435 HK HB hHeld ⊢
     refine Rgn.pu HT_.out 0 46 ?_
     refine Rgn.tk HT_.out HW_.out 1 47 hHeld ?_
     refine Rgn.pu HT_.out 2 48 ?_
     refine Rgn.pu HT_.out 3 49 ?_
     refine Rgn.pn HT_.out 4 50 ?_
     refine Rgn.pn HT_.out 5 51 ?_
     refine Rgn.pn HT_.out 6 52 ?_
     refine Rgn.pn HT_.out 7 53 ?_
     refine Rgn.pu HT_.out 8 54 ?_
     refine Rgn.pu HT_.out 9 55 ?_
     refine Rgn.pn HT_.out 10 56 ?_
     refine Rgn.pn HT_.out 11 57 ?_
     refine Rgn.pn HT_.out 12 58 ?_
     refine Rgn.pu HT_.out 13 59 ?_
     refine Rgn.pu HT_.out 14 60 ?_
     refine Rgn.pn HT_.out 15 61 ?_
     refine Rgn.pn HT_.out 16 62 ?_
     refine Rgn.pn HT_.out 17 63 ?_
     refine Rgn.pn HT_.out 18 64 ?_
     refine Rgn.pn HT_.out 19 65 ?_
     refine Rgn.pu HT_.out 20 66 ?_
     refine Rgn.pu HT_.out 21 67 ?_
     refine Rgn.pn HT_.out 22 68 ?_
     refine Rgn.pn HT_.out 23 69 ?_
     refine Rgn.pn HT_.out 24 70 ?_
     refine Rgn.pn HT_.out 25 71 ?_
     refine Rgn.pu HT_.out 26 72 ?_
     refine done_ (done_of HT_.out (by kernel_rfl)) ?_
     have hnb87 := NB433_434.out
     have hnc87 := NB434_433.out
     have hnb88 := NB433_435.out
     have hnc88 := NB435_433.out
     have hcz89_0 := Rgn.cz0 BK433.out
     have hcz89_1 := Rgn.cz1 BK433.out
     have hfz89_0 := blk_frozen BK433.out 0
     have hfz89_1 := blk_frozen BK433.out 1
     have hnb90 := NB435_434.out
     have hnc90 := NB434_435.out
     have hcz91_0 := Rgn.cz0 BK435.out
     have hcz91_1 := Rgn.cz1 BK435.out
     have hfz91_0 := blk_frozen BK435.out 0
     have hfz91_1 := blk_frozen BK435.out 1
     try go_wp2
     refine bodyPost_ret (results_ct rfl _ _ gb435 29 #[.slice Ao4 l0_0.length co4, .slice A0_1 l0_1.length c0_1] (0, 0) _ rfl (by (with_reducible repeat (first | refine blk_drewN ?_ _ | refine blk_drew ?_ | refine blk_alloc ?_ _)); refine blk_put (cs := #[.slice Ao4 l0_0.length co4, .slice none 0 0]) ?_ 1 _ rfl; (with_reducible repeat (first | refine blk_drewN ?_ _ | refine blk_drew ?_ | refine blk_alloc ?_ _)); refine blk_put (cs := #[.slice none 0 0, .slice none 0 0]) ?_ 0 _ rfl; (with_reducible repeat (first | refine blk_drewN ?_ _ | refine blk_drew ?_ | refine blk_alloc ?_ _)); exact BK435.out) Try.underlying29 rfl (by kernel_rfl)) rfl ?_
     exact ⟨_, _, by first | rfl | (simp [errW_none, errW_some] <;> rfl) | (simp [*, errW_none, errW_some] <;> rfl), by (with_reducible repeat (first | apply Kd.R_alloc | apply Kd.R_drewN | apply Kd.R_drew)); exact Kd.R_mono (Kd.R_far (p := ⟨gb435, 1, none⟩) (Kd.R_far (p := ⟨gb435, 0, none⟩) (Kd.R_types HO_434000.out BK435.out (by decide)) (fun _ hk => hk.2) (.slice Ao4 l0_0.length co4)) (fun _ hk => hk.2) (.slice A0_1 l0_1.length c0_1)) (fun _ hk => hk.1), by (with_reducible repeat (first | apply Kd.S_alloc | apply Kd.S_drewN | apply Kd.S_drew)); exact Kd.S_mono (Kd.S_far (p := ⟨gb435, 1, none⟩) (Kd.S_far (p := ⟨gb435, 0, none⟩) (Kd.S_mono HO_434001.out (fun k_ hk => (⟨hk, hk.2.2.2.2⟩ : _ ∧ k_ ≠ gb435))) (fun _ hk => hk.2) (.slice Ao4 l0_0.length co4)) (fun _ hk => hk.2) (.slice A0_1 l0_1.length c0_1)) (fun _ hk => ⟨hk.1.1, hk.1.2.1⟩), Rgn.bq HB.out, by repeat (first | (with_reducible first | exact HK.out | apply Kept.alloc | apply Kept.drewN | apply Kept.drew | refine Kept.setCell ?_ (.inr GW433.out) _ | refine Kept.setCell ?_ (.inr GW434.out) _ | refine Kept.setCell ?_ (.inr GW435.out) _) | exact HK.out)⟩

end Go.Proofs.Ytdhjhadcadcceaa.PFnDisk
