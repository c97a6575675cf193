-- written by a program of this session (wip/src/print2.py)
import Derived.Test.YtdhjhadcadcceaaPFnExactDiskReadx0
import Derived.Test.YtdhjhadcadcceaaPFnExactDiskReadx1
import Derived.Test.YtdhjhadcadcceaaPFnExactDiskReadx2
import Derived.Test.YtdhjhadcadcceaaPFnExactDiskReadx3
import Derived.Test.YtdhjhadcadcceaaPFnExactDiskReadx4
namespace Go.Proofs.Ytdhjhadcadcceaa.PFnExactDiskRead
open Go.RowKit Go.Proofs.YtdhjhadcadcceaaW.PrintWords Go.Proofs.YtdhjhadcadcceaaW.PrintLast Go.Proofs.YtdhjhadcadcceaaW.PrintMore
attribute [local go_sem] max2_int min2_int max_two min_two max_three min_three max_four min_four   -- for this text's walks alone
set_option linter.unusedVariables false
set_option linter.unusedSimpArgs false

/-! ### laws_FnExactDiskRead: function 6 -/
section
open Go.Proofs.Ytdhjhadcadcceaa.Hld
def laws_FnExactDiskRead.f (k : Nat) (l0_0 : List Int) (l0_1 : List (S112)) (a1 : Int) : Option Bool := (laws_szDisk.f k l0_0 l0_1 1048576).bind fun t15 => (if t15 < 0 then (some true) else ((laws_toDisk.f k l0_0 l0_1).bind fun b3 => ((spec_DiskRead.f k b3.1 b3.2 a1).bind fun x21 => ((laws_toDisk.f k l0_0 l0_1).bind fun b5 => ((impl_DiskRead.f k b5.1 b5.2 a1).bind fun x26 => ((laws_eqByteS.f k x26 x21).bind fun t29 => (if t29 = true then ((laws_toDisk.f k l0_0 l0_1).bind fun b8 => ((laws_eqDisk.f k b5.1 b5.2 b8.1 b8.2).bind fun t34 => (if t34 = true then ((laws_markDisk.f k b5.1 b5.2 1).bind fun b10 => (if b10.1 < 0 then none else ((laws_eqByteS.f k x26 x21).bind fun t44 => (if t44 = true then ((laws_markByteS.f k x26 1).bind fun b13 => ((laws_heldByteS.f k b13.2 1).bind fun t52 => (if t52 < 0 then none else (if t52 = b13.1 then ((laws_toDisk.f k l0_0 l0_1).bind fun b17 => ((impl_DiskRead.f k b17.1 b17.2 a1).bind fun x61 => ((laws_eqByteS.f k x61 x21).bind fun t64 => (if t64 = true then ((laws_heldByteS.f k b13.2 1).bind fun t68 => (if t68 < 0 then none else (if t68 = b13.1 then (some true) else none))) else none)))) else none)))) else none)))) else none))) else none)))))))
theorem laws_FnExactDiskRead.mono : ∀ a0_ a1_ a2_ k, LeO (laws_FnExactDiskRead.f k a0_ a1_ a2_) (laws_FnExactDiskRead.f (k + 1) a0_ a1_ a2_) := by
  intro a0_ a1_ a2_ k
  unfold laws_FnExactDiskRead.f
  repeat' first
    | (with_reducible exact LeO.refl _)
    | (with_reducible exact LeO.none _)
    | (with_reducible refine LeO.ite ?_ ?_)
    | (with_reducible refine LeO.bind ?_ (fun _ => ?_))
    | exact impl_DiskRead.mono _ _ _ _
    | exact laws_eqByteS.mono _ _ _
    | exact laws_eqDisk.mono _ _ _ _ _
    | exact laws_heldByteS.mono _ _ _
    | exact laws_markByteS.mono _ _ _
    | exact laws_markDisk.mono _ _ _ _
    | exact laws_szDisk.mono _ _ _ _
    | exact laws_toDisk.mono _ _ _
    | exact spec_DiskRead.mono _ _ _ _
set_option maxHeartbeats 16000000 in
set_option maxRecDepth 100000 in
theorem laws_FnExactDiskRead.calls (k : Nat) (A0_0 : Option Addr) (c0_0 : Nat) (l0_0 : List Int) (A0_1 : Option Addr) (c0_1 : Nat) (l0_1 : List (S112)) (a1 : Int) (r : Bool) (w : World) (hr0_0 : Kd.C (Kd.int .u8) w A0_0 l0_0.length l0_0) (hc0_0 : l0_0.length ≤ c0_0) (hr0_1 : Kd.C k112 w A0_1 l0_1.length l0_1) (hc0_1 : l0_1.length ≤ c0_1) (h : laws_FnExactDiskRead.f k l0_0 l0_1 a1 = some r) (hrt : Aside0 (r = true)) :
    Calls Try.prog 6 #[.agg #[.slice A0_0 l0_0.length c0_0, .slice A0_1 l0_1.length c0_1], .int .i64 a1] w fun e w' => e = .returned (.bool r) ∧ Below w.heap.size w w' := by
  have hu29 := Try.underlying29
  have hu36 := Try.underlying36
  obtain rfl := hrt.out
  clear hrt
  have HR0_0 := Aside0.mk hr0_0
  have HC0_0 := Aside0.mk hc0_0
  clear hr0_0 hc0_0
  have HR0_1 := Aside0.mk hr0_1
  have HC0_1 := Aside0.mk hc0_1
  clear hr0_1 hc0_1
  have HB_0 := Aside0.mk (Below.refl w.heap.size w)
  have H := h
  clear h
  unfold laws_FnExactDiskRead.f at H
  obtain ⟨t15, A1_, H⟩ := Option.bind_eq_some_iff.mp H
  (try dsimp only at H)
  have A1 := Aside0.mk A1_
  clear A1_
  by_cases cn2 : t15 < 0
  case pos =>
    have c2b0 : decide (t15 < 0) = true := decide_eq_true cn2
    clear cn2 H
    go_enter Try.func6, Try.ntmps6
    go_wp2_with (first
          | ((with_reducible refine gate_dst (N := 2) rfl ?_); refine box_event ?hg (N := 2) ?hd (cs := #[.slice A0_0 l0_0.length c0_0, .slice A0_1 l0_1.length c0_1]) (t := 36) ?hr ?_; (case hd => rfl); (case hg => rfl); (case hr => first | (go_simp; done) | (go_simp; rfl)); intro gb2 hgb w1 hbox hb; have G2 := Aside0.mk (show w.heap.size ≤ gb2 ∧ gb2 < w1.heap.size from ⟨by omega, blk_lt hbox⟩); have Fb2_1 := Aside0.mk (Held.blk hbox); have HB_1 := Aside0.mk (below_step HB_0.out hb); have Z_1 := Aside0.mk (show w.heap.size ≤ w1.heap.size from hb.size); clear HB_0 hb hbox hgb; have z2_0_1 : w1.cell? ⟨gb2, 0, none⟩ = some (.slice A0_0 l0_0.length c0_0) := (blk_cell (show w1.heap[gb2]? = some (.cells #[.slice A0_0 l0_0.length c0_0, .slice A0_1 l0_1.length c0_1] 36 (0, 0)) from Fb2_1.out.now) 0).trans rfl; have z2_1_1 : w1.cell? ⟨gb2, 1, none⟩ = some (.slice A0_1 l0_1.length c0_1) := (blk_cell (show w1.heap[gb2]? = some (.cells #[.slice A0_0 l0_0.length c0_0, .slice A0_1 l0_1.length c0_1] 36 (0, 0)) from Fb2_1.out.now) 1).trans rfl)
          | ((with_reducible refine gate_callee (f := 25) rfl ?_); refine goesL_ (some 15) rfl rfl Try.func25 (by kernel_rfl) rfl #[.agg #[.slice A0_0 l0_0.length c0_0, .slice A0_1 l0_1.length c0_1], .int .i64 1048576] rfl (by (try simp only [List.map_toArray, List.map_cons, List.map_nil]); first | done | rfl) ?_; (with_reducible refine (laws_szDisk.calls k A0_0 c0_0 l0_0 A0_1 c0_1 l0_1 1048576 t15 _ (Kd.C_below HR0_0.out HB_1.out) (HC0_0.out) (Kd.C_below HR0_1.out HB_1.out) (HC0_1.out) A1.out).mono ?_); rintro e w2 ⟨rfl, hb⟩; refine ⟨_, rfl, ?_⟩; have Fb2_2 := Aside0.mk (Fb2_1.out.below hb); have HB_2 := Aside0.mk (below_step HB_1.out hb); have Z_2 := Aside0.mk (show w1.heap.size ≤ w2.heap.size from hb.size); clear Fb2_1 HB_1 z2_0_1 z2_1_1 hb; have z2_0_2 : w2.cell? ⟨gb2, 0, none⟩ = some (.slice A0_0 l0_0.length c0_0) := (blk_cell (show w2.heap[gb2]? = some (.cells #[.slice A0_0 l0_0.length c0_0, .slice A0_1 l0_1.length c0_1] 36 (0, 0)) from Fb2_2.out.now) 0).trans rfl; have z2_1_2 : w2.cell? ⟨gb2, 1, none⟩ = some (.slice A0_1 l0_1.length c0_1) := (blk_cell (show w2.heap[gb2]? = some (.cells #[.slice A0_0 l0_0.length c0_0, .slice A0_1 l0_1.length c0_1] 36 (0, 0)) from Fb2_2.out.now) 1).trans rfl)
          | fail)
    go_ret
    exact ⟨rfl, HB_2.out⟩
  rw [if_neg cn2] at H
  have c2b0 : decide (t15 < 0) = false := decide_eq_false cn2
  clear cn2
  obtain ⟨⟨x19, y19⟩, A3_, H⟩ := Option.bind_eq_some_iff.mp H
  (try dsimp only at H)
  have A3 := Aside0.mk A3_
  clear A3_
  obtain ⟨x21, A4_, H⟩ := Option.bind_eq_some_iff.mp H
  (try dsimp only at H)
  have A4 := Aside0.mk A4_
  clear A4_
  obtain ⟨⟨x23, y23⟩, A5_, H⟩ := Option.bind_eq_some_iff.mp H
  (try dsimp only at H)
  have A5 := Aside0.mk A5_
  clear A5_
  obtain ⟨x26, A6_, H⟩ := Option.bind_eq_some_iff.mp H
  (try dsimp only at H)
  have A6 := Aside0.mk A6_
  clear A6_
  obtain ⟨t29, A7_, H⟩ := Option.bind_eq_some_iff.mp H
  (try dsimp only at H)
  have A7 := Aside0.mk A7_
  clear A7_
  by_cases ct : t29 = true
  case neg => rw [if_neg ct] at H; exact absurd H (by simp)
  rw [if_pos ct] at H
  subst ct
  obtain ⟨⟨x33, y33⟩, A8_, H⟩ := Option.bind_eq_some_iff.mp H
  (try dsimp only at H)
  have A8 := Aside0.mk A8_
  clear A8_
  obtain ⟨t34, A9_, H⟩ := Option.bind_eq_some_iff.mp H
  (try dsimp only at H)
  have A9 := Aside0.mk A9_
  clear A9_
  by_cases ct : t34 = true
  case neg => rw [if_neg ct] at H; exact absurd H (by simp)
  rw [if_pos ct] at H
  subst ct
  obtain ⟨⟨t38, x38, y38⟩, A10_, H⟩ := Option.bind_eq_some_iff.mp H
  (try dsimp only at H)
  have A10 := Aside0.mk A10_
  clear A10_
  by_cases cn11 : t38 < 0
  case pos => rw [if_pos cn11] at H; exact absurd H (by simp)
  rw [if_neg cn11] at H
  have c11b0 : decide (t38 < 0) = false := decide_eq_false cn11
  clear cn11
  obtain ⟨t44, A12_, H⟩ := Option.bind_eq_some_iff.mp H
  (try dsimp only at H)
  have A12 := Aside0.mk A12_
  clear A12_
  by_cases ct : t44 = true
  case neg => rw [if_neg ct] at H; exact absurd H (by simp)
  rw [if_pos ct] at H
  subst ct
  obtain ⟨⟨t49, x49⟩, A13_, H⟩ := Option.bind_eq_some_iff.mp H
  (try dsimp only at H)
  have A13 := Aside0.mk A13_
  clear A13_
  obtain ⟨t52, A14_, H⟩ := Option.bind_eq_some_iff.mp H
  (try dsimp only at H)
  have A14 := Aside0.mk A14_
  clear A14_
  by_cases cn15 : t52 < 0
  case pos => rw [if_pos cn15] at H; exact absurd H (by simp)
  rw [if_neg cn15] at H
  have c15b0 : decide (t52 < 0) = false := decide_eq_false cn15
  clear cn15
  by_cases cq16 : t52 = t49
  case neg => rw [if_neg cq16] at H; exact absurd H (by simp)
  rw [if_pos cq16] at H
  have c16b0 : (t52 == t49) = true := beq_iff_eq.mpr cq16
  have c16b1 : (t52 != t49) = false := bne_eq_false_iff_eq.mpr cq16
  clear cq16
  obtain ⟨⟨x59, y59⟩, A17_, H⟩ := Option.bind_eq_some_iff.mp H
  (try dsimp only at H)
  have A17 := Aside0.mk A17_
  clear A17_
  obtain ⟨x61, A18_, H⟩ := Option.bind_eq_some_iff.mp H
  (try dsimp only at H)
  have A18 := Aside0.mk A18_
  clear A18_
  obtain ⟨t64, A19_, H⟩ := Option.bind_eq_some_iff.mp H
  (try dsimp only at H)
  have A19 := Aside0.mk A19_
  clear A19_
  by_cases ct : t64 = true
  case neg => rw [if_neg ct] at H; exact absurd H (by simp)
  rw [if_pos ct] at H
  subst ct
  obtain ⟨t68, A20_, H⟩ := Option.bind_eq_some_iff.mp H
  (try dsimp only at H)
  have A20 := Aside0.mk A20_
  clear A20_
  by_cases cn21 : t68 < 0
  case pos => rw [if_pos cn21] at H; exact absurd H (by simp)
  rw [if_neg cn21] at H
  have c21b0 : decide (t68 < 0) = false := decide_eq_false cn21
  clear cn21
  by_cases cq22 : t68 = t49
  case neg => rw [if_neg cq22] at H; exact absurd H (by simp)
  rw [if_pos cq22] at H
  have c22b0 : (t68 == t49) = true := beq_iff_eq.mpr cq22
  have c22b1 : (t68 != t49) = false := bne_eq_false_iff_eq.mpr cq22
  clear cq22
  clear H
  go_enter Try.func6, Try.ntmps6
  try go_wp2_with (first
      | ((with_reducible refine gate_dst (N := 2) rfl ?_); refine box_event ?hg (N := 2) ?hd (cs := #[.slice A0_0 l0_0.length c0_0, .slice A0_1 l0_1.length c0_1]) (t := 36) ?hr ?_; (case hd => rfl); (case hg => rfl); (case hr => first | (go_simp; done) | (go_simp; rfl)); intro gb2 hgb w1 hbox hb; have G2 := Aside0.mk (show w.heap.size ≤ gb2 ∧ gb2 < w1.heap.size from ⟨by omega, blk_lt hbox⟩); have Fb2_1 := Aside0.mk (Held.blk hbox); have HB_1 := Aside0.mk (below_step HB_0.out hb); have Z_1 := Aside0.mk (show w.heap.size ≤ w1.heap.size from hb.size); clear HB_0 hb hbox hgb; have z2_0_1 : w1.cell? ⟨gb2, 0, none⟩ = some (.slice A0_0 l0_0.length c0_0) := (blk_cell (show w1.heap[gb2]? = some (.cells #[.slice A0_0 l0_0.length c0_0, .slice A0_1 l0_1.length c0_1] 36 (0, 0)) from Fb2_1.out.now) 0).trans rfl; have z2_1_1 : w1.cell? ⟨gb2, 1, none⟩ = some (.slice A0_1 l0_1.length c0_1) := (blk_cell (show w1.heap[gb2]? = some (.cells #[.slice A0_0 l0_0.length c0_0, .slice A0_1 l0_1.length c0_1] 36 (0, 0)) from Fb2_1.out.now) 1).trans rfl)
      | ((with_reducible refine gate_callee (f := 25) rfl ?_); refine goesL_ (some 15) rfl rfl Try.func25 (by kernel_rfl) rfl #[.agg #[.slice A0_0 l0_0.length c0_0, .slice A0_1 l0_1.length c0_1], .int .i64 1048576] rfl (by (try simp only [List.map_toArray, List.map_cons, List.map_nil]); first | done | rfl) ?_; (with_reducible refine (laws_szDisk.calls k A0_0 c0_0 l0_0 A0_1 c0_1 l0_1 1048576 t15 _ (Kd.C_below HR0_0.out HB_1.out) (HC0_0.out) (Kd.C_below HR0_1.out HB_1.out) (HC0_1.out) A1.out).mono ?_); rintro e w2 ⟨rfl, hb⟩; refine ⟨_, rfl, ?_⟩; have Fb2_2 := Aside0.mk (Fb2_1.out.below hb); have HB_2 := Aside0.mk (below_step HB_1.out hb); have Z_2 := Aside0.mk (show w1.heap.size ≤ w2.heap.size from hb.size); clear Fb2_1 HB_1 z2_0_1 z2_1_1 hb; have z2_0_2 : w2.cell? ⟨gb2, 0, none⟩ = some (.slice A0_0 l0_0.length c0_0) := (blk_cell (show w2.heap[gb2]? = some (.cells #[.slice A0_0 l0_0.length c0_0, .slice A0_1 l0_1.length c0_1] 36 (0, 0)) from Fb2_2.out.now) 0).trans rfl; have z2_1_2 : w2.cell? ⟨gb2, 1, none⟩ = some (.slice A0_1 l0_1.length c0_1) := (blk_cell (show w2.heap[gb2]? = some (.cells #[.slice A0_0 l0_0.length c0_0, .slice A0_1 l0_1.length c0_1] 36 (0, 0)) from Fb2_2.out.now) 1).trans rfl)
      | ((with_reducible refine gate_callee (f := 27) rfl ?_); refine goesL_ (some 19) rfl rfl Try.func27 (by kernel_rfl) rfl #[.agg #[.slice A0_0 l0_0.length c0_0, .slice A0_1 l0_1.length c0_1]] rfl (by (try simp only [List.map_toArray, List.map_cons, List.map_nil]); first | done | rfl) ?_; (with_reducible refine (laws_toDisk.calls k A0_0 c0_0 l0_0 A0_1 c0_1 l0_1 x19 y19 _ (Kd.C_below HR0_0.out HB_2.out) (HC0_0.out) (Kd.C_below HR0_1.out HB_2.out) (HC0_1.out) A3.out).mono ?_); rintro e w3 ⟨v_, u_, rfl, ho0, ho1, hb⟩; have htw := Two.of (ok' := fun _ => True) rfl ho0 (Kd.S_mono ho1 (fun _ h_ => ⟨trivial, h_⟩)); obtain ⟨U19, cu19, V19, cv19, rfl, rfl⟩ := Two.slices htw; have hrw := Two.held (b := w.heap.size) htw (Below.size HB_2.out); refine ⟨_, rfl, ?_⟩; have Fo19_3 := Aside0.mk hrw; clear hrw; clear ho0 ho1 htw; have Fb2_3 := Aside0.mk (Fb2_2.out.below hb); have HB_3 := Aside0.mk (below_step HB_2.out hb); have Z_3 := Aside0.mk (show w2.heap.size ≤ w3.heap.size from hb.size); clear Fb2_2 HB_2 z2_0_2 z2_1_2 hb; have z2_0_3 : w3.cell? ⟨gb2, 0, none⟩ = some (.slice A0_0 l0_0.length c0_0) := (blk_cell (show w3.heap[gb2]? = some (.cells #[.slice A0_0 l0_0.length c0_0, .slice A0_1 l0_1.length c0_1] 36 (0, 0)) from Fb2_3.out.now) 0).trans rfl; have z2_1_3 : w3.cell? ⟨gb2, 1, none⟩ = some (.slice A0_1 l0_1.length c0_1) := (blk_cell (show w3.heap[gb2]? = some (.cells #[.slice A0_0 l0_0.length c0_0, .slice A0_1 l0_1.length c0_1] 36 (0, 0)) from Fb2_3.out.now) 1).trans rfl)
      | ((with_reducible refine gate_callee (f := 29) rfl ?_); refine goesL_ (some 21) rfl rfl Try.func29 (by kernel_rfl) rfl #[.agg #[.slice U19 x19.length cu19, .slice V19 y19.length cv19], .int .i64 a1] rfl (by (try simp only [List.map_toArray, List.map_cons, List.map_nil]); first | done | rfl) ?_; (with_reducible refine (spec_DiskRead.calls k U19 cu19 x19 V19 cv19 y19 a1 x21 _ (Two.c1 (Fo19_3.out.now)) (Two.l1 (Fo19_3.out.now)) (Two.c2 (Fo19_3.out.now)) (Two.l2 (Fo19_3.out.now)) A4.out).mono ?_); rintro e w4 ⟨v_, rfl, ho0, hb⟩; have hrw := Held.row (b := w.heap.size) ho0 hb.size (Below.size HB_3.out); obtain ⟨U21, cu21, rfl⟩ := Kd.R_slice ho0; refine ⟨_, rfl, ?_⟩; have Fo21_4 := Aside0.mk hrw; clear hrw; clear ho0; have Fb2_4 := Aside0.mk (Fb2_3.out.below hb); have Fo19_4 := Aside0.mk (Fo19_3.out.below hb); have HB_4 := Aside0.mk (below_step HB_3.out hb); have Z_4 := Aside0.mk (show w3.heap.size ≤ w4.heap.size from hb.size); clear Fb2_3 Fo19_3 HB_3 z2_0_3 z2_1_3 hb; have z2_0_4 : w4.cell? ⟨gb2, 0, none⟩ = some (.slice A0_0 l0_0.length c0_0) := (blk_cell (show w4.heap[gb2]? = some (.cells #[.slice A0_0 l0_0.length c0_0, .slice A0_1 l0_1.length c0_1] 36 (0, 0)) from Fb2_4.out.now) 0).trans rfl; have z2_1_4 : w4.cell? ⟨gb2, 1, none⟩ = some (.slice A0_1 l0_1.length c0_1) := (blk_cell (show w4.heap[gb2]? = some (.cells #[.slice A0_0 l0_0.length c0_0, .slice A0_1 l0_1.length c0_1] 36 (0, 0)) from Fb2_4.out.now) 1).trans rfl)
      | ((with_reducible refine gate_callee (f := 27) rfl ?_); refine goesL_ (some 23) rfl rfl Try.func27 (by kernel_rfl) rfl #[.agg #[.slice A0_0 l0_0.length c0_0, .slice A0_1 l0_1.length c0_1]] rfl (by (try simp only [List.map_toArray, List.map_cons, List.map_nil]); first | done | rfl) ?_; (with_reducible refine (laws_toDisk.calls k A0_0 c0_0 l0_0 A0_1 c0_1 l0_1 x23 y23 _ (Kd.C_below HR0_0.out HB_4.out) (HC0_0.out) (Kd.C_below HR0_1.out HB_4.out) (HC0_1.out) A5.out).mono ?_); rintro e w5 ⟨v_, u_, rfl, ho0, ho1, hb⟩; have htw := Two.of (ok' := fun _ => True) rfl ho0 (Kd.S_mono ho1 (fun _ h_ => ⟨trivial, h_⟩)); obtain ⟨U23, cu23, V23, cv23, rfl, rfl⟩ := Two.slices htw; have hrw := Two.held (b := w.heap.size) htw (Below.size HB_4.out); refine ⟨_, rfl, ?_⟩; have Fo23_5 := Aside0.mk hrw; clear hrw; clear ho0 ho1 htw; have Fb2_5 := Aside0.mk (Fb2_4.out.below hb); have Fo19_5 := Aside0.mk (Fo19_4.out.below hb); have Fo21_5 := Aside0.mk (Fo21_4.out.below hb); have HB_5 := Aside0.mk (below_step HB_4.out hb); have Z_5 := Aside0.mk (show w4.heap.size ≤ w5.heap.size from hb.size); clear Fb2_4 Fo19_4 Fo21_4 HB_4 z2_0_4 z2_1_4 hb; have z2_0_5 : w5.cell? ⟨gb2, 0, none⟩ = some (.slice A0_0 l0_0.length c0_0) := (blk_cell (show w5.heap[gb2]? = some (.cells #[.slice A0_0 l0_0.length c0_0, .slice A0_1 l0_1.length c0_1] 36 (0, 0)) from Fb2_5.out.now) 0).trans rfl; have z2_1_5 : w5.cell? ⟨gb2, 1, none⟩ = some (.slice A0_1 l0_1.length c0_1) := (blk_cell (show w5.heap[gb2]? = some (.cells #[.slice A0_0 l0_0.length c0_0, .slice A0_1 l0_1.length c0_1] 36 (0, 0)) from Fb2_5.out.now) 1).trans rfl)
      | ((with_reducible refine gate_dst (N := 7) rfl ?_); refine box_event ?hg (N := 7) ?hd (cs := #[.slice none 0 0, .slice none 0 0]) (t := 29) ?hr ?_; (case hd => rfl); (case hg => rfl); (case hr => first | (go_simp; done) | (go_simp; rfl)); intro gb7 hgb w6 hbox hb; have G7 := Aside0.mk (show w5.heap.size ≤ gb7 ∧ gb7 < w6.heap.size from ⟨by omega, blk_lt hbox⟩); have Fb7_6 := Aside0.mk (Held.blk hbox); have Fb2_6 := Aside0.mk (Fb2_5.out.below hb); have Fo19_6 := Aside0.mk (Fo19_5.out.below hb); have Fo21_6 := Aside0.mk (Fo21_5.out.below hb); have Fo23_6 := Aside0.mk (Fo23_5.out.below hb); have HB_6 := Aside0.mk (below_step HB_5.out hb); have Z_6 := Aside0.mk (show w5.heap.size ≤ w6.heap.size from hb.size); clear Fb2_5 Fo19_5 Fo21_5 Fo23_5 HB_5 z2_0_5 z2_1_5 hb hbox hgb; have z2_0_6 : w6.cell? ⟨gb2, 0, none⟩ = some (.slice A0_0 l0_0.length c0_0) := (blk_cell (show w6.heap[gb2]? = some (.cells #[.slice A0_0 l0_0.length c0_0, .slice A0_1 l0_1.length c0_1] 36 (0, 0)) from Fb2_6.out.now) 0).trans rfl; have z2_1_6 : w6.cell? ⟨gb2, 1, none⟩ = some (.slice A0_1 l0_1.length c0_1) := (blk_cell (show w6.heap[gb2]? = some (.cells #[.slice A0_0 l0_0.length c0_0, .slice A0_1 l0_1.length c0_1] 36 (0, 0)) from Fb2_6.out.now) 1).trans rfl; have z7_0_6 : w6.cell? ⟨gb7, 0, none⟩ = some (.slice none 0 0) := (blk_cell (show w6.heap[gb7]? = some (.cells #[.slice none 0 0, .slice none 0 0] 29 (0, 0)) from Fb7_6.out.now) 0).trans rfl; have z7_1_6 : w6.cell? ⟨gb7, 1, none⟩ = some (.slice none 0 0) := (blk_cell (show w6.heap[gb7]? = some (.cells #[.slice none 0 0, .slice none 0 0] 29 (0, 0)) from Fb7_6.out.now) 1).trans rfl)
      | ((with_reducible refine gate_store (t := 29) (p := 7) rfl ?_); refine Box.store_cells (P := Try.prog) ?hg (t := 29) (p := .tmp 7) (x := .tmp 23) ?ho ?hn gb7 0 ?ha (u := .agg #[.slice U23 x23.length cu23, .slice V23 y23.length cv23]) ?hx [.slice U23 x23.length cu23, .slice V23 y23.length cv23] rfl (by kernel_rfl) (by intro q_ hq_; simp only [List.mem_cons, List.not_mem_nil, or_false] at hq_; rcases hq_ with rfl | rfl <;> rfl) #[.slice none 0 0, .slice none 0 0] #[.slice U23 x23.length cu23, .slice V23 y23.length cv23] (e := 29) (show w6.heap[gb7]? = some (.cells #[.slice none 0 0, .slice none 0 0] 29 (0, 0)) from Fb7_6.out.now) (by show 0 + 2 ≤ 2; decide) rfl ?_; (case ho => rfl); (case hg => rfl); (case hn => rfl); (case ha => first | rfl | (go_simp; done) | (go_simp; rfl)); (case hx => first | rfl | (go_simp; done) | (go_simp; rfl)); intro w7 hbox hgr; have n_ := Aside0.mk (Held.blk hbox); have Fb2_7 := Aside0.mk (Fb2_6.out.grown hgr (by have := Z_1.out; have := Z_2.out; have := Z_3.out; have := Z_4.out; have := Z_5.out; have := Z_6.out; have := G2.out; have := G7.out; omega)); have Fo19_7 := Aside0.mk (Fo19_6.out.grown hgr (by have := Z_1.out; have := Z_2.out; have := Z_3.out; have := Z_4.out; have := Z_5.out; have := Z_6.out; have := G2.out; have := G7.out; omega)); have Fo21_7 := Aside0.mk (Fo21_6.out.grown hgr (by have := Z_1.out; have := Z_2.out; have := Z_3.out; have := Z_4.out; have := Z_5.out; have := Z_6.out; have := G2.out; have := G7.out; omega)); have Fo23_7 := Aside0.mk (Fo23_6.out.grown hgr (by have := Z_1.out; have := Z_2.out; have := Z_3.out; have := Z_4.out; have := Z_5.out; have := Z_6.out; have := G2.out; have := G7.out; omega)); have HB_7 := Aside0.mk (Box.below_grown HB_6.out hgr (by have hh_ := (Below.size HB_6.out); have := Z_1.out; have := Z_2.out; have := Z_3.out; have := Z_4.out; have := Z_5.out; have := Z_6.out; have := G2.out; have := G7.out; omega)); have Z_7 := Aside0.mk (show w6.heap.size ≤ w7.heap.size from grown_top hgr); clear Fb2_6 Fo19_6 Fo21_6 Fo23_6 Fb7_6 HB_6 z2_0_6 z2_1_6 z7_0_6 z7_1_6 hbox hgr; have Fb7_7 := n_; clear n_; have z2_0_7 : w7.cell? ⟨gb2, 0, none⟩ = some (.slice A0_0 l0_0.length c0_0) := (blk_cell (show w7.heap[gb2]? = some (.cells #[.slice A0_0 l0_0.length c0_0, .slice A0_1 l0_1.length c0_1] 36 (0, 0)) from Fb2_7.out.now) 0).trans rfl; have z2_1_7 : w7.cell? ⟨gb2, 1, none⟩ = some (.slice A0_1 l0_1.length c0_1) := (blk_cell (show w7.heap[gb2]? = some (.cells #[.slice A0_0 l0_0.length c0_0, .slice A0_1 l0_1.length c0_1] 36 (0, 0)) from Fb2_7.out.now) 1).trans rfl; have z7_0_7 : w7.cell? ⟨gb7, 0, none⟩ = some (.slice U23 x23.length cu23) := (blk_cell (show w7.heap[gb7]? = some (.cells #[.slice U23 x23.length cu23, .slice V23 y23.length cv23] 29 (0, 0)) from Fb7_7.out.now) 0).trans rfl; have z7_1_7 : w7.cell? ⟨gb7, 1, none⟩ = some (.slice V23 y23.length cv23) := (blk_cell (show w7.heap[gb7]? = some (.cells #[.slice U23 x23.length cu23, .slice V23 y23.length cv23] 29 (0, 0)) from Fb7_7.out.now) 1).trans rfl)
      | ((with_reducible refine gate_callee (f := 30) rfl ?_); refine goesL_ (some 26) rfl rfl Try.func30 (by kernel_rfl) rfl #[.agg #[.slice U23 x23.length cu23, .slice V23 y23.length cv23], .int .i64 a1] rfl (by (try simp only [List.map_toArray, List.map_cons, List.map_nil]); first | done | rfl) ?_; (with_reducible refine (impl_DiskRead.calls k U23 cu23 x23 V23 cv23 y23 a1 x26 _ (Two.c1 (Fo23_7.out.now)) (Two.l1 (Fo23_7.out.now)) (Two.c2 (Fo23_7.out.now)) (Two.l2 (Fo23_7.out.now)) A6.out).mono ?_); rintro e w8 ⟨v_, rfl, ho0, hb⟩; have hrw := Held.row (b := w.heap.size) ho0 hb.size (Below.size HB_7.out); obtain ⟨U26, cu26, rfl⟩ := Kd.R_slice ho0; refine ⟨_, rfl, ?_⟩; have Fo26_8 := Aside0.mk hrw; clear hrw; clear ho0; have Fb2_8 := Aside0.mk (Fb2_7.out.below hb); have Fo19_8 := Aside0.mk (Fo19_7.out.below hb); have Fo21_8 := Aside0.mk (Fo21_7.out.below hb); have Fo23_8 := Aside0.mk (Fo23_7.out.below hb); have Fb7_8 := Aside0.mk (Fb7_7.out.below hb); have HB_8 := Aside0.mk (below_step HB_7.out hb); have Z_8 := Aside0.mk (show w7.heap.size ≤ w8.heap.size from hb.size); clear Fb2_7 Fo19_7 Fo21_7 Fo23_7 Fb7_7 HB_7 z2_0_7 z2_1_7 z7_0_7 z7_1_7 hb; have z2_0_8 : w8.cell? ⟨gb2, 0, none⟩ = some (.slice A0_0 l0_0.length c0_0) := (blk_cell (show w8.heap[gb2]? = some (.cells #[.slice A0_0 l0_0.length c0_0, .slice A0_1 l0_1.length c0_1] 36 (0, 0)) from Fb2_8.out.now) 0).trans rfl; have z2_1_8 : w8.cell? ⟨gb2, 1, none⟩ = some (.slice A0_1 l0_1.length c0_1) := (blk_cell (show w8.heap[gb2]? = some (.cells #[.slice A0_0 l0_0.length c0_0, .slice A0_1 l0_1.length c0_1] 36 (0, 0)) from Fb2_8.out.now) 1).trans rfl; have z7_0_8 : w8.cell? ⟨gb7, 0, none⟩ = some (.slice U23 x23.length cu23) := (blk_cell (show w8.heap[gb7]? = some (.cells #[.slice U23 x23.length cu23, .slice V23 y23.length cv23] 29 (0, 0)) from Fb7_8.out.now) 0).trans rfl; have z7_1_8 : w8.cell? ⟨gb7, 1, none⟩ = some (.slice V23 y23.length cv23) := (blk_cell (show w8.heap[gb7]? = some (.cells #[.slice U23 x23.length cu23, .slice V23 y23.length cv23] 29 (0, 0)) from Fb7_8.out.now) 1).trans rfl)
      | ((with_reducible refine gate_callee (f := 17) rfl ?_); refine goesL_ (some 29) rfl rfl Try.func17 (by kernel_rfl) rfl #[.slice U26 x26.length cu26, .slice U21 x21.length cu21] rfl (by (try simp only [List.map_toArray, List.map_cons, List.map_nil]); first | done | rfl) ?_; (with_reducible refine (laws_eqByteS.calls k U26 cu26 x26 U21 cu21 x21 true _ ((Kd.R_reads' (Fo26_8.out.now)).2.2) ((Kd.R_reads' (Fo26_8.out.now)).2.1) ((Kd.R_reads' (Fo21_8.out.now)).2.2) ((Kd.R_reads' (Fo21_8.out.now)).2.1) A7.out).mono ?_); rintro e w9 ⟨rfl, hdr⟩; have hb := drawn_below hdr; clear hdr; refine ⟨_, rfl, ?_⟩; have Fb2_9 := Aside0.mk (Fb2_8.out.below hb); have Fo19_9 := Aside0.mk (Fo19_8.out.below hb); have Fo21_9 := Aside0.mk (Fo21_8.out.below hb); have Fo23_9 := Aside0.mk (Fo23_8.out.below hb); have Fb7_9 := Aside0.mk (Fb7_8.out.below hb); have Fo26_9 := Aside0.mk (Fo26_8.out.below hb); have HB_9 := Aside0.mk (below_step HB_8.out hb); have Z_9 := Aside0.mk (show w8.heap.size ≤ w9.heap.size from hb.size); clear Fb2_8 Fo19_8 Fo21_8 Fo23_8 Fb7_8 Fo26_8 HB_8 z2_0_8 z2_1_8 z7_0_8 z7_1_8 hb; have z2_0_9 : w9.cell? ⟨gb2, 0, none⟩ = some (.slice A0_0 l0_0.length c0_0) := (blk_cell (show w9.heap[gb2]? = some (.cells #[.slice A0_0 l0_0.length c0_0, .slice A0_1 l0_1.length c0_1] 36 (0, 0)) from Fb2_9.out.now) 0).trans rfl; have z2_1_9 : w9.cell? ⟨gb2, 1, none⟩ = some (.slice A0_1 l0_1.length c0_1) := (blk_cell (show w9.heap[gb2]? = some (.cells #[.slice A0_0 l0_0.length c0_0, .slice A0_1 l0_1.length c0_1] 36 (0, 0)) from Fb2_9.out.now) 1).trans rfl; have z7_0_9 : w9.cell? ⟨gb7, 0, none⟩ = some (.slice U23 x23.length cu23) := (blk_cell (show w9.heap[gb7]? = some (.cells #[.slice U23 x23.length cu23, .slice V23 y23.length cv23] 29 (0, 0)) from Fb7_9.out.now) 0).trans rfl; have z7_1_9 : w9.cell? ⟨gb7, 1, none⟩ = some (.slice V23 y23.length cv23) := (blk_cell (show w9.heap[gb7]? = some (.cells #[.slice U23 x23.length cu23, .slice V23 y23.length cv23] 29 (0, 0)) from Fb7_9.out.now) 1).trans rfl)
      | fail)
  have Fb2_10 := Aside0.mk (Fb2_9.out.drew)
  have Fo19_10 := Aside0.mk (Fo19_9.out.drew)
  have Fo21_10 := Aside0.mk (Fo21_9.out.drew)
  have Fo23_10 := Aside0.mk (Fo23_9.out.drew)
  have Fb7_10 := Aside0.mk (Fb7_9.out.drew)
  have Fo26_10 := Aside0.mk (Fo26_9.out.drew)
  have HB_10 := Aside0.mk (below_drew1 HB_9.out)
  clear Fb2_9 Fo19_9 Fo21_9 Fo23_9 Fb7_9 Fo26_9 HB_9
  refine start_ (n := 5) (S := fun w' => w'.cell? ⟨gb2, 0, none⟩ = some (.slice A0_0 l0_0.length c0_0) ∧ w'.cell? ⟨gb2, 1, none⟩ = some (.slice A0_1 l0_1.length c0_1) ∧ w'.cell? ⟨gb7, 0, none⟩ = some (.slice U23 x23.length cu23) ∧ w'.cell? ⟨gb7, 1, none⟩ = some (.slice V23 y23.length cv23)) (ds := []) #[false, false, false, false, false] (by kernel_rfl) rfl rfl ⟨z2_0_9, z2_1_9, z7_0_9, z7_1_9⟩ (fun hHeld => ?_)
  have hsz : w9.heap.size ≤ w9.drew.heap.size := Nat.le_refl _
  clear z2_0_9 z2_1_9 z7_0_9 z7_1_9
  generalize w9.drew = w10 at Fb2_10 Fo19_10 Fo21_10 Fo23_10 Fb7_10 Fo26_10 HB_10 hsz hHeld ⊢
  have Z_10 := Aside0.mk hsz; clear hsz
  have z2_0_10 : w10.cell? ⟨gb2, 0, none⟩ = some (.slice A0_0 l0_0.length c0_0) := (blk_cell (show w10.heap[gb2]? = some (.cells #[.slice A0_0 l0_0.length c0_0, .slice A0_1 l0_1.length c0_1] 36 (0, 0)) from Fb2_10.out.now) 0).trans rfl
  have z2_1_10 : w10.cell? ⟨gb2, 1, none⟩ = some (.slice A0_1 l0_1.length c0_1) := (blk_cell (show w10.heap[gb2]? = some (.cells #[.slice A0_0 l0_0.length c0_0, .slice A0_1 l0_1.length c0_1] 36 (0, 0)) from Fb2_10.out.now) 1).trans rfl
  have z7_0_10 : w10.cell? ⟨gb7, 0, none⟩ = some (.slice U23 x23.length cu23) := (blk_cell (show w10.heap[gb7]? = some (.cells #[.slice U23 x23.length cu23, .slice V23 y23.length cv23] 29 (0, 0)) from Fb7_10.out.now) 0).trans rfl
  have z7_1_10 : w10.cell? ⟨gb7, 1, none⟩ = some (.slice V23 y23.length cv23) := (blk_cell (show w10.heap[gb7]? = some (.cells #[.slice U23 x23.length cu23, .slice V23 y23.length cv23] 29 (0, 0)) from Fb7_10.out.now) 1).trans rfl
  refine take_ (i := 0) (N := some 31) (v := ?_) (a' := ?_) #[true, false, false, false, false] rfl rfl (by kernel_rfl) (fun _ _ _ h => h) (Or.inl ⟨by rfl, ?_⟩) hHeld ?_ ?_
  rotate_left
  · rintro w' ⟨s0, s1, s2, s3⟩
    go_simp
    with_reducible rfl
  rotate_left
  · simp only [Act.put, List.setIfInBounds_toArray, List.set_cons_zero, List.set_cons_succ, i64_w, i32_w]
    rfl
  refine take_ (i := 1) (N := some 32) (v := ?_) (a' := ?_) #[true, true, false, false, false] rfl rfl (by kernel_rfl) (fun _ _ _ h => h) (Or.inl ⟨by rfl, ?_⟩) hHeld ?_ ?_
  rotate_left
  · rintro w' ⟨s0, s1, s2, s3⟩
    go_simp
    with_reducible rfl
  rotate_left
  · simp only [Act.put, List.setIfInBounds_toArray, List.set_cons_zero, List.set_cons_succ, i64_w, i32_w]
    rfl
  refine one_ (i := 2) (N := some 33) #[true, true, true, false, false] rfl rfl (by kernel_rfl) (by decide) (fun K hK => ?_)
  refine goes_ Try.func27 (by kernel_rfl) rfl #[.agg #[.slice A0_0 l0_0.length c0_0, .slice A0_1 l0_1.length c0_1]] (by rfl) rfl rfl (by (try simp only [List.map_toArray, List.map_cons, List.map_nil]); first | done | rfl) ?_
  (with_reducible refine (laws_toDisk.calls k A0_0 c0_0 l0_0 A0_1 c0_1 l0_1 x33 y33 _ (Kd.C_below HR0_0.out HB_10.out) (HC0_0.out) (Kd.C_below HR0_1.out HB_10.out) (HC0_1.out) A8.out).mono ?_)
  rintro e w11 ⟨v_, u_, rfl, ho0, ho1, hb⟩
  have htw := Two.of (ok' := fun _ => True) rfl ho0 (Kd.S_mono ho1 (fun _ h_ => ⟨trivial, h_⟩))
  obtain ⟨U33, cu33, V33, cv33, rfl, rfl⟩ := Two.slices htw
  have hrw := Two.held (b := w.heap.size) htw (Below.size HB_10.out)
  refine ⟨_, rfl, ?_⟩
  have Fo33_11 := Aside0.mk hrw; clear hrw; clear ho0 ho1 htw
  have Fb2_11 := Aside0.mk (Fb2_10.out.below hb); have Fo19_11 := Aside0.mk (Fo19_10.out.below hb); have Fo21_11 := Aside0.mk (Fo21_10.out.below hb); have Fo23_11 := Aside0.mk (Fo23_10.out.below hb); have Fb7_11 := Aside0.mk (Fb7_10.out.below hb); have Fo26_11 := Aside0.mk (Fo26_10.out.below hb); have HB_11 := Aside0.mk (below_step HB_10.out hb); have Z_11 := Aside0.mk (show w10.heap.size ≤ w11.heap.size from hb.size)
  clear Fb2_10 Fo19_10 Fo21_10 Fo23_10 Fb7_10 Fo26_10 HB_10 z2_0_10 z2_1_10 z7_0_10 z7_1_10 hb
  have z2_0_11 : w11.cell? ⟨gb2, 0, none⟩ = some (.slice A0_0 l0_0.length c0_0) := (blk_cell (show w11.heap[gb2]? = some (.cells #[.slice A0_0 l0_0.length c0_0, .slice A0_1 l0_1.length c0_1] 36 (0, 0)) from Fb2_11.out.now) 0).trans rfl; have z2_1_11 : w11.cell? ⟨gb2, 1, none⟩ = some (.slice A0_1 l0_1.length c0_1) := (blk_cell (show w11.heap[gb2]? = some (.cells #[.slice A0_0 l0_0.length c0_0, .slice A0_1 l0_1.length c0_1] 36 (0, 0)) from Fb2_11.out.now) 1).trans rfl; have z7_0_11 : w11.cell? ⟨gb7, 0, none⟩ = some (.slice U23 x23.length cu23) := (blk_cell (show w11.heap[gb7]? = some (.cells #[.slice U23 x23.length cu23, .slice V23 y23.length cv23] 29 (0, 0)) from Fb7_11.out.now) 0).trans rfl; have z7_1_11 : w11.cell? ⟨gb7, 1, none⟩ = some (.slice V23 y23.length cv23) := (blk_cell (show w11.heap[gb7]? = some (.cells #[.slice U23 x23.length cu23, .slice V23 y23.length cv23] 29 (0, 0)) from Fb7_11.out.now) 1).trans rfl
  refine hK.out _ _ ⟨z2_0_11, z2_1_11, z7_0_11, z7_1_11⟩ (fun hHeld => ?_)
  clear hK K
  refine norm_ (a' := ?_) ?_ ?_
  rotate_left
  · show Act.put _ (some 33) _ = _
    simp only [Act.put, List.setIfInBounds_toArray, List.set_cons_zero, List.set_cons_succ, i64_w, i32_w]
    rfl
  refine one_ (i := 3) (N := some 34) #[true, true, true, true, false] rfl rfl (by kernel_rfl) (by decide) (fun K hK => ?_)
  refine goes_ Try.func22 (by kernel_rfl) rfl #[.agg #[.slice U23 x23.length cu23, .slice V23 y23.length cv23], .agg #[.slice U33 x33.length cu33, .slice V33 y33.length cv33]] (by rfl) rfl rfl (by (try simp only [List.map_toArray, List.map_cons, List.map_nil]); first | done | rfl) ?_
  (with_reducible refine (laws_eqDisk.calls k U23 cu23 x23 V23 cv23 y23 U33 cu33 x33 V33 cv33 y33 true _ (Two.c1 (Fo23_11.out.now)) (Two.l1 (Fo23_11.out.now)) (Two.c2 (Fo23_11.out.now)) (Two.l2 (Fo23_11.out.now)) (Two.c1 (Fo33_11.out.now)) (Two.l1 (Fo33_11.out.now)) (Two.c2 (Fo33_11.out.now)) (Two.l2 (Fo33_11.out.now)) A9.out).mono ?_)
  rintro e w12 ⟨rfl, hb⟩
  refine ⟨_, rfl, ?_⟩
  have Fb2_12 := Aside0.mk (Fb2_11.out.below hb); have Fo19_12 := Aside0.mk (Fo19_11.out.below hb); have Fo21_12 := Aside0.mk (Fo21_11.out.below hb); have Fo23_12 := Aside0.mk (Fo23_11.out.below hb); have Fb7_12 := Aside0.mk (Fb7_11.out.below hb); have Fo26_12 := Aside0.mk (Fo26_11.out.below hb); have Fo33_12 := Aside0.mk (Fo33_11.out.below hb); have HB_12 := Aside0.mk (below_step HB_11.out hb); have Z_12 := Aside0.mk (show w11.heap.size ≤ w12.heap.size from hb.size)
  clear Fb2_11 Fo19_11 Fo21_11 Fo23_11 Fb7_11 Fo26_11 Fo33_11 HB_11 z2_0_11 z2_1_11 z7_0_11 z7_1_11 hb
  have z2_0_12 : w12.cell? ⟨gb2, 0, none⟩ = some (.slice A0_0 l0_0.length c0_0) := (blk_cell (show w12.heap[gb2]? = some (.cells #[.slice A0_0 l0_0.length c0_0, .slice A0_1 l0_1.length c0_1] 36 (0, 0)) from Fb2_12.out.now) 0).trans rfl; have z2_1_12 : w12.cell? ⟨gb2, 1, none⟩ = some (.slice A0_1 l0_1.length c0_1) := (blk_cell (show w12.heap[gb2]? = some (.cells #[.slice A0_0 l0_0.length c0_0, .slice A0_1 l0_1.length c0_1] 36 (0, 0)) from Fb2_12.out.now) 1).trans rfl; have z7_0_12 : w12.cell? ⟨gb7, 0, none⟩ = some (.slice U23 x23.length cu23) := (blk_cell (show w12.heap[gb7]? = some (.cells #[.slice U23 x23.length cu23, .slice V23 y23.length cv23] 29 (0, 0)) from Fb7_12.out.now) 0).trans rfl; have z7_1_12 : w12.cell? ⟨gb7, 1, none⟩ = some (.slice V23 y23.length cv23) := (blk_cell (show w12.heap[gb7]? = some (.cells #[.slice U23 x23.length cu23, .slice V23 y23.length cv23] 29 (0, 0)) from Fb7_12.out.now) 1).trans rfl
  refine hK.out _ _ ⟨z2_0_12, z2_1_12, z7_0_12, z7_1_12⟩ (fun hHeld => ?_)
  clear hK K
  refine norm_ (a' := ?_) ?_ ?_
  rotate_left
  · show Act.put _ (some 34) _ = _
    simp only [Act.put, List.setIfInBounds_toArray, List.set_cons_zero, List.set_cons_succ, i64_w, i32_w]
    rfl
  refine pure_ (i := 4) (N := some 35) (v := ?_) (a' := ?_) #[true, true, true, true, true] rfl rfl (by kernel_rfl) (fun _ _ _ h => h) (Or.inl ⟨by rfl, ?_⟩) ?_ ?_
  rotate_left
  · intro w'
    go_simp
    with_reducible rfl
  rotate_left
  · simp only [Act.put, List.setIfInBounds_toArray, List.set_cons_zero, List.set_cons_succ, i64_w, i32_w]
    rfl
  refine done_ (by kernel_rfl) ?_
  try go_wp2_with (first
      | ((with_reducible refine gate_callee (f := 23) rfl ?_); refine goesL_ (some 38) rfl rfl Try.func23 (by kernel_rfl) rfl #[.agg #[.slice U23 x23.length cu23, .slice V23 y23.length cv23], .int .i64 1] rfl (by (try simp only [List.map_toArray, List.map_cons, List.map_nil]); first | done | rfl) ?_; (with_reducible refine (laws_markDisk.calls k (w4.heap.size) (w5.heap.size) U23 cu23 x23 V23 cv23 y23 1 t38 x38 y38 w _ HB_12.out (Fo23_12.out.top) (Fo23_12.out.now) A10.out).mono ?_); rintro e w13 ⟨rfl, hl0, hl1, ho, hb, hk⟩; refine ⟨_, rfl, ?_⟩; have Fm38_13 := Aside0.mk (Two.marked (lo := w4.heap.size) (hi := w5.heap.size) ho (Nat.le_trans (by have := Z_1.out; have := Z_2.out; have := Z_3.out; have := Z_4.out; have := Z_5.out; have := Z_6.out; have := Z_7.out; have := Z_8.out; have := Z_9.out; have := Z_10.out; have := Z_11.out; have := Z_12.out; have := G2.out; have := G7.out; omega) (Nat.le_refl w12.heap.size))); have Lm38_0 := Aside0.mk hl0; have Lm38_1 := Aside0.mk hl1; have Fb2_13 := Aside0.mk (Fb2_12.out.kept hk (fun k_ hk_ => by have hq_ : w4.heap.size ≤ k_ ∧ k_ < w5.heap.size := hk_; have := Z_1.out; have := Z_2.out; have := Z_3.out; have := Z_4.out; have := Z_5.out; have := Z_6.out; have := Z_7.out; have := Z_8.out; have := Z_9.out; have := Z_10.out; have := Z_11.out; have := Z_12.out; have := G2.out; have := G7.out; omega)); have Fo19_13 := Aside0.mk (Fo19_12.out.kept hk (fun k_ hk_ => by have hq_ : w4.heap.size ≤ k_ ∧ k_ < w5.heap.size := hk_; have := Z_1.out; have := Z_2.out; have := Z_3.out; have := Z_4.out; have := Z_5.out; have := Z_6.out; have := Z_7.out; have := Z_8.out; have := Z_9.out; have := Z_10.out; have := Z_11.out; have := Z_12.out; have := G2.out; have := G7.out; omega)); have Fo21_13 := Aside0.mk (Fo21_12.out.kept hk (fun k_ hk_ => by have hq_ : w4.heap.size ≤ k_ ∧ k_ < w5.heap.size := hk_; have := Z_1.out; have := Z_2.out; have := Z_3.out; have := Z_4.out; have := Z_5.out; have := Z_6.out; have := Z_7.out; have := Z_8.out; have := Z_9.out; have := Z_10.out; have := Z_11.out; have := Z_12.out; have := G2.out; have := G7.out; omega)); have Fb7_13 := Aside0.mk (Fb7_12.out.kept hk (fun k_ hk_ => by have hq_ : w4.heap.size ≤ k_ ∧ k_ < w5.heap.size := hk_; have := Z_1.out; have := Z_2.out; have := Z_3.out; have := Z_4.out; have := Z_5.out; have := Z_6.out; have := Z_7.out; have := Z_8.out; have := Z_9.out; have := Z_10.out; have := Z_11.out; have := Z_12.out; have := G2.out; have := G7.out; omega)); have Fo26_13 := Aside0.mk (Fo26_12.out.kept hk (fun k_ hk_ => by have hq_ : w4.heap.size ≤ k_ ∧ k_ < w5.heap.size := hk_; have := Z_1.out; have := Z_2.out; have := Z_3.out; have := Z_4.out; have := Z_5.out; have := Z_6.out; have := Z_7.out; have := Z_8.out; have := Z_9.out; have := Z_10.out; have := Z_11.out; have := Z_12.out; have := G2.out; have := G7.out; omega)); have Fo33_13 := Aside0.mk (Fo33_12.out.kept hk (fun k_ hk_ => by have hq_ : w4.heap.size ≤ k_ ∧ k_ < w5.heap.size := hk_; have := Z_1.out; have := Z_2.out; have := Z_3.out; have := Z_4.out; have := Z_5.out; have := Z_6.out; have := Z_7.out; have := Z_8.out; have := Z_9.out; have := Z_10.out; have := Z_11.out; have := Z_12.out; have := G2.out; have := G7.out; omega)); have HB_13 := Aside0.mk (hb); have Z_13 := Aside0.mk (show w12.heap.size ≤ w13.heap.size from hk.1); clear Fb2_12 Fo19_12 Fo21_12 Fb7_12 Fo26_12 Fo33_12 Fo23_12 HB_12 z2_0_12 z2_1_12 z7_0_12 z7_1_12 ho hb hk hl0 hl1; have z2_0_13 : w13.cell? ⟨gb2, 0, none⟩ = some (.slice A0_0 l0_0.length c0_0) := (blk_cell (show w13.heap[gb2]? = some (.cells #[.slice A0_0 l0_0.length c0_0, .slice A0_1 l0_1.length c0_1] 36 (0, 0)) from Fb2_13.out.now) 0).trans rfl; have z2_1_13 : w13.cell? ⟨gb2, 1, none⟩ = some (.slice A0_1 l0_1.length c0_1) := (blk_cell (show w13.heap[gb2]? = some (.cells #[.slice A0_0 l0_0.length c0_0, .slice A0_1 l0_1.length c0_1] 36 (0, 0)) from Fb2_13.out.now) 1).trans rfl; have z7_0_13 : w13.cell? ⟨gb7, 0, none⟩ = some (.slice U23 x23.length cu23) := (blk_cell (show w13.heap[gb7]? = some (.cells #[.slice U23 x23.length cu23, .slice V23 y23.length cv23] 29 (0, 0)) from Fb7_13.out.now) 0).trans rfl; have z7_1_13 : w13.cell? ⟨gb7, 1, none⟩ = some (.slice V23 y23.length cv23) := (blk_cell (show w13.heap[gb7]? = some (.cells #[.slice U23 x23.length cu23, .slice V23 y23.length cv23] 29 (0, 0)) from Fb7_13.out.now) 1).trans rfl)
      | (go_at_call 17; (with_reducible refine (laws_eqByteS.calls k U26 cu26 x26 U21 cu21 x21 true _ ((Kd.R_reads' (Fo26_13.out.now)).2.2) ((Kd.R_reads' (Fo26_13.out.now)).2.1) ((Kd.R_reads' (Fo21_13.out.now)).2.2) ((Kd.R_reads' (Fo21_13.out.now)).2.1) A12.out).mono ?_); rintro e w14 ⟨rfl, hdr⟩; have hb := drawn_below hdr; clear hdr; have Fb2_14 := Aside0.mk (Fb2_13.out.below hb); have Fo19_14 := Aside0.mk (Fo19_13.out.below hb); have Fo21_14 := Aside0.mk (Fo21_13.out.below hb); have Fb7_14 := Aside0.mk (Fb7_13.out.below hb); have Fo26_14 := Aside0.mk (Fo26_13.out.below hb); have Fo33_14 := Aside0.mk (Fo33_13.out.below hb); have Fm38_14 := Aside0.mk (Fm38_13.out.below hb); have HB_14 := Aside0.mk (below_step HB_13.out hb); have Z_14 := Aside0.mk (show w13.heap.size ≤ w14.heap.size from hb.size); clear Fb2_13 Fo19_13 Fo21_13 Fb7_13 Fo26_13 Fo33_13 Fm38_13 HB_13 z2_0_13 z2_1_13 z7_0_13 z7_1_13 hb; have z2_0_14 : w14.cell? ⟨gb2, 0, none⟩ = some (.slice A0_0 l0_0.length c0_0) := (blk_cell (show w14.heap[gb2]? = some (.cells #[.slice A0_0 l0_0.length c0_0, .slice A0_1 l0_1.length c0_1] 36 (0, 0)) from Fb2_14.out.now) 0).trans rfl; have z2_1_14 : w14.cell? ⟨gb2, 1, none⟩ = some (.slice A0_1 l0_1.length c0_1) := (blk_cell (show w14.heap[gb2]? = some (.cells #[.slice A0_0 l0_0.length c0_0, .slice A0_1 l0_1.length c0_1] 36 (0, 0)) from Fb2_14.out.now) 1).trans rfl; have z7_0_14 : w14.cell? ⟨gb7, 0, none⟩ = some (.slice U23 x23.length cu23) := (blk_cell (show w14.heap[gb7]? = some (.cells #[.slice U23 x23.length cu23, .slice V23 y23.length cv23] 29 (0, 0)) from Fb7_14.out.now) 0).trans rfl; have z7_1_14 : w14.cell? ⟨gb7, 1, none⟩ = some (.slice V23 y23.length cv23) := (blk_cell (show w14.heap[gb7]? = some (.cells #[.slice U23 x23.length cu23, .slice V23 y23.length cv23] 29 (0, 0)) from Fb7_14.out.now) 1).trans rfl)
      | ((with_reducible refine gate_callee (f := 18) rfl ?_); refine goesL_ (some 49) rfl rfl Try.func18 (by kernel_rfl) rfl #[.slice U26 x26.length cu26, .int .i64 1] rfl (by (try simp only [List.map_toArray, List.map_cons, List.map_nil]); first | done | rfl) ?_; (with_reducible refine (laws_markByteS.calls k _ _ x26 1 t49 x49 w _ HB_14.out (Fo26_14.out.now) A13.out).mono ?_); rintro e w15 ⟨rfl, ho, hb, hk⟩; refine ⟨_, rfl, ?_⟩; have Fm49_15 := Aside0.mk (Held.markedR (lo := w7.heap.size) (hi := w8.heap.size) ho (Nat.le_trans (by have := Z_1.out; have := Z_2.out; have := Z_3.out; have := Z_4.out; have := Z_5.out; have := Z_6.out; have := Z_7.out; have := Z_8.out; have := Z_9.out; have := Z_10.out; have := Z_11.out; have := Z_12.out; have := Z_13.out; have := Z_14.out; have := G2.out; have := G7.out; omega) (Nat.le_refl w14.heap.size))); have Lm49_0 := Aside0.mk ((Kd.R_reads' ho).1.symm); have Fb2_15 := Aside0.mk (Fb2_14.out.kept hk (fun k_ hk_ => by have hq_ : w7.heap.size ≤ k_ ∧ k_ < w8.heap.size := hk_; have := Z_1.out; have := Z_2.out; have := Z_3.out; have := Z_4.out; have := Z_5.out; have := Z_6.out; have := Z_7.out; have := Z_8.out; have := Z_9.out; have := Z_10.out; have := Z_11.out; have := Z_12.out; have := Z_13.out; have := Z_14.out; have := G2.out; have := G7.out; omega)); have Fo19_15 := Aside0.mk (Fo19_14.out.kept hk (fun k_ hk_ => by have hq_ : w7.heap.size ≤ k_ ∧ k_ < w8.heap.size := hk_; have := Z_1.out; have := Z_2.out; have := Z_3.out; have := Z_4.out; have := Z_5.out; have := Z_6.out; have := Z_7.out; have := Z_8.out; have := Z_9.out; have := Z_10.out; have := Z_11.out; have := Z_12.out; have := Z_13.out; have := Z_14.out; have := G2.out; have := G7.out; omega)); have Fo21_15 := Aside0.mk (Fo21_14.out.kept hk (fun k_ hk_ => by have hq_ : w7.heap.size ≤ k_ ∧ k_ < w8.heap.size := hk_; have := Z_1.out; have := Z_2.out; have := Z_3.out; have := Z_4.out; have := Z_5.out; have := Z_6.out; have := Z_7.out; have := Z_8.out; have := Z_9.out; have := Z_10.out; have := Z_11.out; have := Z_12.out; have := Z_13.out; have := Z_14.out; have := G2.out; have := G7.out; omega)); have Fb7_15 := Aside0.mk (Fb7_14.out.kept hk (fun k_ hk_ => by have hq_ : w7.heap.size ≤ k_ ∧ k_ < w8.heap.size := hk_; have := Z_1.out; have := Z_2.out; have := Z_3.out; have := Z_4.out; have := Z_5.out; have := Z_6.out; have := Z_7.out; have := Z_8.out; have := Z_9.out; have := Z_10.out; have := Z_11.out; have := Z_12.out; have := Z_13.out; have := Z_14.out; have := G2.out; have := G7.out; omega)); have Fo33_15 := Aside0.mk (Fo33_14.out.kept hk (fun k_ hk_ => by have hq_ : w7.heap.size ≤ k_ ∧ k_ < w8.heap.size := hk_; have := Z_1.out; have := Z_2.out; have := Z_3.out; have := Z_4.out; have := Z_5.out; have := Z_6.out; have := Z_7.out; have := Z_8.out; have := Z_9.out; have := Z_10.out; have := Z_11.out; have := Z_12.out; have := Z_13.out; have := Z_14.out; have := G2.out; have := G7.out; omega)); have HB_15 := Aside0.mk (hb); have Z_15 := Aside0.mk (show w14.heap.size ≤ w15.heap.size from hk.1); clear Fb2_14 Fo19_14 Fo21_14 Fb7_14 Fo33_14 Fo26_14 Fm38_14 HB_14 z2_0_14 z2_1_14 z7_0_14 z7_1_14 ho hb hk; have z2_0_15 : w15.cell? ⟨gb2, 0, none⟩ = some (.slice A0_0 l0_0.length c0_0) := (blk_cell (show w15.heap[gb2]? = some (.cells #[.slice A0_0 l0_0.length c0_0, .slice A0_1 l0_1.length c0_1] 36 (0, 0)) from Fb2_15.out.now) 0).trans rfl; have z2_1_15 : w15.cell? ⟨gb2, 1, none⟩ = some (.slice A0_1 l0_1.length c0_1) := (blk_cell (show w15.heap[gb2]? = some (.cells #[.slice A0_0 l0_0.length c0_0, .slice A0_1 l0_1.length c0_1] 36 (0, 0)) from Fb2_15.out.now) 1).trans rfl; have z7_0_15 : w15.cell? ⟨gb7, 0, none⟩ = some (.slice U23 x23.length cu23) := (blk_cell (show w15.heap[gb7]? = some (.cells #[.slice U23 x23.length cu23, .slice V23 y23.length cv23] 29 (0, 0)) from Fb7_15.out.now) 0).trans rfl; have z7_1_15 : w15.cell? ⟨gb7, 1, none⟩ = some (.slice V23 y23.length cv23) := (blk_cell (show w15.heap[gb7]? = some (.cells #[.slice U23 x23.length cu23, .slice V23 y23.length cv23] 29 (0, 0)) from Fb7_15.out.now) 1).trans rfl)
      | ((with_reducible refine gate_callee (f := 19) rfl ?_); refine goesL_ (some 52) rfl rfl Try.func19 (by kernel_rfl) rfl #[.slice U26 x26.length cu26, .int .i64 1] rfl (by (try simp only [List.map_toArray, List.map_cons, List.map_nil]); first | done | rfl) ?_; have hcall := laws_heldByteS.calls k U26 cu26 x49 1 t52 w15 ((Kd.R_reads' (Fm49_15.out.now)).2.2) ((by have h_ := Kd.R_reads' (Fm49_15.out.now); omega)) A14.out; rw [show x49.length = x26.length from Lm49_0.out] at hcall; refine hcall.mono ?_; rintro e w16 ⟨rfl, hdr⟩; have hb := drawn_below hdr; clear hdr; refine ⟨_, rfl, ?_⟩; have Fb2_16 := Aside0.mk (Fb2_15.out.below hb); have Fo19_16 := Aside0.mk (Fo19_15.out.below hb); have Fo21_16 := Aside0.mk (Fo21_15.out.below hb); have Fb7_16 := Aside0.mk (Fb7_15.out.below hb); have Fo33_16 := Aside0.mk (Fo33_15.out.below hb); have Fm49_16 := Aside0.mk (Fm49_15.out.below hb); have HB_16 := Aside0.mk (below_step HB_15.out hb); have Z_16 := Aside0.mk (show w15.heap.size ≤ w16.heap.size from hb.size); clear Fb2_15 Fo19_15 Fo21_15 Fb7_15 Fo33_15 Fm49_15 HB_15 z2_0_15 z2_1_15 z7_0_15 z7_1_15 hb; have z2_0_16 : w16.cell? ⟨gb2, 0, none⟩ = some (.slice A0_0 l0_0.length c0_0) := (blk_cell (show w16.heap[gb2]? = some (.cells #[.slice A0_0 l0_0.length c0_0, .slice A0_1 l0_1.length c0_1] 36 (0, 0)) from Fb2_16.out.now) 0).trans rfl; have z2_1_16 : w16.cell? ⟨gb2, 1, none⟩ = some (.slice A0_1 l0_1.length c0_1) := (blk_cell (show w16.heap[gb2]? = some (.cells #[.slice A0_0 l0_0.length c0_0, .slice A0_1 l0_1.length c0_1] 36 (0, 0)) from Fb2_16.out.now) 1).trans rfl; have z7_0_16 : w16.cell? ⟨gb7, 0, none⟩ = some (.slice U23 x23.length cu23) := (blk_cell (show w16.heap[gb7]? = some (.cells #[.slice U23 x23.length cu23, .slice V23 y23.length cv23] 29 (0, 0)) from Fb7_16.out.now) 0).trans rfl; have z7_1_16 : w16.cell? ⟨gb7, 1, none⟩ = some (.slice V23 y23.length cv23) := (blk_cell (show w16.heap[gb7]? = some (.cells #[.slice U23 x23.length cu23, .slice V23 y23.length cv23] 29 (0, 0)) from Fb7_16.out.now) 1).trans rfl)
      | ((with_reducible refine gate_callee (f := 27) rfl ?_); refine goesL_ (some 59) rfl rfl Try.func27 (by kernel_rfl) rfl #[.agg #[.slice A0_0 l0_0.length c0_0, .slice A0_1 l0_1.length c0_1]] rfl (by (try simp only [List.map_toArray, List.map_cons, List.map_nil]); first | done | rfl) ?_; (with_reducible refine (laws_toDisk.calls k A0_0 c0_0 l0_0 A0_1 c0_1 l0_1 x59 y59 _ (Kd.C_below HR0_0.out HB_16.out) (HC0_0.out) (Kd.C_below HR0_1.out HB_16.out) (HC0_1.out) A17.out).mono ?_); rintro e w17 ⟨v_, u_, rfl, ho0, ho1, hb⟩; have htw := Two.of (ok' := fun _ => True) rfl ho0 (Kd.S_mono ho1 (fun _ h_ => ⟨trivial, h_⟩)); obtain ⟨U59, cu59, V59, cv59, rfl, rfl⟩ := Two.slices htw; have hrw := Two.held (b := w.heap.size) htw (Below.size HB_16.out); refine ⟨_, rfl, ?_⟩; have Fo59_17 := Aside0.mk hrw; clear hrw; clear ho0 ho1 htw; have Fb2_17 := Aside0.mk (Fb2_16.out.below hb); have Fo19_17 := Aside0.mk (Fo19_16.out.below hb); have Fo21_17 := Aside0.mk (Fo21_16.out.below hb); have Fb7_17 := Aside0.mk (Fb7_16.out.below hb); have Fo33_17 := Aside0.mk (Fo33_16.out.below hb); have Fm49_17 := Aside0.mk (Fm49_16.out.below hb); have HB_17 := Aside0.mk (below_step HB_16.out hb); have Z_17 := Aside0.mk (show w16.heap.size ≤ w17.heap.size from hb.size); clear Fb2_16 Fo19_16 Fo21_16 Fb7_16 Fo33_16 Fm49_16 HB_16 z2_0_16 z2_1_16 z7_0_16 z7_1_16 hb; have z2_0_17 : w17.cell? ⟨gb2, 0, none⟩ = some (.slice A0_0 l0_0.length c0_0) := (blk_cell (show w17.heap[gb2]? = some (.cells #[.slice A0_0 l0_0.length c0_0, .slice A0_1 l0_1.length c0_1] 36 (0, 0)) from Fb2_17.out.now) 0).trans rfl; have z2_1_17 : w17.cell? ⟨gb2, 1, none⟩ = some (.slice A0_1 l0_1.length c0_1) := (blk_cell (show w17.heap[gb2]? = some (.cells #[.slice A0_0 l0_0.length c0_0, .slice A0_1 l0_1.length c0_1] 36 (0, 0)) from Fb2_17.out.now) 1).trans rfl; have z7_0_17 : w17.cell? ⟨gb7, 0, none⟩ = some (.slice U23 x23.length cu23) := (blk_cell (show w17.heap[gb7]? = some (.cells #[.slice U23 x23.length cu23, .slice V23 y23.length cv23] 29 (0, 0)) from Fb7_17.out.now) 0).trans rfl; have z7_1_17 : w17.cell? ⟨gb7, 1, none⟩ = some (.slice V23 y23.length cv23) := (blk_cell (show w17.heap[gb7]? = some (.cells #[.slice U23 x23.length cu23, .slice V23 y23.length cv23] 29 (0, 0)) from Fb7_17.out.now) 1).trans rfl)
      | ((with_reducible refine gate_callee (f := 30) rfl ?_); refine goesL_ (some 61) rfl rfl Try.func30 (by kernel_rfl) rfl #[.agg #[.slice U59 x59.length cu59, .slice V59 y59.length cv59], .int .i64 a1] rfl (by (try simp only [List.map_toArray, List.map_cons, List.map_nil]); first | done | rfl) ?_; (with_reducible refine (impl_DiskRead.calls k U59 cu59 x59 V59 cv59 y59 a1 x61 _ (Two.c1 (Fo59_17.out.now)) (Two.l1 (Fo59_17.out.now)) (Two.c2 (Fo59_17.out.now)) (Two.l2 (Fo59_17.out.now)) A18.out).mono ?_); rintro e w18 ⟨v_, rfl, ho0, hb⟩; have hrw := Held.row (b := w.heap.size) ho0 hb.size (Below.size HB_17.out); obtain ⟨U61, cu61, rfl⟩ := Kd.R_slice ho0; refine ⟨_, rfl, ?_⟩; have Fo61_18 := Aside0.mk hrw; clear hrw; clear ho0; have Fb2_18 := Aside0.mk (Fb2_17.out.below hb); have Fo19_18 := Aside0.mk (Fo19_17.out.below hb); have Fo21_18 := Aside0.mk (Fo21_17.out.below hb); have Fb7_18 := Aside0.mk (Fb7_17.out.below hb); have Fo33_18 := Aside0.mk (Fo33_17.out.below hb); have Fm49_18 := Aside0.mk (Fm49_17.out.below hb); have Fo59_18 := Aside0.mk (Fo59_17.out.below hb); have HB_18 := Aside0.mk (below_step HB_17.out hb); have Z_18 := Aside0.mk (show w17.heap.size ≤ w18.heap.size from hb.size); clear Fb2_17 Fo19_17 Fo21_17 Fb7_17 Fo33_17 Fm49_17 Fo59_17 HB_17 z2_0_17 z2_1_17 z7_0_17 z7_1_17 hb; have z2_0_18 : w18.cell? ⟨gb2, 0, none⟩ = some (.slice A0_0 l0_0.length c0_0) := (blk_cell (show w18.heap[gb2]? = some (.cells #[.slice A0_0 l0_0.length c0_0, .slice A0_1 l0_1.length c0_1] 36 (0, 0)) from Fb2_18.out.now) 0).trans rfl; have z2_1_18 : w18.cell? ⟨gb2, 1, none⟩ = some (.slice A0_1 l0_1.length c0_1) := (blk_cell (show w18.heap[gb2]? = some (.cells #[.slice A0_0 l0_0.length c0_0, .slice A0_1 l0_1.length c0_1] 36 (0, 0)) from Fb2_18.out.now) 1).trans rfl; have z7_0_18 : w18.cell? ⟨gb7, 0, none⟩ = some (.slice U23 x23.length cu23) := (blk_cell (show w18.heap[gb7]? = some (.cells #[.slice U23 x23.length cu23, .slice V23 y23.length cv23] 29 (0, 0)) from Fb7_18.out.now) 0).trans rfl; have z7_1_18 : w18.cell? ⟨gb7, 1, none⟩ = some (.slice V23 y23.length cv23) := (blk_cell (show w18.heap[gb7]? = some (.cells #[.slice U23 x23.length cu23, .slice V23 y23.length cv23] 29 (0, 0)) from Fb7_18.out.now) 1).trans rfl)
      | ((with_reducible refine gate_callee (f := 17) rfl ?_); refine goesL_ (some 64) rfl rfl Try.func17 (by kernel_rfl) rfl #[.slice U61 x61.length cu61, .slice U21 x21.length cu21] rfl (by (try simp only [List.map_toArray, List.map_cons, List.map_nil]); first | done | rfl) ?_; (with_reducible refine (laws_eqByteS.calls k U61 cu61 x61 U21 cu21 x21 true _ ((Kd.R_reads' (Fo61_18.out.now)).2.2) ((Kd.R_reads' (Fo61_18.out.now)).2.1) ((Kd.R_reads' (Fo21_18.out.now)).2.2) ((Kd.R_reads' (Fo21_18.out.now)).2.1) A19.out).mono ?_); rintro e w19 ⟨rfl, hdr⟩; have hb := drawn_below hdr; clear hdr; refine ⟨_, rfl, ?_⟩; have Fb2_19 := Aside0.mk (Fb2_18.out.below hb); have Fo19_19 := Aside0.mk (Fo19_18.out.below hb); have Fo21_19 := Aside0.mk (Fo21_18.out.below hb); have Fb7_19 := Aside0.mk (Fb7_18.out.below hb); have Fo33_19 := Aside0.mk (Fo33_18.out.below hb); have Fm49_19 := Aside0.mk (Fm49_18.out.below hb); have Fo59_19 := Aside0.mk (Fo59_18.out.below hb); have Fo61_19 := Aside0.mk (Fo61_18.out.below hb); have HB_19 := Aside0.mk (below_step HB_18.out hb); have Z_19 := Aside0.mk (show w18.heap.size ≤ w19.heap.size from hb.size); clear Fb2_18 Fo19_18 Fo21_18 Fb7_18 Fo33_18 Fm49_18 Fo59_18 Fo61_18 HB_18 z2_0_18 z2_1_18 z7_0_18 z7_1_18 hb; have z2_0_19 : w19.cell? ⟨gb2, 0, none⟩ = some (.slice A0_0 l0_0.length c0_0) := (blk_cell (show w19.heap[gb2]? = some (.cells #[.slice A0_0 l0_0.length c0_0, .slice A0_1 l0_1.length c0_1] 36 (0, 0)) from Fb2_19.out.now) 0).trans rfl; have z2_1_19 : w19.cell? ⟨gb2, 1, none⟩ = some (.slice A0_1 l0_1.length c0_1) := (blk_cell (show w19.heap[gb2]? = some (.cells #[.slice A0_0 l0_0.length c0_0, .slice A0_1 l0_1.length c0_1] 36 (0, 0)) from Fb2_19.out.now) 1).trans rfl; have z7_0_19 : w19.cell? ⟨gb7, 0, none⟩ = some (.slice U23 x23.length cu23) := (blk_cell (show w19.heap[gb7]? = some (.cells #[.slice U23 x23.length cu23, .slice V23 y23.length cv23] 29 (0, 0)) from Fb7_19.out.now) 0).trans rfl; have z7_1_19 : w19.cell? ⟨gb7, 1, none⟩ = some (.slice V23 y23.length cv23) := (blk_cell (show w19.heap[gb7]? = some (.cells #[.slice U23 x23.length cu23, .slice V23 y23.length cv23] 29 (0, 0)) from Fb7_19.out.now) 1).trans rfl)
      | ((with_reducible refine gate_callee (f := 19) rfl ?_); refine goesL_ (some 68) rfl rfl Try.func19 (by kernel_rfl) rfl #[.slice U26 x26.length cu26, .int .i64 1] rfl (by (try simp only [List.map_toArray, List.map_cons, List.map_nil]); first | done | rfl) ?_; have hcall := laws_heldByteS.calls k U26 cu26 x49 1 t68 w19 ((Kd.R_reads' (Fm49_19.out.now)).2.2) ((by have h_ := Kd.R_reads' (Fm49_19.out.now); omega)) A20.out; rw [show x49.length = x26.length from Lm49_0.out] at hcall; refine hcall.mono ?_; rintro e w20 ⟨rfl, hdr⟩; have hb := drawn_below hdr; clear hdr; refine ⟨_, rfl, ?_⟩; have Fb2_20 := Aside0.mk (Fb2_19.out.below hb); have Fo19_20 := Aside0.mk (Fo19_19.out.below hb); have Fo21_20 := Aside0.mk (Fo21_19.out.below hb); have Fb7_20 := Aside0.mk (Fb7_19.out.below hb); have Fo33_20 := Aside0.mk (Fo33_19.out.below hb); have Fm49_20 := Aside0.mk (Fm49_19.out.below hb); have Fo59_20 := Aside0.mk (Fo59_19.out.below hb); have Fo61_20 := Aside0.mk (Fo61_19.out.below hb); have HB_20 := Aside0.mk (below_step HB_19.out hb); have Z_20 := Aside0.mk (show w19.heap.size ≤ w20.heap.size from hb.size); clear Fb2_19 Fo19_19 Fo21_19 Fb7_19 Fo33_19 Fm49_19 Fo59_19 Fo61_19 HB_19 z2_0_19 z2_1_19 z7_0_19 z7_1_19 hb; have z2_0_20 : w20.cell? ⟨gb2, 0, none⟩ = some (.slice A0_0 l0_0.length c0_0) := (blk_cell (show w20.heap[gb2]? = some (.cells #[.slice A0_0 l0_0.length c0_0, .slice A0_1 l0_1.length c0_1] 36 (0, 0)) from Fb2_20.out.now) 0).trans rfl; have z2_1_20 : w20.cell? ⟨gb2, 1, none⟩ = some (.slice A0_1 l0_1.length c0_1) := (blk_cell (show w20.heap[gb2]? = some (.cells #[.slice A0_0 l0_0.length c0_0, .slice A0_1 l0_1.length c0_1] 36 (0, 0)) from Fb2_20.out.now) 1).trans rfl; have z7_0_20 : w20.cell? ⟨gb7, 0, none⟩ = some (.slice U23 x23.length cu23) := (blk_cell (show w20.heap[gb7]? = some (.cells #[.slice U23 x23.length cu23, .slice V23 y23.length cv23] 29 (0, 0)) from Fb7_20.out.now) 0).trans rfl; have z7_1_20 : w20.cell? ⟨gb7, 1, none⟩ = some (.slice V23 y23.length cv23) := (blk_cell (show w20.heap[gb7]? = some (.cells #[.slice U23 x23.length cu23, .slice V23 y23.length cv23] 29 (0, 0)) from Fb7_20.out.now) 1).trans rfl)
      | fail)
  go_ret
  exact ⟨rfl, HB_20.out⟩
end


end Go.Proofs.Ytdhjhadcadcceaa.PFnExactDiskRead
