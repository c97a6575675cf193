-- written by a program of this session (wip/src/print2.py)
import Derived.Test.YtdhjhadcadcceaaPFnDiskx0
import Derived.Test.YtdhjhadcadcceaaPFnDiskx2
namespace Go.Proofs.Ytdhjhadcadcceaa.PFnDisk
open Go.RowKit Go.Proofs.YtdhjhadcadcceaaW.PrintWords Go.Proofs.YtdhjhadcadcceaaW.PrintLast Go.Proofs.YtdhjhadcadcceaaW.PrintMore
attribute [local go_sem] max2_int min2_int max_two min_two max_three min_three max_four min_four   -- for this text's walks alone
set_option linter.unusedVariables false
set_option linter.unusedSimpArgs false

/-! ### spec_NewDisk: function 20 -/
def spec_NewDisk.f (a0 : Int) : Option (List Int × (List (S62))) := if a0 < 1 then (some (([] : List Int), ([] : List (S62)))) else (if a0 > 2048 then (some (([] : List Int), ([] : List (S62)))) else (if 0 ≤ (wrap64 (a0 * 64)) then (if (wrap64 (a0 * 64) : Int).toNat ≤ 281474976710656 then (some ((List.replicate (wrap64 (a0 * 64) : Int).toNat 0), ([] : List (S62)))) else (none)) else (none)))
set_option maxHeartbeats 8000000 in
set_option maxRecDepth 100000 in
theorem spec_NewDisk.calls (a0 : Int) (r1 : List Int) (r2 : List (S62)) (w : World) (h : spec_NewDisk.f a0 = some (r1, r2)) :
  Calls Try.prog 20 #[.int .i64 a0] w fun e w' => ∃ v0_ v1_ : Value, e = .returned (.agg #[v0_, v1_]) ∧ Kd.R (Kd.int .u8) 5 w' w.heap.size (fun _ => True) v0_ r1 ∧ Kd.S k62 62 w' w.heap.size (fun k_ => some k_ ≠ (v0_ : Value).ownBlock) v1_ r2 ∧ Below w.heap.size w w' := by
 have hu29 := Try.underlying29
 have HB := Aside0.mk (Below.refl w.heap.size w)
 have H : (if a0 < 1 then (some (([] : List Int), ([] : List (S62)))) else (if a0 > 2048 then (some (([] : List Int), ([] : List (S62)))) else (if 0 ≤ (wrap64 (a0 * 64)) then (if (wrap64 (a0 * 64) : Int).toNat ≤ 281474976710656 then (some ((List.replicate (wrap64 (a0 * 64) : Int).toNat 0), ([] : List (S62)))) else (none)) else (none)))) = some (r1, r2) := h
 clear h
 by_cases c2 : a0 < 1
 ·
  rw [if_pos c2] at H
  have c2b0 : decide (a0 < 1) = true := decide_eq_true c2
  clear c2
  simp only [Option.some.injEq, Prod.mk.injEq] at H
  obtain ⟨rfl, rfl⟩ := H
  go_enter Try.func20, Try.ntmps20
  go_wp2_with (first | ((with_reducible refine gate_dst (N := 2) rfl ?_); refine Rgn.bx 2 #[.slice none 0 0, .slice none 0 0] 29 ?_; intro gb160 hg w3 hbox hb; have BK160 := Aside0.mk (hbox); have GW160 := Aside0.mk (Rgn.ge hg HB.out); have GE160 := Aside0.mk (Rgn.ge hg HB.out); replace HB := Aside0.mk (below_step (Rgn.bq HB.out) hb); clear hb hbox hg; obtain ⟨hcz4_0, hcz4_1, hfz4_0, hfz4_1⟩ := Rgn.c2 BK160.out))
  refine bodyPost_ret (results_cell_row rfl _ _ gb160 29 #[.slice none 0 0, .slice none 0 0] (0, 0) _ rfl (by (with_reducible repeat (first | refine blk_drewN ?_ _ | refine blk_drew ?_ | refine blk_alloc ?_ _)); refine blk_put (cs := #[.slice none 0 0, .slice none 0 0]) ?_ 1 _ rfl; (with_reducible repeat (first | refine blk_drewN ?_ _ | refine blk_drew ?_ | refine blk_alloc ?_ _)); refine blk_put (cs := #[.slice none 0 0, .slice none 0 0]) ?_ 0 _ rfl; (with_reducible repeat (first | refine blk_drewN ?_ _ | refine blk_drew ?_ | refine blk_alloc ?_ _)); exact BK160.out) Try.underlying29 rfl (by kernel_rfl)) rfl ?_
  exact ⟨_, _, by first | rfl | (simp [errW_none, errW_some] <;> rfl) | (simp [*, errW_none, errW_some] <;> rfl), by first | exact Kd.R_nil _ _ _ _ _ | exact Kd.N_nil _ _ _ _ _ | exact Kd.V_nil _ _ _ _ _ | exact Kd.Q_nil _ _ _ _ _ | exact Kd.S_nil _ _ _ _ _, by first | exact Kd.S_nil _ _ _ _ _ | exact Kd.N_nil _ _ _ _ _ | exact Kd.V_nil _ _ _ _ _ | exact Kd.Q_nil _ _ _ _ _ | exact Kd.R_nil _ _ _ _ _, Rgn.bq HB.out⟩
 ·
  rw [if_neg c2] at H
  have c2b0 : decide (a0 < 1) = false := decide_eq_false c2
  clear c2
  by_cases c5 : a0 > 2048
  ·
   rw [if_pos c5] at H
   have c5b0 : decide (2048 < a0) = true := decide_eq_true c5
   clear c5
   simp only [Option.some.injEq, Prod.mk.injEq] at H
   obtain ⟨rfl, rfl⟩ := H
   go_enter Try.func20, Try.ntmps20
   go_wp2_with (first | ((with_reducible refine gate_dst (N := 2) rfl ?_); refine Rgn.bx 2 #[.slice none 0 0, .slice none 0 0] 29 ?_; intro gb160 hg w6 hbox hb; have BK160 := Aside0.mk (hbox); have GW160 := Aside0.mk (Rgn.ge hg HB.out); have GE160 := Aside0.mk (Rgn.ge hg HB.out); replace HB := Aside0.mk (below_step (Rgn.bq HB.out) hb); clear hb hbox hg; obtain ⟨hcz7_0, hcz7_1, hfz7_0, hfz7_1⟩ := Rgn.c2 BK160.out))
   refine bodyPost_ret (results_cell_row rfl _ _ gb160 29 #[.slice none 0 0, .slice none 0 0] (0, 0) _ rfl (by (with_reducible repeat (first | refine blk_drewN ?_ _ | refine blk_drew ?_ | refine blk_alloc ?_ _)); refine blk_put (cs := #[.slice none 0 0, .slice none 0 0]) ?_ 1 _ rfl; (with_reducible repeat (first | refine blk_drewN ?_ _ | refine blk_drew ?_ | refine blk_alloc ?_ _)); refine blk_put (cs := #[.slice none 0 0, .slice none 0 0]) ?_ 0 _ rfl; (with_reducible repeat (first | refine blk_drewN ?_ _ | refine blk_drew ?_ | refine blk_alloc ?_ _)); exact BK160.out) Try.underlying29 rfl (by kernel_rfl)) rfl ?_
   exact ⟨_, _, by first | rfl | (simp [errW_none, errW_some] <;> rfl) | (simp [*, errW_none, errW_some] <;> rfl), by first | exact Kd.R_nil _ _ _ _ _ | exact Kd.N_nil _ _ _ _ _ | exact Kd.V_nil _ _ _ _ _ | exact Kd.Q_nil _ _ _ _ _ | exact Kd.S_nil _ _ _ _ _, by first | exact Kd.S_nil _ _ _ _ _ | exact Kd.N_nil _ _ _ _ _ | exact Kd.V_nil _ _ _ _ _ | exact Kd.Q_nil _ _ _ _ _ | exact Kd.R_nil _ _ _ _ _, Rgn.bq HB.out⟩
  ·
   rw [if_neg c5] at H
   have c5b0 : decide (2048 < a0) = false := decide_eq_false c5
   clear c5
   obtain ⟨ji8, hji8⟩ : ∃ j_ : Int, (wrap64 (a0 * 64)) = j_ := ⟨_, rfl⟩
   replace H : (if 0 ≤ (ji8) then (if (ji8 : Int).toNat ≤ 281474976710656 then (some ((List.replicate (ji8 : Int).toNat 0), ([] : List (S62)))) else (none)) else (none)) = some (r1, r2) := by first | (rw [hji8] at H; exact H) | (simp only [hji8] at H ⊢; exact H)
   have hji8w : (IntKind.i64.wrap (a0 * 64)) = ji8 := (i64_w _).trans hji8
   by_cases c9 : 0 ≤ (ji8)
   ·
    rw [if_pos c9] at H
    have c9b0 := eq_true c9
    have c9b1 : decide (0 ≤ (ji8)) = true := decide_eq_true c9
    clear c9
    by_cases c10 : (ji8 : Int).toNat ≤ 281474976710656
    ·
     rw [if_pos c10] at H
     have c10b0 := eq_true c10
     have c10b1 : decide ((ji8 : Int).toNat ≤ 281474976710656) = true := decide_eq_true c10
     clear c10
     obtain ⟨y161, hy161⟩ : ∃ y_ : List Int, y_ = (List.replicate (ji8 : Int).toNat 0) := ⟨_, rfl⟩
     replace H : (some (y161, ([] : List (S62)))) = some (r1, r2) := by first | (rw [hy161]; with_reducible exact H) | (have H2_ := (Option.bind_some _ _).symm.trans H; rw [hy161]; with_reducible exact H2_) | (have H2_ := (Option.bind_some _ _).symm.trans H; with_reducible exact H2_) | with_reducible exact H | (rw [hy161]; exact H) | exact H
     have Ny161 := Aside0.mk hy161
     clear hy161
     simp only [Option.some.injEq, Prod.mk.injEq] at H
     obtain ⟨rfl, rfl⟩ := H
     go_enter Try.func20, Try.ntmps20
     go_wp2_with (first | ((with_reducible refine gate_dst (N := 2) rfl ?_); refine Rgn.bx 2 #[.slice none 0 0, .slice none 0 0] 29 ?_; intro gb160 hg w11 hbox hb; have BK160 := Aside0.mk (hbox); have GW160 := Aside0.mk (Rgn.ge hg HB.out); have GE160 := Aside0.mk (Rgn.ge hg HB.out); replace HB := Aside0.mk (below_step (Rgn.bq HB.out) hb); clear hb hbox hg) | ((with_reducible refine gate_dst (N := 12) rfl ?_); refine Kd.R_make (Kd.int .u8) _ 5 rfl (N := 12) rfl 22 _ _ rfl ji8 rfl rfl Try.underlying22 (.int .u8 0) 1 info5 rfl (by decide) (by omega) 0 (ok := fun _ => True) (okp := fun _ => True) rfl (fun _ hk => hk) trivial (of_decide_eq_true (by first | (with_reducible assumption) | assumption)) (Nat.le_trans (Nat.mul_le_mul_right _ (of_decide_eq_true (by first | (with_reducible assumption) | assumption) : ji8.toNat ≤ 281474976710656)) (by omega)) (Below.refl _ _) (Nat.le_refl _) ?_; intro v162 w12 ho13 hb hg_ hnew_; clear hg_ hnew_; (first | rw [← Ny161.out] at ho13 | (simp only [Int.reduceToNat] at ho13; rw [← Ny161.out] at ho13)); have HO163 := Aside0.mk (Kd.R_lower ho13 (below_size (Rgn.bq HB.out))); replace BK160 := Aside0.mk (Rgn.bb BK160.out hb); replace HB := Aside0.mk (below_step (Rgn.bq HB.out) hb); clear hb ho13; obtain ⟨Ao14, co14, eo14⟩ := Kd.R_slice HO163.out; subst eo14; obtain ⟨hcz15_0, hcz15_1, hfz15_0, hfz15_1⟩ := Rgn.c2 BK160.out))
     refine bodyPost_ret (results_cell_row rfl _ _ gb160 29 #[.slice Ao14 y161.length co14, .slice none 0 0] (0, 0) _ rfl (by (with_reducible repeat (first | refine blk_drewN ?_ _ | refine blk_drew ?_ | refine blk_alloc ?_ _)); refine blk_put (cs := #[.slice Ao14 y161.length co14, .slice none 0 0]) ?_ 1 _ rfl; (with_reducible repeat (first | refine blk_drewN ?_ _ | refine blk_drew ?_ | refine blk_alloc ?_ _)); refine blk_put (cs := #[.slice none 0 0, .slice none 0 0]) ?_ 0 _ rfl; (with_reducible repeat (first | refine blk_drewN ?_ _ | refine blk_drew ?_ | refine blk_alloc ?_ _)); exact BK160.out) Try.underlying29 rfl (by kernel_rfl)) rfl ?_
     exact ⟨_, _, by first | rfl | (simp [errW_none, errW_some] <;> rfl) | (simp only [← hji8]; first | rfl | (simp [errW_none, errW_some] <;> rfl)) | (simp [*, errW_none, errW_some] <;> rfl), by (with_reducible repeat (first | apply Kd.R_alloc | apply Kd.R_drewN | apply Kd.R_drew)); exact Kd.R_mono (Kd.R_far (p := ⟨gb160, 1, none⟩) (Kd.R_far (p := ⟨gb160, 0, none⟩) (Kd.R_types HO163.out BK160.out (by decide)) (fun _ hk => hk.2) (.slice Ao14 y161.length co14)) (fun _ hk => hk.2) (.slice none 0 0)) (fun _ hk => trivial), by first | exact Kd.S_nil _ _ _ _ _ | exact Kd.N_nil _ _ _ _ _ | exact Kd.V_nil _ _ _ _ _ | exact Kd.Q_nil _ _ _ _ _ | exact Kd.R_nil _ _ _ _ _, Rgn.bq HB.out⟩
    ·
     rw [if_neg c10] at H
     exact absurd H (by simp)
   ·
    rw [if_neg c9] at H
    exact absurd H (by simp)

/-! ### spec_l1Next: function 82 -/
def spec_l1Next.f (s0_0 : List Int) (s0_1 : Int) (s0_2 : Int) (a1 : Int) : Option (Int × Int × Int) := if a1 < 1 then (some (0, wrap64 (s0_1 + 1), s0_2)) else (if (s0_0.length : Int) = 0 then (if a1 = 0 then (none) else (some (Int.tmod (wrap64 ((wrap64 ((wrap64 (s0_1 + 1)) - 1)) * 7)) a1, wrap64 (s0_1 + 1), s0_2))) else (if 0 ≤ (Int.tmod (wrap64 ((wrap64 (s0_1 + 1)) - 1)) (s0_0.length : Int)) then (if (Int.tmod (wrap64 ((wrap64 (s0_1 + 1)) - 1)) (s0_0.length : Int)) < (s0_0.length : Int) then (if a1 > 200 then (if 0 ≤ (Int.tmod (wrap64 ((wrap64 ((wrap64 (s0_1 + 1)) - 1)) + 1)) (s0_0.length : Int)) then (if (Int.tmod (wrap64 ((wrap64 ((wrap64 (s0_1 + 1)) - 1)) + 1)) (s0_0.length : Int)) < (s0_0.length : Int) then (if a1 = 0 then (none) else (some (Int.tmod (wrap64 ((wrap64 ((wrap64 ((wrap64 ((wrap64 (rd s0_0 (Int.tmod (wrap64 ((wrap64 (s0_1 + 1)) - 1)) (s0_0.length : Int)))) + (wrap64 ((wrap64 (Int.tdiv (wrap64 ((wrap64 (s0_1 + 1)) - 1)) (s0_0.length : Int))) * 37)))) * 251)) + (wrap64 ((wrap64 (rd s0_0 (Int.tmod (wrap64 ((wrap64 ((wrap64 (s0_1 + 1)) - 1)) + 1)) (s0_0.length : Int)))) * 13)))) + (wrap64 ((wrap64 (s0_1 + 1)) - 1)))) a1, wrap64 (s0_1 + 1), s0_2))) else (none)) else (none)) else (if a1 = 0 then (none) else (some (Int.tmod (wrap64 ((wrap64 (rd s0_0 (Int.tmod (wrap64 ((wrap64 (s0_1 + 1)) - 1)) (s0_0.length : Int)))) + (wrap64 ((wrap64 (Int.tdiv (wrap64 ((wrap64 (s0_1 + 1)) - 1)) (s0_0.length : Int))) * 37)))) a1, wrap64 (s0_1 + 1), s0_2)))) else (none)) else (none)))
set_option maxHeartbeats 8000000 in
set_option maxRecDepth 100000 in
theorem spec_l1Next.calls (g : Nat) (s0_0 : List Int) (s0_1 : Int) (s0_2 : Int) (a1 : Int) (r1 : Int) (r2 : Int) (r3 : Int) (w0 w : World) (hI : IsS90 w0 w g s0_0 s0_1 s0_2) (hB : Below w0.heap.size w0 w) (h : spec_l1Next.f s0_0 s0_1 s0_2 a1 = some (r1, r2, r3)) :
  Calls Try.prog 82 #[.pointer (some ⟨g, 0, none⟩), .int .i64 a1] w fun e w' => e = .returned (.int .i64 r1) ∧ IsS90 w0 w' g s0_0 r2 r3 ∧ Below w0.heap.size w0 w' ∧ KeepBut w w' g none := by
 have HI0 := Aside0.mk hI
 have HK := Aside0.mk (KeepBut.refl w g none)
 have HL := Aside0.mk hB.size
 clear hI
 have HW0 := Aside0.mk hB.size
 have HB := Aside0.mk hB
 clear hB
 have H : (if a1 < 1 then (some (0, wrap64 (s0_1 + 1), s0_2)) else (if (s0_0.length : Int) = 0 then (if a1 = 0 then (none) else (some (Int.tmod (wrap64 ((wrap64 ((wrap64 (s0_1 + 1)) - 1)) * 7)) a1, wrap64 (s0_1 + 1), s0_2))) else (if 0 ≤ (Int.tmod (wrap64 ((wrap64 (s0_1 + 1)) - 1)) (s0_0.length : Int)) then (if (Int.tmod (wrap64 ((wrap64 (s0_1 + 1)) - 1)) (s0_0.length : Int)) < (s0_0.length : Int) then (if a1 > 200 then (if 0 ≤ (Int.tmod (wrap64 ((wrap64 ((wrap64 (s0_1 + 1)) - 1)) + 1)) (s0_0.length : Int)) then (if (Int.tmod (wrap64 ((wrap64 ((wrap64 (s0_1 + 1)) - 1)) + 1)) (s0_0.length : Int)) < (s0_0.length : Int) then (if a1 = 0 then (none) else (some (Int.tmod (wrap64 ((wrap64 ((wrap64 ((wrap64 ((wrap64 (rd s0_0 (Int.tmod (wrap64 ((wrap64 (s0_1 + 1)) - 1)) (s0_0.length : Int)))) + (wrap64 ((wrap64 (Int.tdiv (wrap64 ((wrap64 (s0_1 + 1)) - 1)) (s0_0.length : Int))) * 37)))) * 251)) + (wrap64 ((wrap64 (rd s0_0 (Int.tmod (wrap64 ((wrap64 ((wrap64 (s0_1 + 1)) - 1)) + 1)) (s0_0.length : Int)))) * 13)))) + (wrap64 ((wrap64 (s0_1 + 1)) - 1)))) a1, wrap64 (s0_1 + 1), s0_2))) else (none)) else (none)) else (if a1 = 0 then (none) else (some (Int.tmod (wrap64 ((wrap64 (rd s0_0 (Int.tmod (wrap64 ((wrap64 (s0_1 + 1)) - 1)) (s0_0.length : Int)))) + (wrap64 ((wrap64 (Int.tdiv (wrap64 ((wrap64 (s0_1 + 1)) - 1)) (s0_0.length : Int))) * 37)))) a1, wrap64 (s0_1 + 1), s0_2)))) else (none)) else (none)))) = some (r1, r2, r3) := h
 clear h
 by_cases c3 : a1 < 1
 ·
  rw [if_pos c3] at H
  have c3b0 : decide (a1 < 1) = true := decide_eq_true c3
  clear c3
  simp only [Option.some.injEq, Prod.mk.injEq] at H
  obtain ⟨rfl, rfl, rfl⟩ := H
  obtain ⟨ASz4_0, cSz4_0, HGz4, hgz4, HSz4_0⟩ := HI0.out
  have hcz4_0 := cellS90_0 HGz4
  have hcz4_1 := cellS90_1 HGz4
  have hcz4_2 := cellS90_2 HGz4
  have hfz4_1 := blk_frozen HGz4 1
  have hfz4_2 := blk_frozen HGz4 2
  clear HGz4 hgz4
  go_enter Try.func82, Try.ntmps82
  go_wp2
  repeat (go_quiet (fail); try go_wp2)
  go_ret
  exact ⟨by first | rfl | (simp [errW_none, errW_some] <;> rfl) | (simp [*, errW_none, errW_some] <;> rfl), IsS90.q HI0.out, Rgn.bs HB.out (IsS90.ge HI0.out), Rgn.kbq HK.out⟩
 ·
  rw [if_neg c3] at H
  have c3b0 : decide (a1 < 1) = false := decide_eq_false c3
  clear c3
  by_cases c5 : (s0_0.length : Int) = 0
  ·
   rw [if_pos c5] at H
   have c5b0 : ((s0_0.length : Int) == 0) = true := beq_iff_eq.mpr c5
   have c5b1 : ((s0_0.length : Int) != 0) = false := bne_eq_false_iff_eq.mpr c5
   clear c5
   by_cases c6 : a1 = 0
   ·
    rw [if_pos c6] at H
    exact absurd H (by simp)
   ·
    rw [if_neg c6] at H
    have c6b0 : (a1 == 0) = false := beq_eq_false_iff_ne.mpr c6
    have c6b1 : (a1 != 0) = true := bne_iff_ne.mpr c6
    simp only [Option.some.injEq, Prod.mk.injEq] at H
    obtain ⟨rfl, rfl, rfl⟩ := H
    obtain ⟨ASz7_0, cSz7_0, HGz7, hgz7, HSz7_0⟩ := HI0.out
    have hcz7_0 := cellS90_0 HGz7
    have hcz7_1 := cellS90_1 HGz7
    have hcz7_2 := cellS90_2 HGz7
    have hfz7_1 := blk_frozen HGz7 1
    have hfz7_2 := blk_frozen HGz7 2
    clear HGz7 hgz7
    go_enter Try.func82, Try.ntmps82
    go_wp2
    repeat (go_quiet (fail); try go_wp2)
    go_ret
    exact ⟨by first | rfl | (simp [errW_none, errW_some] <;> rfl) | (simp [*, errW_none, errW_some] <;> rfl), IsS90.q HI0.out, Rgn.bs HB.out (IsS90.ge HI0.out), Rgn.kbq HK.out⟩
  ·
   rw [if_neg c5] at H
   have c5b0 : ((s0_0.length : Int) == 0) = false := beq_eq_false_iff_ne.mpr c5
   have c5b1 : ((s0_0.length : Int) != 0) = true := bne_iff_ne.mpr c5
   have c5b2 : ¬ (s0_0 = []) := fun h_ => c5 (by rw [h_]; rfl)
   obtain ⟨ji8, hji8⟩ : ∃ j_ : Int, (Int.tmod (wrap64 ((wrap64 (s0_1 + 1)) - 1)) (s0_0.length : Int)) = j_ := ⟨_, rfl⟩
   replace H : (if 0 ≤ (ji8) then (if (ji8) < (s0_0.length : Int) then (if a1 > 200 then (if 0 ≤ (Int.tmod (wrap64 ((wrap64 ((wrap64 (s0_1 + 1)) - 1)) + 1)) (s0_0.length : Int)) then (if (Int.tmod (wrap64 ((wrap64 ((wrap64 (s0_1 + 1)) - 1)) + 1)) (s0_0.length : Int)) < (s0_0.length : Int) then (if a1 = 0 then (none) else (some (Int.tmod (wrap64 ((wrap64 ((wrap64 ((wrap64 ((wrap64 (rd s0_0 (ji8))) + (wrap64 ((wrap64 (Int.tdiv (wrap64 ((wrap64 (s0_1 + 1)) - 1)) (s0_0.length : Int))) * 37)))) * 251)) + (wrap64 ((wrap64 (rd s0_0 (Int.tmod (wrap64 ((wrap64 ((wrap64 (s0_1 + 1)) - 1)) + 1)) (s0_0.length : Int)))) * 13)))) + (wrap64 ((wrap64 (s0_1 + 1)) - 1)))) a1, wrap64 (s0_1 + 1), s0_2))) else (none)) else (none)) else (if a1 = 0 then (none) else (some (Int.tmod (wrap64 ((wrap64 (rd s0_0 (ji8))) + (wrap64 ((wrap64 (Int.tdiv (wrap64 ((wrap64 (s0_1 + 1)) - 1)) (s0_0.length : Int))) * 37)))) a1, wrap64 (s0_1 + 1), s0_2)))) else (none)) else (none)) = some (r1, r2, r3) := by first | (rw [hji8] at H; exact H) | (simp only [hji8] at H ⊢; exact H)
   by_cases c9 : 0 ≤ (ji8)
   ·
    rw [if_pos c9] at H
    have c9b0 : decide (0 ≤ (ji8)) = true := decide_eq_true c9
    clear c9
    by_cases c10 : (ji8) < (s0_0.length : Int)
    ·
     rw [if_pos c10] at H
     have c10b0 : decide ((ji8) < (s0_0.length : Int)) = true := decide_eq_true c10
     clear c10
     by_cases c11 : a1 > 200
     ·
      rw [if_pos c11] at H
      have c11b0 : decide (200 < a1) = true := decide_eq_true c11
      clear c11
      obtain ⟨ji12, hji12⟩ : ∃ j_ : Int, (Int.tmod (wrap64 ((wrap64 ((wrap64 (s0_1 + 1)) - 1)) + 1)) (s0_0.length : Int)) = j_ := ⟨_, rfl⟩
      replace H : (if 0 ≤ (ji12) then (if (ji12) < (s0_0.length : Int) then (if a1 = 0 then (none) else (some (Int.tmod (wrap64 ((wrap64 ((wrap64 ((wrap64 ((wrap64 (rd s0_0 (ji8))) + (wrap64 ((wrap64 (Int.tdiv (wrap64 ((wrap64 (s0_1 + 1)) - 1)) (s0_0.length : Int))) * 37)))) * 251)) + (wrap64 ((wrap64 (rd s0_0 (ji12))) * 13)))) + (wrap64 ((wrap64 (s0_1 + 1)) - 1)))) a1, wrap64 (s0_1 + 1), s0_2))) else (none)) else (none)) = some (r1, r2, r3) := by first | (rw [hji12] at H; exact H) | (simp only [hji12] at H ⊢; exact H)
      by_cases c13 : 0 ≤ (ji12)
      ·
       rw [if_pos c13] at H
       have c13b0 : decide (0 ≤ (ji12)) = true := decide_eq_true c13
       clear c13
       by_cases c14 : (ji12) < (s0_0.length : Int)
       ·
        rw [if_pos c14] at H
        have c14b0 : decide ((ji12) < (s0_0.length : Int)) = true := decide_eq_true c14
        clear c14
        by_cases c15 : a1 = 0
        ·
         rw [if_pos c15] at H
         exact absurd H (by simp)
        ·
         rw [if_neg c15] at H
         have c15b0 : (a1 == 0) = false := beq_eq_false_iff_ne.mpr c15
         have c15b1 : (a1 != 0) = true := bne_iff_ne.mpr c15
         simp only [Option.some.injEq, Prod.mk.injEq] at H
         obtain ⟨rfl, rfl, rfl⟩ := H
         obtain ⟨ASz16_0, cSz16_0, HGz16, hgz16, HSz16_0⟩ := HI0.out
         have hcz16_0 := cellS90_0 HGz16
         have hcz16_1 := cellS90_1 HGz16
         have hcz16_2 := cellS90_2 HGz16
         have hfz16_1 := blk_frozen HGz16 1
         have hfz16_2 := blk_frozen HGz16 2
         clear HGz16 hgz16
         have p164 : 0 ≤ ((ji8) : Int) := of_decide_eq_true (by first | (with_reducible assumption) | assumption)
         have q164 : (ji8) < (s0_0.length : Int) := of_decide_eq_true (by first | (with_reducible assumption) | assumption)
         obtain ⟨ad164, e164, hx164_0⟩ := Kd.at_int HSz16_0 (ji8) p164 q164
         cases e164
         have hn164_0 : ad164.block ≠ g := Nat.ne_of_lt (Nat.lt_of_lt_of_le (by have := World.block_lt_of_cell? _ _ hx164_0; first | rwa [add_block] at this | exact this) (IsS90.ge HI0.out))
         replace hx164_0 := pw_cell_below HB.out hx164_0
         replace hx164_0 := (cell_far (p := ⟨g, 1, none⟩) (by first | (rw [add_block]; exact hn164_0) | (show (Addr.add _ _).block ≠ _; rw [add_block]; exact hn164_0) | exact hn164_0) (.int .i64 (wrap64 (s0_1 + 1)))).trans hx164_0
         (try have hy164_0 := fun (n_ : Nat) => (show (((w.drewN n_).setCell ⟨g, 1, none⟩ (.int .i64 (wrap64 (s0_1 + 1))))).cell? _ = some _ from hx164_0))
         clear hn164_0
         replace p164 := eq_true p164
         replace q164 := eq_true q164
         have p165 : 0 ≤ ((ji12) : Int) := of_decide_eq_true (by first | (with_reducible assumption) | assumption)
         have q165 : (ji12) < (s0_0.length : Int) := of_decide_eq_true (by first | (with_reducible assumption) | assumption)
         obtain ⟨ad165, e165, hx165_0⟩ := Kd.at_int HSz16_0 (ji12) p165 q165
         obtain rfl : ad164 = ad165 := (by injection e165)
         have hn165_0 : ad164.block ≠ g := Nat.ne_of_lt (Nat.lt_of_lt_of_le (by have := World.block_lt_of_cell? _ _ hx165_0; first | rwa [add_block] at this | exact this) (IsS90.ge HI0.out))
         replace hx165_0 := pw_cell_below HB.out hx165_0
         replace hx165_0 := (cell_far (p := ⟨g, 1, none⟩) (by first | (rw [add_block]; exact hn165_0) | (show (Addr.add _ _).block ≠ _; rw [add_block]; exact hn165_0) | exact hn165_0) (.int .i64 (wrap64 (s0_1 + 1)))).trans hx165_0
         (try have hy165_0 := fun (n_ : Nat) => (show (((w.drewN n_).setCell ⟨g, 1, none⟩ (.int .i64 (wrap64 (s0_1 + 1))))).cell? _ = some _ from hx165_0))
         clear hn165_0
         replace p165 := eq_true p165
         replace q165 := eq_true q165
         go_enter Try.func82, Try.ntmps82
         go_wp2
         repeat (go_quiet (fail); try go_wp2)
         go_ret
         exact ⟨by first | rfl | (simp [errW_none, errW_some] <;> rfl) | (simp only [← hji8, ← hji12]; first | rfl | (simp [errW_none, errW_some] <;> rfl)) | (simp [*, errW_none, errW_some] <;> rfl), IsS90.q HI0.out, Rgn.bs HB.out (IsS90.ge HI0.out), Rgn.kbq HK.out⟩
       ·
        rw [if_neg c14] at H
        exact absurd H (by simp)
      ·
       rw [if_neg c13] at H
       exact absurd H (by simp)
     ·
      rw [if_neg c11] at H
      have c11b0 : decide (200 < a1) = false := decide_eq_false c11
      clear c11
      by_cases c17 : a1 = 0
      ·
       rw [if_pos c17] at H
       exact absurd H (by simp)
      ·
       rw [if_neg c17] at H
       have c17b0 : (a1 == 0) = false := beq_eq_false_iff_ne.mpr c17
       have c17b1 : (a1 != 0) = true := bne_iff_ne.mpr c17
       simp only [Option.some.injEq, Prod.mk.injEq] at H
       obtain ⟨rfl, rfl, rfl⟩ := H
       obtain ⟨ASz18_0, cSz18_0, HGz18, hgz18, HSz18_0⟩ := HI0.out
       have hcz18_0 := cellS90_0 HGz18
       have hcz18_1 := cellS90_1 HGz18
       have hcz18_2 := cellS90_2 HGz18
       have hfz18_1 := blk_frozen HGz18 1
       have hfz18_2 := blk_frozen HGz18 2
       clear HGz18 hgz18
       have p164 : 0 ≤ ((ji8) : Int) := of_decide_eq_true (by first | (with_reducible assumption) | assumption)
       have q164 : (ji8) < (s0_0.length : Int) := of_decide_eq_true (by first | (with_reducible assumption) | assumption)
       obtain ⟨ad164, e164, hx164_0⟩ := Kd.at_int HSz18_0 (ji8) p164 q164
       cases e164
       have hn164_0 : ad164.block ≠ g := Nat.ne_of_lt (Nat.lt_of_lt_of_le (by have := World.block_lt_of_cell? _ _ hx164_0; first | rwa [add_block] at this | exact this) (IsS90.ge HI0.out))
       replace hx164_0 := pw_cell_below HB.out hx164_0
       replace hx164_0 := (cell_far (p := ⟨g, 1, none⟩) (by first | (rw [add_block]; exact hn164_0) | (show (Addr.add _ _).block ≠ _; rw [add_block]; exact hn164_0) | exact hn164_0) (.int .i64 (wrap64 (s0_1 + 1)))).trans hx164_0
       (try have hy164_0 := fun (n_ : Nat) => (show (((w.drewN n_).setCell ⟨g, 1, none⟩ (.int .i64 (wrap64 (s0_1 + 1))))).cell? _ = some _ from hx164_0))
       clear hn164_0
       replace p164 := eq_true p164
       replace q164 := eq_true q164
       go_enter Try.func82, Try.ntmps82
       go_wp2
       repeat (go_quiet (fail); try go_wp2)
       go_ret
       exact ⟨by first | rfl | (simp [errW_none, errW_some] <;> rfl) | (simp only [← hji8]; first | rfl | (simp [errW_none, errW_some] <;> rfl)) | (simp [*, errW_none, errW_some] <;> rfl), IsS90.q HI0.out, Rgn.bs HB.out (IsS90.ge HI0.out), Rgn.kbq HK.out⟩
    ·
     rw [if_neg c10] at H
     exact absurd H (by simp)
   ·
    rw [if_neg c9] at H
    exact absurd H (by simp)

/-! ### spec_l1Chance: function 84 -/
def spec_l1Chance.f (s0_0 : List Int) (s0_1 : Int) (s0_2 : Int) (a1 : Int) : Option (Bool × Int × Int) := (spec_l1Next.f s0_0 s0_1 s0_2 a1).bind fun bt166 => (some ((bt166.1 == 0), bt166.2.1, bt166.2.2))
set_option maxHeartbeats 8000000 in
set_option maxRecDepth 100000 in
theorem spec_l1Chance.calls (g : Nat) (s0_0 : List Int) (s0_1 : Int) (s0_2 : Int) (a1 : Int) (r1 : Bool) (r2 : Int) (r3 : Int) (w0 w : World) (hI : IsS90 w0 w g s0_0 s0_1 s0_2) (hB : Below w0.heap.size w0 w) (h : spec_l1Chance.f s0_0 s0_1 s0_2 a1 = some (r1, r2, r3)) :
  Calls Try.prog 84 #[.pointer (some ⟨g, 0, none⟩), .int .i64 a1] w fun e w' => e = .returned (.bool r1) ∧ IsS90 w0 w' g s0_0 r2 r3 ∧ Below w0.heap.size w0 w' ∧ KeepBut w w' g none := by
 have HI0 := Aside0.mk hI
 have HK := Aside0.mk (KeepBut.refl w g none)
 have HL := Aside0.mk hB.size
 clear hI
 have HW0 := Aside0.mk hB.size
 have HB := Aside0.mk hB
 clear hB
 have H : ((spec_l1Next.f s0_0 s0_1 s0_2 a1).bind fun bt166 => (some ((bt166.1 == 0), bt166.2.1, bt166.2.2))) = some (r1, r2, r3) := h
 clear h
 replace H := Option.bind_eq_some_iff.mp H
 obtain ⟨⟨t166, t167, t168⟩, A30, H⟩ := H
 replace H : (some ((t166 == 0), t167, t168)) = some (r1, r2, r3) := H
 have A3 := Aside0.mk A30
 clear A30
 simp only [Option.some.injEq, Prod.mk.injEq] at H
 obtain ⟨rfl, rfl, rfl⟩ := H
 go_enter Try.func84, Try.ntmps84
 go_wp2_with (first | ((with_reducible refine gate_callee (f := 82) rfl ?_); refine Rgn.gl (some 7) Try.func82 #[.pointer (some ⟨g, 0, none⟩), .int .i64 a1] ?_; (with_reducible refine (spec_l1Next.calls g s0_0 s0_1 s0_2 a1 t166 t167 t168 w0 _ ?side1 ?side2 A3.out).mono ?_); (case side1 => repeat (first | (with_reducible first | exact HI0.out | apply IsS90.alloc | apply IsS90.drewN | apply IsS90.drew | apply IsS90.set_1 | apply IsS90.set_2) | exact HI0.out)); (case side2 => repeat (first | (with_reducible first | exact HB.out | apply below_alloc | apply pw_below_drewN | apply below_drew1 | refine below_set ?_ (IsS90.ge HI0.out)) | exact HB.out)); rintro e w4 ⟨rfl, hi, hb, hk⟩; refine ⟨_, rfl, ?_⟩; replace HK := Aside0.mk (KeepBut.trans (Rgn.kbq HK.out) hk (.inl rfl)); replace HB := Aside0.mk (hb); replace HI0 := Aside0.mk (hi); (try clear hb); (try clear hk); (try clear hi)))
 go_ret
 exact ⟨by first | rfl | (simp [errW_none, errW_some] <;> rfl) | (simp [*, errW_none, errW_some] <;> rfl), IsS90.q HI0.out, Rgn.bs HB.out (IsS90.ge HI0.out), Rgn.kbq HK.out⟩

/-! ### spec_l1Magic: function 97 -/
def spec_l1Magic.f (s0_0 : List Int) (s0_1 : Int) (s0_2 : Int) : Option (List Int × Int × Int) := (spec_l1Chance.f s0_0 s0_1 s0_2 6).bind fun bt169 => (if bt169.1 = true then (some ((([106, 108, 111, 104] : List Int)), bt169.2.1, bt169.2.2)) else (some ((([106, 108, 111, 103] : List Int)), bt169.2.1, bt169.2.2)))
set_option maxHeartbeats 8000000 in
set_option maxRecDepth 100000 in
theorem spec_l1Magic.calls (g : Nat) (s0_0 : List Int) (s0_1 : Int) (s0_2 : Int) (r1 : List Int) (r2 : Int) (r3 : Int) (w0 w : World) (hI : IsS90 w0 w g s0_0 s0_1 s0_2) (hB : Below w0.heap.size w0 w) (h : spec_l1Magic.f s0_0 s0_1 s0_2 = some (r1, r2, r3)) :
  Calls Try.prog 97 #[.pointer (some ⟨g, 0, none⟩)] w fun e w' => ∃ v0_ : Value, e = .returned (v0_) ∧ Kd.R (Kd.int .u8) 5 w' w.heap.size (fun _ => True) v0_ r1 ∧ IsS90 w0 w' g s0_0 r2 r3 ∧ Below w0.heap.size w0 w' ∧ KeepBut w w' g none := by
 have HI0 := Aside0.mk hI
 have HK := Aside0.mk (KeepBut.refl w g none)
 have HL := Aside0.mk hB.size
 clear hI
 have HW0 := Aside0.mk hB.size
 have HB := Aside0.mk hB
 clear hB
 have H : ((spec_l1Chance.f s0_0 s0_1 s0_2 6).bind fun bt169 => (if bt169.1 = true then (some ((([106, 108, 111, 104] : List Int)), bt169.2.1, bt169.2.2)) else (some ((([106, 108, 111, 103] : List Int)), bt169.2.1, bt169.2.2)))) = some (r1, r2, r3) := h
 clear h
 replace H := Option.bind_eq_some_iff.mp H
 obtain ⟨⟨t169, t170, t171⟩, A20, H⟩ := H
 replace H : (if t169 = true then (some ((([106, 108, 111, 104] : List Int)), t170, t171)) else (some ((([106, 108, 111, 103] : List Int)), t170, t171))) = some (r1, r2, r3) := H
 have A2 := Aside0.mk A20
 clear A20
 by_cases c3 : t169 = true
 ·
  subst c3
  have H1 : (some ((([106, 108, 111, 104] : List Int)), t170, t171)) = some (r1, r2, r3) := by rw [if_pos rfl] at H; exact H
  clear H
  have H := H1
  clear H1
  obtain ⟨y172, hy172⟩ : ∃ y_ : List Int, y_ = (([106, 108, 111, 104] : List Int)) := ⟨_, rfl⟩
  replace H : (some (y172, t170, t171)) = some (r1, r2, r3) := by first | (rw [hy172]; with_reducible exact H) | (have H2_ := (Option.bind_some _ _).symm.trans H; rw [hy172]; with_reducible exact H2_) | (have H2_ := (Option.bind_some _ _).symm.trans H; with_reducible exact H2_) | with_reducible exact H | (rw [hy172]; exact H) | exact H
  have Ny172 := Aside0.mk hy172
  clear hy172
  simp only [Option.some.injEq, Prod.mk.injEq] at H
  obtain ⟨rfl, rfl, rfl⟩ := H
  go_enter Try.func97, Try.ntmps97
  go_wp2_with (first | ((with_reducible refine gate_callee (f := 84) rfl ?_); refine Rgn.gl (some 4) Try.func84 #[.pointer (some ⟨g, 0, none⟩), .int .i64 6] ?_; (with_reducible refine (spec_l1Chance.calls g s0_0 s0_1 s0_2 6 true t170 t171 w0 _ ?side1 ?side2 A2.out).mono ?_); (case side1 => repeat (first | (with_reducible first | exact HI0.out | apply IsS90.alloc | apply IsS90.drewN | apply IsS90.drew | apply IsS90.set_1 | apply IsS90.set_2) | exact HI0.out)); (case side2 => repeat (first | (with_reducible first | exact HB.out | apply below_alloc | apply pw_below_drewN | apply below_drew1 | refine below_set ?_ (IsS90.ge HI0.out)) | exact HB.out)); rintro e w4 ⟨rfl, hi, hb, hk⟩; refine ⟨_, rfl, ?_⟩; replace HK := Aside0.mk (KeepBut.trans (Rgn.kbq HK.out) hk (.inl rfl)); replace HB := Aside0.mk (hb); replace HI0 := Aside0.mk (hi); (try clear hb); (try clear hk); (try clear hi)) | ((with_reducible refine gate_dst (N := 5) rfl ?_); refine Kd.R_lit (Kd.int .u8) _ 5 ?hg (N := 5) ?hd (xs := ([106, 108, 111, 104] : List Int)) (inner := [.int .u8 106, .int .u8 108, .int .u8 111, .int .u8 104]) (ok := fun _ => True) (okp := fun _ => True) ?hr ?hp (fun _ hk => hk) trivial (Below.refl _ _) (Nat.le_refl _) (by simp) ?_; (case hd => rfl); (case hg => rfl); (case hr => first | (go_simp; done) | (go_simp; rfl)); (case hp => exact (Reps.one (show Kd.M (Kd.int .u8) _ _ _ 106 [.int .u8 106] from rfl) (Reps.one (show Kd.M (Kd.int .u8) _ _ _ 108 [.int .u8 108] from rfl) (Reps.one (show Kd.M (Kd.int .u8) _ _ _ 111 [.int .u8 111] from rfl) (Reps.one (show Kd.M (Kd.int .u8) _ _ _ 104 [.int .u8 104] from rfl) (Reps.none _ _)))))); intro v173 w5 ho6 hb hg_ hnew_; clear hg_ hnew_; (first | rw [← Ny172.out] at ho6 | (simp only [Int.reduceToNat] at ho6; rw [← Ny172.out] at ho6)); have HO174 := Aside0.mk (Kd.R_lower ho6 (keep_size (w := w) (g := g) (row := none) (Rgn.kbq HK.out))); replace HK := Aside0.mk (KeepBut.trans (Rgn.kbq HK.out) (KeepBut.of_below hb g none) (.inl rfl)); replace HB := Aside0.mk (below_step (Rgn.bs HB.out (IsS90.ge HI0.out)) hb); replace HI0 := Aside0.mk (IsS90.below (IsS90.q HI0.out) hb); clear hb ho6))
  go_ret
  exact ⟨_, by first | rfl | (simp [errW_none, errW_some] <;> rfl) | (simp [*, errW_none, errW_some] <;> rfl), Rgn.rq HO174.out, IsS90.q HI0.out, Rgn.bs HB.out (IsS90.ge HI0.out), Rgn.kbq HK.out⟩
 ·
  replace c3 := Bool.eq_false_iff.mpr c3
  subst c3
  have H1 : (some ((([106, 108, 111, 103] : List Int)), t170, t171)) = some (r1, r2, r3) := by rw [if_neg (show ¬ (false = true) by decide)] at H; exact H
  clear H
  have H := H1
  clear H1
  obtain ⟨y175, hy175⟩ : ∃ y_ : List Int, y_ = (([106, 108, 111, 103] : List Int)) := ⟨_, rfl⟩
  replace H : (some (y175, t170, t171)) = some (r1, r2, r3) := by first | (rw [hy175]; with_reducible exact H) | (have H2_ := (Option.bind_some _ _).symm.trans H; rw [hy175]; with_reducible exact H2_) | (have H2_ := (Option.bind_some _ _).symm.trans H; with_reducible exact H2_) | with_reducible exact H | (rw [hy175]; exact H) | exact H
  have Ny175 := Aside0.mk hy175
  clear hy175
  simp only [Option.some.injEq, Prod.mk.injEq] at H
  obtain ⟨rfl, rfl, rfl⟩ := H
  go_enter Try.func97, Try.ntmps97
  go_wp2_with (first | ((with_reducible refine gate_callee (f := 84) rfl ?_); refine Rgn.gl (some 4) Try.func84 #[.pointer (some ⟨g, 0, none⟩), .int .i64 6] ?_; (with_reducible refine (spec_l1Chance.calls g s0_0 s0_1 s0_2 6 false t170 t171 w0 _ ?side1 ?side2 A2.out).mono ?_); (case side1 => repeat (first | (with_reducible first | exact HI0.out | apply IsS90.alloc | apply IsS90.drewN | apply IsS90.drew | apply IsS90.set_1 | apply IsS90.set_2) | exact HI0.out)); (case side2 => repeat (first | (with_reducible first | exact HB.out | apply below_alloc | apply pw_below_drewN | apply below_drew1 | refine below_set ?_ (IsS90.ge HI0.out)) | exact HB.out)); rintro e w7 ⟨rfl, hi, hb, hk⟩; refine ⟨_, rfl, ?_⟩; replace HK := Aside0.mk (KeepBut.trans (Rgn.kbq HK.out) hk (.inl rfl)); replace HB := Aside0.mk (hb); replace HI0 := Aside0.mk (hi); (try clear hb); (try clear hk); (try clear hi)) | ((with_reducible refine gate_dst (N := 6) rfl ?_); refine Kd.R_lit (Kd.int .u8) _ 5 ?hg (N := 6) ?hd (xs := ([106, 108, 111, 103] : List Int)) (inner := [.int .u8 106, .int .u8 108, .int .u8 111, .int .u8 103]) (ok := fun _ => True) (okp := fun _ => True) ?hr ?hp (fun _ hk => hk) trivial (Below.refl _ _) (Nat.le_refl _) (by simp) ?_; (case hd => rfl); (case hg => rfl); (case hr => first | (go_simp; done) | (go_simp; rfl)); (case hp => exact (Reps.one (show Kd.M (Kd.int .u8) _ _ _ 106 [.int .u8 106] from rfl) (Reps.one (show Kd.M (Kd.int .u8) _ _ _ 108 [.int .u8 108] from rfl) (Reps.one (show Kd.M (Kd.int .u8) _ _ _ 111 [.int .u8 111] from rfl) (Reps.one (show Kd.M (Kd.int .u8) _ _ _ 103 [.int .u8 103] from rfl) (Reps.none _ _)))))); intro v176 w8 ho9 hb hg_ hnew_; clear hg_ hnew_; (first | rw [← Ny175.out] at ho9 | (simp only [Int.reduceToNat] at ho9; rw [← Ny175.out] at ho9)); have HO177 := Aside0.mk (Kd.R_lower ho9 (keep_size (w := w) (g := g) (row := none) (Rgn.kbq HK.out))); replace HK := Aside0.mk (KeepBut.trans (Rgn.kbq HK.out) (KeepBut.of_below hb g none) (.inl rfl)); replace HB := Aside0.mk (below_step (Rgn.bs HB.out (IsS90.ge HI0.out)) hb); replace HI0 := Aside0.mk (IsS90.below (IsS90.q HI0.out) hb); clear hb ho9))
  go_ret
  exact ⟨_, by first | rfl | (simp [errW_none, errW_some] <;> rfl) | (simp [*, errW_none, errW_some] <;> rfl), Rgn.rq HO177.out, IsS90.q HI0.out, Rgn.bs HB.out (IsS90.ge HI0.out), Rgn.kbq HK.out⟩

/-! ### spec_l1Fill: function 83 -/
mutual
def spec_l1Fill.l0 : Nat → List Int → Int → Int → List Int → Int → Int → Option (List Int × Int × Int)
 | 0, _, _, _, _, _, _ => none
 | k + 1, x3, x4, x5, x1000, x1001, x1002 => if x5 < 64 then (if x3.length < 140737488355328 then (spec_l1Fill.l0 k (x3 ++ [x4]) x4 (wrap64 (x5 + 1)) x1000 x1001 x1002) else (none)) else ((spec_l1Next.f x1000 x1001 x1002 64).bind fun bt187 => ((spec_l1Next.f x1000 bt187.2.1 bt187.2.2 256).bind fun bt190 => (if 0 ≤ bt187.1 then (if bt187.1 < (x3.length : Int) then ((some (x3.set (bt187.1 : Int).toNat ((bt190.1) % 256) : List Int)).bind fun y193 => ((spec_l1Chance.f x1000 bt190.2.1 bt190.2.2 5).bind fun bt194 => (if bt194.1 = true then ((spec_l1Magic.f x1000 bt194.2.1 bt194.2.2).bind fun bt197 => (spec_l1Fill.l1 k y193 bt197.1 0 x1000 bt197.2.1 bt197.2.2)) else (some (y193, bt194.2.1, bt194.2.2))))) else (none)) else (none))))
def spec_l1Fill.l1 : Nat → List Int → List Int → Int → List Int → Int → Int → Option (List Int × Int × Int)
 | 0, _, _, _, _, _, _ => none
 | k + 1, x3, x6, x7, x1000, x1001, x1002 => if x7 < (x6.length : Int) then (if 0 ≤ x7 then (if x7 < (x3.length : Int) then (spec_l1Fill.l1 k (x3.set (x7 : Int).toNat (rd x6 x7)) x6 (wrap64 (x7 + 1)) x1000 x1001 x1002) else (none)) else (none)) else (some (x3, x1001, x1002))
end
def spec_l1Fill.f (k : Nat) (s0_0 : List Int) (s0_1 : Int) (s0_2 : Int) : Option (List Int × Int × Int) := (spec_l1Next.f s0_0 s0_1 s0_2 256).bind fun bt181 => (spec_l1Fill.l0 k (([] : List Int)) ((bt181.1) % 256) 0 s0_0 bt181.2.1 bt181.2.2)
set_option maxHeartbeats 8000000 in
set_option maxRecDepth 100000 in
theorem spec_l1Fill.calls (k : Nat) (g : Nat) (s0_0 : List Int) (s0_1 : Int) (s0_2 : Int) (r1 : List Int) (r2 : Int) (r3 : Int) (w0 w : World) (hI : IsS90 w0 w g s0_0 s0_1 s0_2) (hB : Below w0.heap.size w0 w) (h : spec_l1Fill.f k s0_0 s0_1 s0_2 = some (r1, r2, r3)) :
  Calls Try.prog 83 #[.pointer (some ⟨g, 0, none⟩)] w fun e w' => ∃ v0_ : Value, e = .returned (v0_) ∧ Kd.R (Kd.int .u8) 5 w' w.heap.size (fun _ => True) v0_ r1 ∧ IsS90 w0 w' g s0_0 r2 r3 ∧ Below w0.heap.size w0 w' ∧ KeepBut w w' g none := by
 have HI0 := Aside0.mk hI
 have HK := Aside0.mk (KeepBut.refl w g none)
 have HL := Aside0.mk hB.size
 clear hI
 have HW0 := Aside0.mk hB.size
 have HB := Aside0.mk hB
 clear hB
 have H : ((spec_l1Next.f s0_0 s0_1 s0_2 256).bind fun bt181 => (spec_l1Fill.l0 k (([] : List Int)) ((bt181.1) % 256) 0 s0_0 bt181.2.1 bt181.2.2)) = some (r1, r2, r3) := h
 clear h
 obtain ⟨y178, hy178⟩ : ∃ y_ : List Int, y_ = (([] : List Int)) := ⟨_, rfl⟩
 replace H : ((spec_l1Next.f s0_0 s0_1 s0_2 256).bind fun bt181 => (spec_l1Fill.l0 k y178 ((bt181.1) % 256) 0 s0_0 bt181.2.1 bt181.2.2)) = some (r1, r2, r3) := by first | (rw [hy178]; with_reducible exact H) | (have H2_ := (Option.bind_some _ _).symm.trans H; rw [hy178]; with_reducible exact H2_) | (have H2_ := (Option.bind_some _ _).symm.trans H; with_reducible exact H2_) | with_reducible exact H | (rw [hy178]; exact H) | exact H
 have Ny178 := Aside0.mk hy178
 clear hy178
 replace H := Option.bind_eq_some_iff.mp H
 obtain ⟨⟨t181, t182, t183⟩, A20, H⟩ := H
 replace H : (spec_l1Fill.l0 k y178 ((t181) % 256) 0 s0_0 t182 t183) = some (r1, r2, r3) := H
 have A2 := Aside0.mk A20
 clear A20
 have H' := Aside0.mk H
 clear H
 go_enter Try.func83, Try.ntmps83
 go_wp2_with (first | ((with_reducible refine gate_dst (N := 8) rfl ?_); refine Kd.R_lit (Kd.int .u8) _ 5 ?hg (N := 8) ?hd (xs := ([] : List Int)) (inner := []) (ok := fun _ => True) (okp := fun _ => True) ?hr ?hp (fun _ hk => hk) trivial (Below.refl _ _) (Nat.le_refl _) (by simp) ?_; (case hd => rfl); (case hg => rfl); (case hr => first | (go_simp; done) | (go_simp; rfl)); (case hp => exact (Reps.none _ _)); intro v179 w3 ho4 hb hg_ hnew_; clear hg_ hnew_; (first | rw [← Ny178.out] at ho4 | (simp only [Int.reduceToNat] at ho4; rw [← Ny178.out] at ho4)); have HO180 := Aside0.mk (Kd.R_lower ho4 (keep_size (w := w) (g := g) (row := none) (Rgn.kbq HK.out))); replace HK := Aside0.mk (KeepBut.trans (Rgn.kbq HK.out) (KeepBut.of_below hb g none) (.inl rfl)); replace HB := Aside0.mk (below_step (Rgn.bs HB.out (IsS90.ge HI0.out)) hb); replace HI0 := Aside0.mk (IsS90.below (IsS90.q HI0.out) hb); clear hb ho4) | ((with_reducible refine gate_callee (f := 82) rfl ?_); refine Rgn.gl (some 10) Try.func82 #[.pointer (some ⟨g, 0, none⟩), .int .i64 256] ?_; (with_reducible refine (spec_l1Next.calls g s0_0 s0_1 s0_2 256 t181 t182 t183 w0 _ ?side1 ?side2 A2.out).mono ?_); (case side1 => repeat (first | (with_reducible first | exact HI0.out | apply IsS90.alloc | apply IsS90.drewN | apply IsS90.drew | apply IsS90.set_1 | apply IsS90.set_2) | exact HI0.out)); (case side2 => repeat (first | (with_reducible first | exact HB.out | apply below_alloc | apply pw_below_drewN | apply below_drew1 | refine below_set ?_ (IsS90.ge HI0.out)) | exact HB.out)); rintro e w5 ⟨rfl, hi, hb, hk⟩; refine ⟨_, rfl, ?_⟩; replace HO180 := Aside0.mk (Kd.R_mono (Kd.R_keep (IsS90.apart (show IsS90 w0 _ g s0_0 s0_1 s0_2 from IsS90.q HI0.out) (Rgn.rq HO180.out) (by decide)) hk (fun _ h => h.2)) (fun _ h => h.1)); replace HK := Aside0.mk (KeepBut.trans (Rgn.kbq HK.out) hk (.inl rfl)); replace HB := Aside0.mk (hb); replace HI0 := Aside0.mk (hi); (try clear hb); (try clear hk); (try clear hi)))
 go_loopg [3, 5] k (fun kq v3 v5 w' => ∃ (x3_1 : List Int) (x5_1 : Int), v5 = .int .i64 x5_1 ∧ Aside0 (spec_l1Fill.l0 kq x3_1 ((t181) % 256) x5_1 s0_0 t182 t183 = some (r1, r2, r3)) ∧ Aside0 (kq ≤ k) ∧ Aside0 (Kd.R (Kd.int .u8) 5 w' w.heap.size (fun _ => True) v3 x3_1) ∧ Aside0 (IsS90 w0 w' g s0_0 t182 t183) ∧ Aside0 (KeepBut w w' g none) ∧ Aside0 (Below w0.heap.size w0 w'))
 case atStart => exact ⟨(y178), (0), (by first | rfl | (simp; done) | (simp [*]; done)), H', ⟨Nat.le_refl _⟩, ⟨Rgn.rq HO180.out⟩, ⟨IsS90.q HI0.out⟩, ⟨Rgn.kbq HK.out⟩, ⟨Rgn.bs HB.out (IsS90.ge HI0.out)⟩⟩
 case round =>
  clear H'
  try clear p2
  obtain ⟨x3_1, x5_1, rfl, HA, HK1, HO_3, HI0, HK, HB⟩ := hrel
  cases gk with
  | zero => exact absurd HA.out (by simp [spec_l1Fill.l0])
  | succ k1 =>
   have H := HA.out
   clear HA
   simp only [spec_l1Fill.l0] at H
   by_cases c6 : x5_1 < 64
   ·
    rw [if_pos c6] at H
    have c6b0 : decide (x5_1 < 64) = true := decide_eq_true c6
    clear c6
    by_cases c7 : x3_1.length < 140737488355328
    ·
     rw [if_pos c7] at H
     have LMc7 := Aside0.mk c7
     clear c7
     obtain ⟨y184, hy184⟩ : ∃ y_ : List Int, y_ = (x3_1 ++ [((t181) % 256)]) := ⟨_, rfl⟩
     replace H : (spec_l1Fill.l0 k1 y184 ((t181) % 256) (wrap64 (x5_1 + 1)) s0_0 t182 t183) = some (r1, r2, r3) := by first | (rw [hy184]; with_reducible exact H) | (have H2_ := (Option.bind_some _ _).symm.trans H; rw [hy184]; with_reducible exact H2_) | (have H2_ := (Option.bind_some _ _).symm.trans H; with_reducible exact H2_) | with_reducible exact H | (rw [hy184]; exact H) | exact H
     have Ny184 := Aside0.mk hy184
     clear hy184
     have H' := Aside0.mk H
     clear H
     go_wp2_with (first | ((with_reducible refine gate_builtin (b := .append) (xs := #[.tmp 16, .tmp 18]) rfl ?_); at_builtin; refine Kd.R_append (Kd.int .u8) w.heap.size rfl (.tmp 16) (.tmp 18) 22 5 (.int .u8 0) 1 rfl Try.underlying22 info5 rfl (by decide) (by omega) u3 x3_1 ((t181) % 256) [.int .u8 ((t181) % 256)] (fun _ => True) (fun _ => False) rfl rfl ?aP (fun _ hk => hk.elim) ?aF ?aO (Below.refl _ _) ?aS ?aL ?_; (case aP => exact rfl); (case aF => exact (fun _ _ => trivial)); (case aO => exact (Rgn.rq HO_3.out)); (case aS => exact (keep_size (w := w) (g := g) (row := none) (Rgn.kbq HK.out))); (case aL => have := LMc7.out; omega); intro v185 w8 ho hb hg hat; rw [← Ny184.out] at ho; replace HB := Aside0.mk (below_weaken (Rgn.bs HB.out (IsS90.ge HI0.out)) HL.out hb); replace HI0 := Aside0.mk (IsS90.grown (IsS90.q HI0.out) hg (IsS90.own_ne HI0.out HO_3.out (by decide))); replace HK := Aside0.mk (KeepBut.trans (Rgn.kbq HK.out) (KeepBut.of_grown hg g) (Kd.R_base2 HO_3.out)); have HO186 := Aside0.mk (ho); clear HO_3; clear ho hb hg hat))
     go_roundg k1
     case measure => have := HK1.out; omega
     case rel => exact ⟨(y184), (wrap64 (x5_1 + 1)), (by first | rfl | (simp; done) | (simp [*]; done)), H', ⟨by have := HK1.out; omega⟩, ⟨Rgn.rq HO186.out⟩, ⟨IsS90.q HI0.out⟩, ⟨Rgn.kbq HK.out⟩, ⟨Rgn.bs HB.out (IsS90.ge HI0.out)⟩⟩
    ·
     rw [if_neg c7] at H
     exact absurd H (by simp)
   ·
    rw [if_neg c6] at H
    have c6b0 : decide (x5_1 < 64) = false := decide_eq_false c6
    clear c6
    replace H := Option.bind_eq_some_iff.mp H
    obtain ⟨⟨t187, t188, t189⟩, A90, H⟩ := H
    replace H : ((spec_l1Next.f s0_0 t188 t189 256).bind fun bt190 => (if 0 ≤ t187 then (if t187 < (x3_1.length : Int) then ((some (x3_1.set (t187 : Int).toNat ((bt190.1) % 256) : List Int)).bind fun y193 => ((spec_l1Chance.f s0_0 bt190.2.1 bt190.2.2 5).bind fun bt194 => (if bt194.1 = true then ((spec_l1Magic.f s0_0 bt194.2.1 bt194.2.2).bind fun bt197 => (spec_l1Fill.l1 k1 y193 bt197.1 0 s0_0 bt197.2.1 bt197.2.2)) else (some (y193, bt194.2.1, bt194.2.2))))) else (none)) else (none))) = some (r1, r2, r3) := H
    have A9 := Aside0.mk A90
    clear A90
    replace H := Option.bind_eq_some_iff.mp H
    obtain ⟨⟨t190, t191, t192⟩, A100, H⟩ := H
    replace H : (if 0 ≤ t187 then (if t187 < (x3_1.length : Int) then ((some (x3_1.set (t187 : Int).toNat ((t190) % 256) : List Int)).bind fun y193 => ((spec_l1Chance.f s0_0 t191 t192 5).bind fun bt194 => (if bt194.1 = true then ((spec_l1Magic.f s0_0 bt194.2.1 bt194.2.2).bind fun bt197 => (spec_l1Fill.l1 k1 y193 bt197.1 0 s0_0 bt197.2.1 bt197.2.2)) else (some (y193, bt194.2.1, bt194.2.2))))) else (none)) else (none)) = some (r1, r2, r3) := H
    have A10 := Aside0.mk A100
    clear A100
    by_cases c11 : 0 ≤ t187
    ·
     rw [if_pos c11] at H
     have c11b0 : decide (0 ≤ t187) = true := decide_eq_true c11
     clear c11
     by_cases c12 : t187 < (x3_1.length : Int)
     ·
      rw [if_pos c12] at H
      have c12b0 : decide (t187 < (x3_1.length : Int)) = true := decide_eq_true c12
      clear c12
      obtain ⟨y193, hy193⟩ : ∃ y_ : List Int, y_ = (x3_1.set (t187 : Int).toNat ((t190) % 256)) := ⟨_, rfl⟩
      replace H : ((spec_l1Chance.f s0_0 t191 t192 5).bind fun bt194 => (if bt194.1 = true then ((spec_l1Magic.f s0_0 bt194.2.1 bt194.2.2).bind fun bt197 => (spec_l1Fill.l1 k1 y193 bt197.1 0 s0_0 bt197.2.1 bt197.2.2)) else (some (y193, bt194.2.1, bt194.2.2)))) = some (r1, r2, r3) := by first | (rw [hy193]; with_reducible exact H) | (have H2_ := (Option.bind_some _ _).symm.trans H; rw [hy193]; with_reducible exact H2_) | (have H2_ := (Option.bind_some _ _).symm.trans H; with_reducible exact H2_) | with_reducible exact H | (rw [hy193]; exact H) | exact H
      have Ny193 := Aside0.mk hy193
      clear hy193
      replace H := Option.bind_eq_some_iff.mp H
      obtain ⟨⟨t194, t195, t196⟩, A140, H⟩ := H
      replace H : (if t194 = true then ((spec_l1Magic.f s0_0 t195 t196).bind fun bt197 => (spec_l1Fill.l1 k1 y193 bt197.1 0 s0_0 bt197.2.1 bt197.2.2)) else (some (y193, t195, t196))) = some (r1, r2, r3) := H
      have A14 := Aside0.mk A140
      clear A140
      by_cases c15 : t194 = true
      ·
       subst c15
       have H1 : ((spec_l1Magic.f s0_0 t195 t196).bind fun bt197 => (spec_l1Fill.l1 k1 y193 bt197.1 0 s0_0 bt197.2.1 bt197.2.2)) = some (r1, r2, r3) := by rw [if_pos rfl] at H; exact H
       clear H
       have H := H1
       clear H1
       replace H := Option.bind_eq_some_iff.mp H
       obtain ⟨⟨t197, t200, t201⟩, A160, H⟩ := H
       replace H : (spec_l1Fill.l1 k1 y193 t197 0 s0_0 t200 t201) = some (r1, r2, r3) := H
       have A16 := Aside0.mk A160
       clear A160
       have H' := Aside0.mk H
       clear H
       go_wp2_with (first | ((with_reducible refine gate_callee (f := 82) rfl ?_); refine Rgn.gl (some 22) Try.func82 #[.pointer (some ⟨g, 0, none⟩), .int .i64 64] ?_; (with_reducible refine (spec_l1Next.calls g s0_0 t182 t183 64 t187 t188 t189 w0 _ ?side1 ?side2 A9.out).mono ?_); (case side1 => repeat (first | (with_reducible first | exact HI0.out | apply IsS90.alloc | apply IsS90.drewN | apply IsS90.drew | apply IsS90.set_1 | apply IsS90.set_2) | exact HI0.out)); (case side2 => repeat (first | (with_reducible first | exact HB.out | apply below_alloc | apply pw_below_drewN | apply below_drew1 | refine below_set ?_ (IsS90.ge HI0.out)) | exact HB.out)); rintro e w17 ⟨rfl, hi, hb, hk⟩; refine ⟨_, rfl, ?_⟩; replace HO_3 := Aside0.mk (Kd.R_mono (Kd.R_keep (IsS90.apart (show IsS90 w0 _ g s0_0 t182 t183 from IsS90.q HI0.out) (Rgn.rq HO_3.out) (by decide)) hk (fun _ h => h.2)) (fun _ h => h.1)); replace HK := Aside0.mk (KeepBut.trans (Rgn.kbq HK.out) hk (.inl rfl)); replace HB := Aside0.mk (hb); replace HI0 := Aside0.mk (hi); (try clear hb); (try clear hk); (try clear hi)) | ((with_reducible refine gate_callee (f := 82) rfl ?_); refine Rgn.gl (some 24) Try.func82 #[.pointer (some ⟨g, 0, none⟩), .int .i64 256] ?_; (with_reducible refine (spec_l1Next.calls g s0_0 t188 t189 256 t190 t191 t192 w0 _ ?side1 ?side2 A10.out).mono ?_); (case side1 => repeat (first | (with_reducible first | exact HI0.out | apply IsS90.alloc | apply IsS90.drewN | apply IsS90.drew | apply IsS90.set_1 | apply IsS90.set_2) | exact HI0.out)); (case side2 => repeat (first | (with_reducible first | exact HB.out | apply below_alloc | apply pw_below_drewN | apply below_drew1 | refine below_set ?_ (IsS90.ge HI0.out)) | exact HB.out)); rintro e w18 ⟨rfl, hi, hb, hk⟩; refine ⟨_, rfl, ?_⟩; replace HO_3 := Aside0.mk (Kd.R_mono (Kd.R_keep (IsS90.apart (show IsS90 w0 _ g s0_0 t188 t189 from IsS90.q HI0.out) (Rgn.rq HO_3.out) (by decide)) hk (fun _ h => h.2)) (fun _ h => h.1)); replace HK := Aside0.mk (KeepBut.trans (Rgn.kbq HK.out) hk (.inl rfl)); replace HB := Aside0.mk (hb); replace HI0 := Aside0.mk (hi); (try clear hb); (try clear hk); (try clear hi); have p13 : 0 ≤ (t187 : Int) := of_decide_eq_true (by first | (with_reducible assumption) | assumption); have q13 : (t187 : Int) < ((x3_1.length : Int) : Int) := of_decide_eq_true (by first | (with_reducible assumption) | assumption); obtain ⟨go13, co13, eo13, gb13, gl13, cl13, HG13⟩ := Kd.R_form HO_3.out (by omega); (first | cases eo13 | (injection eo13 with ea_ en_ ec_; (first | subst ea_ | (injection ea_ with ea_; subst ea_)); subst ec_; clear en_)); have GB13 := Aside0.mk gb13; have GG13 := Aside0.mk HG13; clear gb13 gl13 HG13; obtain ⟨hx13_0, hf13_0⟩ := Kd.R_celln 0 HO_3.out (t187 : Int) p13 q13; replace p13 := eq_true p13; replace q13 := eq_true q13; obtain ⟨hy19_, hz19_⟩ := Kd.R_celln 0 HO_3.out (t187 : Int) (of_decide_eq_true (by first | (with_reducible assumption) | assumption)) (of_decide_eq_true (by first | (with_reducible assumption) | assumption)); have HP19 := Kd.R_putg HO_3.out (t187 : Int) ((t190) % 256)) | ((with_reducible refine gate_store (t := 5) (p := 26) rfl ?_); refine store_event (t := 5) (p := 26) (v := ?vo_w20) (w1 := (w18.setCell ⟨go13, (t187 : Int).toNat, none⟩ (.int .u8 ((t190) % 256)))) ?hg ?ho ?hn ?hr ?_; (case ho => rfl); (case hg => rfl); (case hn => rfl); (case hr => first | (go_simp; done) | (go_simp; rfl)); intro w20 hw; have hg : w18.grownBy w20 (some go13) := (by rw [hw]; exact HP19.2); have hp_ : Kd.R (Kd.int .u8) 5 w20 w.heap.size (fun _ => True) (.slice (some ⟨go13, 0, none⟩) x3_1.length co13) y193 := (by rw [hw, Ny193.out]; exact HP19.1); clear HP19; replace HI0 := Aside0.mk (IsS90.grown (IsS90.q HI0.out) hg (IsS90.own_ne HI0.out HO_3.out (by decide))); replace HB := Aside0.mk ((by rw [hw]; exact below_set (HB.out) (Nat.le_trans HL.out GB13.out) : Below w0.heap.size w0 w20)); replace HK := Aside0.mk (KeepBut.trans (Rgn.kbq HK.out) (KeepBut.of_grown hg g) (Kd.R_base2 HO_3.out)); replace HO_3 := Aside0.mk (hp_); clear hg hw hp_) | ((with_reducible refine gate_callee (f := 84) rfl ?_); refine Rgn.gl (some 28) Try.func84 #[.pointer (some ⟨g, 0, none⟩), .int .i64 5] ?_; (with_reducible refine (spec_l1Chance.calls g s0_0 t191 t192 5 true t195 t196 w0 _ ?side1 ?side2 A14.out).mono ?_); (case side1 => repeat (first | (with_reducible first | exact HI0.out | apply IsS90.alloc | apply IsS90.drewN | apply IsS90.drew | apply IsS90.set_1 | apply IsS90.set_2) | exact HI0.out)); (case side2 => repeat (first | (with_reducible first | exact HB.out | apply below_alloc | apply pw_below_drewN | apply below_drew1 | refine below_set ?_ (IsS90.ge HI0.out)) | exact HB.out)); rintro e w21 ⟨rfl, hi, hb, hk⟩; refine ⟨_, rfl, ?_⟩; replace HO_3 := Aside0.mk (Kd.R_mono (Kd.R_keep (IsS90.apart (show IsS90 w0 _ g s0_0 t191 t192 from IsS90.q HI0.out) (Rgn.rq HO_3.out) (by decide)) hk (fun _ h => h.2)) (fun _ h => h.1)); replace HK := Aside0.mk (KeepBut.trans (Rgn.kbq HK.out) hk (.inl rfl)); replace HB := Aside0.mk (hb); replace HI0 := Aside0.mk (hi); (try clear hb); (try clear hk); (try clear hi)) | ((with_reducible refine gate_callee (f := 97) rfl ?_); refine Rgn.gl (some 30) Try.func97 #[.pointer (some ⟨g, 0, none⟩)] ?_; (with_reducible refine (spec_l1Magic.calls g s0_0 t195 t196 t197 t200 t201 w0 _ ?side1 ?side2 A16.out).mono ?_); (case side1 => repeat (first | (with_reducible first | exact HI0.out | apply IsS90.alloc | apply IsS90.drewN | apply IsS90.drew | apply IsS90.set_1 | apply IsS90.set_2) | exact HI0.out)); (case side2 => repeat (first | (with_reducible first | exact HB.out | apply below_alloc | apply pw_below_drewN | apply below_drew1 | refine below_set ?_ (IsS90.ge HI0.out)) | exact HB.out)); rintro e w22 ⟨v198, rfl, ho0, hi, hb, hk⟩; refine ⟨_, rfl, ?_⟩; have HO199 := Aside0.mk (Kd.R_lower (Kd.R_new' ho0 (Kd.R_lt (Rgn.rq HO_3.out))) (keep_size (w := w) (g := g) (row := none) (Rgn.kbq HK.out))); replace HO_3 := Aside0.mk (Kd.R_mono (Kd.R_told (Kd.R_oldK (IsS90.apart (show IsS90 w0 _ g s0_0 t195 t196 from IsS90.q HI0.out) (Rgn.rq HO_3.out) (by decide)) hk) (Kd.R_base ho0)) (fun _ h_ => h_.1)); replace HK := Aside0.mk (KeepBut.trans (Rgn.kbq HK.out) hk (.inl rfl)); replace HB := Aside0.mk (hb); replace HI0 := Aside0.mk (hi); (try clear hb); (try clear hk); (try clear hi); (try clear ho0)))
       go_loopg [7] k1 (fun kq v7 w' => ∃ (x3_2 : List Int) (x7_2 : Int), v7 = .int .i64 x7_2 ∧ Aside0 (spec_l1Fill.l1 kq x3_2 t197 x7_2 s0_0 t200 t201 = some (r1, r2, r3)) ∧ Aside0 (kq ≤ k1) ∧ Aside0 (Kd.R (Kd.int .u8) 5 w' w.heap.size (fun k_ => some k_ ≠ (v198 : Value).ownBlock) (.slice (some ⟨go13, 0, none⟩) x3_1.length co13) x3_2) ∧ Aside0 (Kd.R (Kd.int .u8) 5 w' w.heap.size (fun k_ => some k_ ≠ ((.slice (some ⟨go13, 0, none⟩) x3_1.length co13) : Value).ownBlock) v198 t197) ∧ Aside0 (IsS90 w0 w' g s0_0 t200 t201) ∧ Aside0 (KeepBut w w' g none) ∧ Aside0 (Below w0.heap.size w0 w'))
       case atStart => exact ⟨(y193), (0), (by first | rfl | (simp; done) | (simp [*]; done)), H', ⟨Nat.le_refl _⟩, ⟨by (with_reducible repeat (first | apply Kd.R_alloc | apply Kd.R_drewN | apply Kd.R_drew)); exact Kd.R_mono HO_3.out (fun _ hk => hk.2)⟩, ⟨by (with_reducible repeat (first | apply Kd.R_alloc | apply Kd.R_drewN | apply Kd.R_drew)); exact Kd.R_mono HO199.out (fun _ hk => hk.2)⟩, ⟨IsS90.q HI0.out⟩, ⟨Rgn.kbq HK.out⟩, ⟨Rgn.bs HB.out (IsS90.ge HI0.out)⟩⟩
       case round =>
        clear H'
        try clear c1
        try clear p1
        try clear q1
        try clear hx1
        try clear hf1
        try clear p2
        try clear c6
        try clear c6b0
        try clear p6
        try clear c7
        try clear c8
        try clear c9
        try clear c11
        try clear c11b0
        try clear c12
        try clear c12b0
        try clear p13
        try clear q13
        try clear hx13
        try clear hf13
        try clear c15
        try clear hx13_0
        try clear p13
        try clear p2
        try clear q13
        obtain ⟨x3_2, x7_2, rfl, HA, HK2, HO_3, HO_6, HI0, HK, HB⟩ := hrel
        have hl3_2 := (Kd.R_reads' HO_3.out).1
        rw [hl3_2] at HO_3
        (try simp only [hl3_2])
        (try simp only [hl3_2] at HO_6)
        cases gk with
        | zero => exact absurd HA.out (by simp [spec_l1Fill.l1])
        | succ k2 =>
         have H := HA.out
         clear HA
         simp only [spec_l1Fill.l1] at H
         by_cases c23 : x7_2 < (t197.length : Int)
         ·
          rw [if_pos c23] at H
          have c23b0 : decide (x7_2 < (t197.length : Int)) = true := decide_eq_true c23
          clear c23
          by_cases c24 : 0 ≤ x7_2
          ·
           rw [if_pos c24] at H
           have c24b0 : decide (0 ≤ x7_2) = true := decide_eq_true c24
           clear c24
           by_cases c25 : x7_2 < (x3_2.length : Int)
           ·
            rw [if_pos c25] at H
            have c25b0 : decide (x7_2 < (x3_2.length : Int)) = true := decide_eq_true c25
            clear c25
            obtain ⟨y203, hy203⟩ : ∃ y_ : List Int, y_ = (x3_2.set (x7_2 : Int).toNat (rd t197 x7_2)) := ⟨_, rfl⟩
            replace H : (spec_l1Fill.l1 k2 y203 t197 (wrap64 (x7_2 + 1)) s0_0 t200 t201) = some (r1, r2, r3) := by first | (rw [hy203]; with_reducible exact H) | (have H2_ := (Option.bind_some _ _).symm.trans H; rw [hy203]; with_reducible exact H2_) | (have H2_ := (Option.bind_some _ _).symm.trans H; with_reducible exact H2_) | with_reducible exact H | (rw [hy203]; exact H) | exact H
            have Ny203 := Aside0.mk hy203
            clear hy203
            have H' := Aside0.mk H
            clear H
            obtain ⟨Ao27, co27, eo27⟩ := Kd.R_slice HO_6.out
            subst eo27
            have p202 : 0 ≤ (x7_2 : Int) := of_decide_eq_true (by first | (with_reducible assumption) | assumption)
            have q202 : x7_2 < (t197.length : Int) := of_decide_eq_true (by first | (with_reducible assumption) | assumption)
            obtain ⟨ad202, e202, hx202_0⟩ := Kd.at_int (Kd.R_reads' HO_6.out).2.2 x7_2 p202 q202
            cases e202
            replace p202 := eq_true p202
            replace q202 := eq_true q202
            have p26 : 0 ≤ (x7_2 : Int) := of_decide_eq_true (by first | (with_reducible assumption) | assumption)
            have q26 : (x7_2 : Int) < ((x3_2.length : Int) : Int) := of_decide_eq_true (by first | (with_reducible assumption) | assumption)
            obtain ⟨hx26_0, hf26_0⟩ := Kd.R_celln 0 HO_3.out (x7_2 : Int) p26 q26
            replace p26 := eq_true p26
            replace q26 := eq_true q26
            have HP28 := Kd.R_putg HO_3.out (x7_2 : Int) (rd t197 x7_2)
            go_wp2_with (first | ((with_reducible refine gate_store (t := 5) (p := 43) rfl ?_); refine store_event (t := 5) (p := 43) (v := ?vo_w29) (w1 := (wr.setCell ⟨go13, (x7_2 : Int).toNat, none⟩ (.int .u8 (rd t197 x7_2)))) ?hg ?ho ?hn ?hr ?_; (case ho => rfl); (case hg => rfl); (case hn => rfl); (case hr => first | (go_simp; done) | (go_simp; rfl)); intro w29 hw; have hg : wr.grownBy w29 (some go13) := (by rw [hw]; exact HP28.2); have hp_ : Kd.R (Kd.int .u8) 5 w29 w.heap.size (fun k_ => some k_ ≠ (.slice (some ad202) t197.length co27 : Value).ownBlock) (.slice (some ⟨go13, 0, none⟩) x3_2.length co13) y203 := (by rw [hw, Ny203.out]; exact HP28.1); clear HP28; replace HO_6 := Aside0.mk (Kd.R_after (v := (.slice (some ⟨go13, 0, none⟩) x3_2.length co13)) (v1 := (.slice (some ⟨go13, 0, none⟩) x3_2.length co13)) (ok := (fun _ => True)) (Rgn.rq (Kd.R_mono HO_6.out (fun _ hk => ⟨trivial, hk⟩))) hg (.inl rfl)); replace HI0 := Aside0.mk (IsS90.grown (IsS90.q HI0.out) hg (IsS90.own_ne HI0.out HO_3.out (by decide))); replace HB := Aside0.mk ((by rw [hw]; exact below_set (HB.out) (Nat.le_trans HL.out GB13.out) : Below w0.heap.size w0 w29)); replace HK := Aside0.mk (KeepBut.trans (Rgn.kbq HK.out) (KeepBut.of_grown hg g) (Kd.R_base2 HO_3.out)); replace HO_3 := Aside0.mk (hp_); clear hg hw hp_))
            (try simp only [← hl3_2])
            go_roundg k2
            case measure => have := HK1.out; have := HK2.out; omega
            case rel => exact ⟨(y203), (wrap64 (x7_2 + 1)), (by first | rfl | (simp; done) | (simp [*]; done)), H', ⟨by have := HK1.out; have := HK2.out; omega⟩, ⟨by (try simp only [hl3_2]); (with_reducible repeat (first | apply Kd.R_alloc | apply Kd.R_drewN | apply Kd.R_drew)); exact HO_3.out⟩, ⟨by (try simp only [hl3_2]); (with_reducible repeat (first | apply Kd.R_alloc | apply Kd.R_drewN | apply Kd.R_drew)); exact Kd.R_mono HO_6.out (fun _ hk => hk.2)⟩, ⟨IsS90.q HI0.out⟩, ⟨Rgn.kbq HK.out⟩, ⟨Rgn.bs HB.out (IsS90.ge HI0.out)⟩⟩
           ·
            rw [if_neg c25] at H
            exact absurd H (by simp)
          ·
           rw [if_neg c24] at H
           exact absurd H (by simp)
         ·
          rw [if_neg c23] at H
          have c23b0 : decide (x7_2 < (t197.length : Int)) = false := decide_eq_false c23
          clear c23
          simp only [Option.some.injEq, Prod.mk.injEq] at H
          obtain ⟨rfl, rfl, rfl⟩ := H
          obtain ⟨Ao30, co30, eo30⟩ := Kd.R_slice HO_6.out
          subst eo30
          go_wp2
          go_ret
          exact ⟨_, by first | rfl | (simp [errW_none, errW_some] <;> rfl) | (simp [*, errW_none, errW_some] <;> rfl), by (with_reducible repeat (first | apply Kd.R_alloc | apply Kd.R_drewN | apply Kd.R_drew)); exact Kd.R_mono HO_3.out (fun _ hk => trivial), IsS90.q HI0.out, Rgn.bs HB.out (IsS90.ge HI0.out), Rgn.kbq HK.out⟩
      ·
       replace c15 := Bool.eq_false_iff.mpr c15
       subst c15
       have H1 : (some (y193, t195, t196)) = some (r1, r2, r3) := by rw [if_neg (show ¬ (false = true) by decide)] at H; exact H
       clear H
       have H := H1
       clear H1
       simp only [Option.some.injEq, Prod.mk.injEq] at H
       obtain ⟨rfl, rfl, rfl⟩ := H
       go_wp2_with (first | ((with_reducible refine gate_callee (f := 82) rfl ?_); refine Rgn.gl (some 22) Try.func82 #[.pointer (some ⟨g, 0, none⟩), .int .i64 64] ?_; (with_reducible refine (spec_l1Next.calls g s0_0 t182 t183 64 t187 t188 t189 w0 _ ?side1 ?side2 A9.out).mono ?_); (case side1 => repeat (first | (with_reducible first | exact HI0.out | apply IsS90.alloc | apply IsS90.drewN | apply IsS90.drew | apply IsS90.set_1 | apply IsS90.set_2) | exact HI0.out)); (case side2 => repeat (first | (with_reducible first | exact HB.out | apply below_alloc | apply pw_below_drewN | apply below_drew1 | refine below_set ?_ (IsS90.ge HI0.out)) | exact HB.out)); rintro e w31 ⟨rfl, hi, hb, hk⟩; refine ⟨_, rfl, ?_⟩; replace HO_3 := Aside0.mk (Kd.R_mono (Kd.R_keep (IsS90.apart (show IsS90 w0 _ g s0_0 t182 t183 from IsS90.q HI0.out) (Rgn.rq HO_3.out) (by decide)) hk (fun _ h => h.2)) (fun _ h => h.1)); replace HK := Aside0.mk (KeepBut.trans (Rgn.kbq HK.out) hk (.inl rfl)); replace HB := Aside0.mk (hb); replace HI0 := Aside0.mk (hi); (try clear hb); (try clear hk); (try clear hi)) | ((with_reducible refine gate_callee (f := 82) rfl ?_); refine Rgn.gl (some 24) Try.func82 #[.pointer (some ⟨g, 0, none⟩), .int .i64 256] ?_; (with_reducible refine (spec_l1Next.calls g s0_0 t188 t189 256 t190 t191 t192 w0 _ ?side1 ?side2 A10.out).mono ?_); (case side1 => repeat (first | (with_reducible first | exact HI0.out | apply IsS90.alloc | apply IsS90.drewN | apply IsS90.drew | apply IsS90.set_1 | apply IsS90.set_2) | exact HI0.out)); (case side2 => repeat (first | (with_reducible first | exact HB.out | apply below_alloc | apply pw_below_drewN | apply below_drew1 | refine below_set ?_ (IsS90.ge HI0.out)) | exact HB.out)); rintro e w32 ⟨rfl, hi, hb, hk⟩; refine ⟨_, rfl, ?_⟩; replace HO_3 := Aside0.mk (Kd.R_mono (Kd.R_keep (IsS90.apart (show IsS90 w0 _ g s0_0 t188 t189 from IsS90.q HI0.out) (Rgn.rq HO_3.out) (by decide)) hk (fun _ h => h.2)) (fun _ h => h.1)); replace HK := Aside0.mk (KeepBut.trans (Rgn.kbq HK.out) hk (.inl rfl)); replace HB := Aside0.mk (hb); replace HI0 := Aside0.mk (hi); (try clear hb); (try clear hk); (try clear hi); have p13 : 0 ≤ (t187 : Int) := of_decide_eq_true (by first | (with_reducible assumption) | assumption); have q13 : (t187 : Int) < ((x3_1.length : Int) : Int) := of_decide_eq_true (by first | (with_reducible assumption) | assumption); obtain ⟨go13, co13, eo13, gb13, gl13, cl13, HG13⟩ := Kd.R_form HO_3.out (by omega); (first | cases eo13 | (injection eo13 with ea_ en_ ec_; (first | subst ea_ | (injection ea_ with ea_; subst ea_)); subst ec_; clear en_)); have GB13 := Aside0.mk gb13; have GG13 := Aside0.mk HG13; clear gb13 gl13 HG13; obtain ⟨hx13_0, hf13_0⟩ := Kd.R_celln 0 HO_3.out (t187 : Int) p13 q13; replace p13 := eq_true p13; replace q13 := eq_true q13; obtain ⟨hy33_, hz33_⟩ := Kd.R_celln 0 HO_3.out (t187 : Int) (of_decide_eq_true (by first | (with_reducible assumption) | assumption)) (of_decide_eq_true (by first | (with_reducible assumption) | assumption)); have HP33 := Kd.R_putg HO_3.out (t187 : Int) ((t190) % 256)) | ((with_reducible refine gate_store (t := 5) (p := 26) rfl ?_); refine store_event (t := 5) (p := 26) (v := ?vo_w34) (w1 := (w32.setCell ⟨go13, (t187 : Int).toNat, none⟩ (.int .u8 ((t190) % 256)))) ?hg ?ho ?hn ?hr ?_; (case ho => rfl); (case hg => rfl); (case hn => rfl); (case hr => first | (go_simp; done) | (go_simp; rfl)); intro w34 hw; have hg : w32.grownBy w34 (some go13) := (by rw [hw]; exact HP33.2); have hp_ : Kd.R (Kd.int .u8) 5 w34 w.heap.size (fun _ => True) (.slice (some ⟨go13, 0, none⟩) x3_1.length co13) y193 := (by rw [hw, Ny193.out]; exact HP33.1); clear HP33; replace HI0 := Aside0.mk (IsS90.grown (IsS90.q HI0.out) hg (IsS90.own_ne HI0.out HO_3.out (by decide))); replace HB := Aside0.mk ((by rw [hw]; exact below_set (HB.out) (Nat.le_trans HL.out GB13.out) : Below w0.heap.size w0 w34)); replace HK := Aside0.mk (KeepBut.trans (Rgn.kbq HK.out) (KeepBut.of_grown hg g) (Kd.R_base2 HO_3.out)); replace HO_3 := Aside0.mk (hp_); clear hg hw hp_) | ((with_reducible refine gate_callee (f := 84) rfl ?_); refine Rgn.gl (some 28) Try.func84 #[.pointer (some ⟨g, 0, none⟩), .int .i64 5] ?_; (with_reducible refine (spec_l1Chance.calls g s0_0 t191 t192 5 false t195 t196 w0 _ ?side1 ?side2 A14.out).mono ?_); (case side1 => repeat (first | (with_reducible first | exact HI0.out | apply IsS90.alloc | apply IsS90.drewN | apply IsS90.drew | apply IsS90.set_1 | apply IsS90.set_2) | exact HI0.out)); (case side2 => repeat (first | (with_reducible first | exact HB.out | apply below_alloc | apply pw_below_drewN | apply below_drew1 | refine below_set ?_ (IsS90.ge HI0.out)) | exact HB.out)); rintro e w35 ⟨rfl, hi, hb, hk⟩; refine ⟨_, rfl, ?_⟩; replace HO_3 := Aside0.mk (Kd.R_mono (Kd.R_keep (IsS90.apart (show IsS90 w0 _ g s0_0 t191 t192 from IsS90.q HI0.out) (Rgn.rq HO_3.out) (by decide)) hk (fun _ h => h.2)) (fun _ h => h.1)); replace HK := Aside0.mk (KeepBut.trans (Rgn.kbq HK.out) hk (.inl rfl)); replace HB := Aside0.mk (hb); replace HI0 := Aside0.mk (hi); (try clear hb); (try clear hk); (try clear hi)))
       go_ret
       exact ⟨_, by first | rfl | (simp [errW_none, errW_some] <;> rfl) | (simp [*, errW_none, errW_some] <;> rfl), Rgn.rq HO_3.out, IsS90.q HI0.out, Rgn.bs HB.out (IsS90.ge HI0.out), Rgn.kbq HK.out⟩
     ·
      rw [if_neg c12] at H
      exact absurd H (by simp)
    ·
     rw [if_neg c11] at H
     exact absurd H (by simp)

end Go.Proofs.Ytdhjhadcadcceaa.PFnDisk
