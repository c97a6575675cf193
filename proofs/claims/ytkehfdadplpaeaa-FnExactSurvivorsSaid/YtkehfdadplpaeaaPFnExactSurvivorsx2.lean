-- written by a program of this session (wip/src/print2.py)
import Derived.Test.YtkehfdadplpaeaaPFnExactSurvivorsx0
import Derived.Test.YtkehfdadplpaeaaPFnExactSurvivorsx1
namespace Go.Proofs.Ytkehfdadplpaeaa.PFnExactSurvivors
open Go.RowKit Go.Proofs.YtkehfdadplpaeaaW.PrintWords Go.Proofs.YtkehfdadplpaeaaW.PrintLast Go.Proofs.YtkehfdadplpaeaaW.PrintMore
attribute [local go_sem] max2_int min2_int max_two min_two max_three min_three max_four min_four   -- for this text's walks alone
set_option linter.unusedVariables false
set_option linter.unusedSimpArgs false

/-! ### spec_l5With: function 33 -/
mutual
def spec_l5With.l0 : Nat → List (S61) → List (S61) → Bool → Int → Int → List Int → Option ((List (S61)))
 | 0, _, _, _, _, _, _ => none
 | k + 1, x0, x5, x6, x7, x125000, x125001 => if x7 < (x0.length : Int) then (if x6 = true then (spec_l5With.j1 k x0 x5 x6 x7 false x125000 x125001) else (if 0 ≤ x7 then (spec_l5With.j1 k x0 x5 x6 x7 (decide (((rd_T61 x0 x7).f0) ≥ x125000)) x125000 x125001) else (none))) else (if x6 = true then (some x5) else ((spec_l1Copy.f x125001).bind fun t128 => (if x5.length < 4398046511104 then (some (x5 ++ [(⟨x125000, t128⟩ : S61)])) else (none))))
def spec_l5With.j1 : Nat → List (S61) → List (S61) → Bool → Int → Bool → Int → List Int → Option ((List (S61)))
 | 0, _, _, _, _, _, _, _ => none
 | k + 1, x0, x5, x6, x7, x26, x125000, x125001 => if x26 = true then ((spec_l1Copy.f x125001).bind fun t135 => (if x5.length < 4398046511104 then ((some (x5 ++ [(⟨x125000, t135⟩ : S61)] : List (S61))).bind fun y138 => (if 0 ≤ x7 then (if x7 < (x0.length : Int) then (if ((rd_T61 x0 x7).f0) = x125000 then (spec_l5With.l0 k x0 y138 true (wrap64 (x7 + 1)) x125000 x125001) else (if y138.length < 4398046511104 then (spec_l5With.l0 k x0 (y138 ++ [(⟨(rd_T61 x0 x7).f0, (rd_T61 x0 x7).f1⟩ : S61)]) true (wrap64 (x7 + 1)) x125000 x125001) else (none))) else (none)) else (none))) else (none))) else (if 0 ≤ x7 then (if x7 < (x0.length : Int) then (if ((rd_T61 x0 x7).f0) = x125000 then (spec_l5With.l0 k x0 x5 x6 (wrap64 (x7 + 1)) x125000 x125001) else (if x5.length < 4398046511104 then (spec_l5With.l0 k x0 (x5 ++ [(⟨(rd_T61 x0 x7).f0, (rd_T61 x0 x7).f1⟩ : S61)]) x6 (wrap64 (x7 + 1)) x125000 x125001) else (none))) else (none)) else (none))
end
def spec_l5With.f (k : Nat) (l0 : List (S61)) (a1_0 : Int) (l1_1 : List Int) : Option ((List (S61))) := spec_l5With.l0 k l0 (([] : List (S61))) false 0 a1_0 l1_1
def spec_l5With.T6 : Bool × List (List Nat × List Nat) := (true, [([], []), ([0], [0]), ([1], [1]), ([2], [2]), ([2], [2]), ([3, 4, 2], [2, 3, 4]), ([5, 2], [2, 5]), ([6, 2], [2, 6]), ([2], [2]), ([8, 2], [2, 8]), ([7, 9, 2], [2, 7, 9]), ([2, 10], [2, 10])])
def spec_l5With.B6 : List Nat := [0, 1, 3, 7, 7, 31, 63, 127, 7, 263, 1023, 2047]
theorem spec_l5With.tab6 : rtab .any (opsOf Try.f33 6) = spec_l5With.T6 := by kernel_rfl
theorem spec_l5With.bits6 : waitsOk spec_l5With.T6.2 spec_l5With.B6 = true := by kernel_rfl
def spec_l5With.T7 : Bool × List (List Nat × List Nat) := (true, [([], []), ([], []), ([1], [1]), ([], []), ([3], [3]), ([4], [4]), ([2, 5], [2, 5]), ([6], [6]), ([0, 7, 5], [0, 7]), ([8, 8, 0, 1, 2, 3, 4, 5, 6, 7, 8], [0, 8])])
def spec_l5With.B7 : List Nat := [0, 0, 2, 0, 8, 24, 62, 126, 255, 511]
theorem spec_l5With.tab7 : rtab .any (opsOf Try.f33 7) = spec_l5With.T7 := by kernel_rfl
theorem spec_l5With.bits7 : waitsOk spec_l5With.T7.2 spec_l5With.B7 = true := by kernel_rfl
def spec_l5With.T9 : Bool × List (List Nat × List Nat) := (true, [([], []), ([], []), ([0, 1], [0, 1]), ([2], [2]), ([3], [3]), ([], []), ([5], [5]), ([4, 6], [4, 6])])
def spec_l5With.B9 : List Nat := [0, 0, 3, 7, 15, 0, 32, 127]
theorem spec_l5With.tab9 : rtab .any (opsOf Try.f33 9) = spec_l5With.T9 := by kernel_rfl
theorem spec_l5With.bits9 : waitsOk spec_l5With.T9.2 spec_l5With.B9 = true := by kernel_rfl
def spec_l5With.T12 : Bool × List (List Nat × List Nat) := (true, [([], []), ([], []), ([1], [1]), ([], []), ([3], [3]), ([4], [4]), ([2, 5], [2, 5]), ([6], [6]), ([0, 7, 5], [0, 7]), ([8, 8, 0, 1, 2, 3, 4, 5, 6, 7, 8], [0, 8])])
def spec_l5With.B12 : List Nat := [0, 0, 2, 0, 8, 24, 62, 126, 255, 511]
theorem spec_l5With.tab12 : rtab .any (opsOf Try.f33 12) = spec_l5With.T12 := by kernel_rfl
theorem spec_l5With.bits12 : waitsOk spec_l5With.T12.2 spec_l5With.B12 = true := by kernel_rfl
set_option maxHeartbeats 8000000 in
set_option maxRecDepth 100000 in
theorem spec_l5With.calls (k : Nat) (P0_ : Nat → Prop) (A0 : Option Addr) (c0 : Nat) (l0 : List (S61)) (a1_0 : Int) (A1_1 : Option Addr) (c1_1 : Nat) (l1_1 : List Int) (r : List (S61)) (w : World) (hs0 : Kd.V k61 61 w w.heap.size (fun k_ => P0_ k_) (.slice A0 l0.length c0) l0) (hr1_1 : Kd.C (Kd.int .u8) w A1_1 l1_1.length l1_1) (hc1_1 : l1_1.length ≤ c1_1) (h : spec_l5With.f k l0 a1_0 l1_1 = some r) :
  Calls Try.prog 33 #[.slice A0 l0.length c0, .agg #[.int .i64 a1_0, .slice A1_1 l1_1.length c1_1]] w fun e w' => ∃ v0_ : Value, e = .returned (v0_) ∧ Kd.N k61 61 w' w.heap.size (fun k_ => (P0_ k_ ∨ w.heap.size ≤ k_)) v0_ r ∧ Below w.heap.size w w' := by
 have hu61 := Try.underlying61
 have HO0 := Aside0.mk (show Kd.V k61 61 w w.heap.size (fun k_ => (P0_ k_ ∨ w.heap.size ≤ k_)) (.slice A0 l0.length c0) l0 from Kd.V_mono hs0 (fun k_ hk => .inl hk))
 have HR1_1 := Aside0.mk hr1_1
 have HC1_1 := Aside0.mk hc1_1
 clear hr1_1 hc1_1
 have HB := Aside0.mk (Below.refl w.heap.size w)
 have H : (spec_l5With.l0 k l0 (([] : List (S61))) false 0 a1_0 l1_1) = some r := h
 clear h
 obtain ⟨y125, hy125⟩ : ∃ y_ : List (S61), y_ = (([] : List (S61))) := ⟨_, rfl⟩
 replace H : (spec_l5With.l0 k l0 y125 false 0 a1_0 l1_1) = some r := by first | (rw [hy125]; with_reducible exact H) | (have H2_ := (Option.bind_some _ _).symm.trans H; rw [hy125]; with_reducible exact H2_) | (have H2_ := (Option.bind_some _ _).symm.trans H; with_reducible exact H2_) | with_reducible exact H | (rw [hy125]; exact H) | exact H
 have Ny125 := Aside0.mk hy125
 clear hy125
 have H' := Aside0.mk H
 clear H
 go_enter Try.func33, Try.ntmps33
 go_wp2_with (first | ((with_reducible refine gate_dst (N := 3) rfl ?_); refine Rgn.bx 3 #[.int .i64 a1_0, .slice A1_1 l1_1.length c1_1] 61 ?_; intro gb124 hg w3 hbox hb; replace HO0 := Aside0.mk (Kd.V_below (Kd.V_elderB (by (with_reducible repeat (first | apply Kd.V_alloc | apply Kd.V_drewN | apply Kd.V_drew)); exact HO0.out) gb124 (Nat.le_of_eq hg.symm)) hb); have BK124 := Aside0.mk (hbox); have GW124 := Aside0.mk (Rgn.ge hg HB.out); have GE124 := Aside0.mk (Rgn.ge hg HB.out); replace HB := Aside0.mk (below_step (Rgn.bq HB.out) hb); clear hb hbox hg) | ((with_reducible refine gate_dst (N := 8) rfl ?_); refine Kd.N_lit k61 _ 61 ?hg (N' := 8) ?hd (xs := ([] : List (S61))) (inner := []) (ok := (fun k_ => (P0_ k_ ∨ w.heap.size ≤ k_) ∧ k_ ≠ gb124)) (okp := (fun k_ => (P0_ k_ ∨ w.heap.size ≤ k_) ∧ k_ ≠ gb124)) ?hr ?hp (fun _ hk => hk) ((show ∀ k_, w3.heap.size ≤ k_ → (fun k_ => (P0_ k_ ∨ w.heap.size ≤ k_) ∧ k_ ≠ gb124) k_ from fun k_ hk => ⟨(.inr (Nat.le_trans (below_size (Rgn.bq HB.out)) hk)), Kd.freshB (g := gb124) (o := .cells #[.int .i64 a1_0, .slice A1_1 l1_1.length c1_1] 61 (0, 0)) (Rgn.kb BK124.out) k_ hk⟩) _ (Nat.le_refl _)) (Below.refl _ _) (Nat.le_refl _) (by simp) ?_; (case hd => rfl); (case hg => rfl); (case hr => first | (go_simp; done) | (go_simp; rfl)); (case hp => exact (Reps.none _ _)); intro v126 w4 ho5 hb hg_ hnew_; clear hg_ hnew_; (first | rw [← Ny125.out] at ho5 | (simp only [Int.reduceToNat] at ho5; rw [← Ny125.out] at ho5)); replace HO0 := Aside0.mk (Kd.V_elder' (by (with_reducible repeat (first | apply Kd.V_alloc | apply Kd.V_drewN | apply Kd.V_drew)); exact HO0.out) (Kd.N_base ho5) hb); have HO127 := Aside0.mk (Kd.N_lower ho5 (below_size (Rgn.bq HB.out))); replace BK124 := Aside0.mk (Rgn.bb BK124.out hb); replace HB := Aside0.mk (below_step (Rgn.bq HB.out) hb); clear hb ho5))
 go_loopg [5, 6, 7] k (fun kq v5 v6 v7 w' => ∃ (x5_1 : List (S61)) (x6_1 : Bool) (x7_1 : Int), v6 = .bool x6_1 ∧ v7 = .int .i64 x7_1 ∧ Aside0 (spec_l5With.l0 kq l0 x5_1 x6_1 x7_1 a1_0 l1_1 = some r) ∧ Aside0 (kq ≤ k) ∧ Aside0 (Kd.V k61 61 w' w.heap.size (fun k_ => (P0_ k_ ∨ w.heap.size ≤ k_) ∧ some k_ ≠ (v5 : Value).ownBlock ∧ k_ ≠ gb124) (.slice A0 l0.length c0) l0) ∧ Aside0 (Kd.N k61 61 w' w.heap.size (fun k_ => (P0_ k_ ∨ w.heap.size ≤ k_) ∧ k_ ≠ gb124) v5 x5_1) ∧ Aside0 (w'.heap[gb124]? = some (.cells #[.int .i64 a1_0, (.slice A1_1 l1_1.length c1_1)] 61 (0, 0))) ∧ Aside0 (Below w.heap.size w w'))
 case atStart => exact ⟨(y125), (false), (0), (by first | rfl | (simp; done) | (simp [*]; done)), (by first | rfl | (simp; done) | (simp [*]; done)), H', ⟨Nat.le_refl _⟩, ⟨by (with_reducible repeat (first | apply Kd.V_alloc | apply Kd.V_drewN | apply Kd.V_drew)); exact Kd.V_mono HO0.out (fun _ hk => ⟨hk.1.1, ⟨hk.2, hk.1.2⟩⟩)⟩, ⟨by (with_reducible repeat (first | apply Kd.N_alloc | apply Kd.N_drewN | apply Kd.N_drew)); exact HO127.out⟩, ⟨Rgn.kb BK124.out⟩, ⟨Rgn.bq HB.out⟩⟩
 case round =>
  clear H'
  try clear c1
  try clear p2
  try clear c3
  obtain ⟨x5_1, x6_1, x7_1, rfl, rfl, HA, HK1, HO_0, HO_5, BK124, HB⟩ := hrel
  cases gk with
  | zero => exact absurd HA.out (by simp [spec_l5With.l0])
  | succ k1 =>
   have H := HA.out
   clear HA
   simp only [spec_l5With.l0] at H
   by_cases c6 : x7_1 < (l0.length : Int)
   ·
    rw [if_pos c6] at H
    have c6b0 : decide (x7_1 < (l0.length : Int)) = true := decide_eq_true c6
    clear c6
    have HC7 := Aside0.mk H
    clear H
    go_upto_region 6 with (fail)
    go_cut [26] (fun v26 wc => ∃ (kq : Nat) (x26_6 : Bool), v26 = .bool x26_6 ∧ Aside0 (spec_l5With.j1 kq l0 x5_1 x6_1 x7_1 x26_6 a1_0 l1_1 = some r) ∧ Aside0 (kq ≤ k1) ∧ Aside0 (Kd.V k61 61 wc w.heap.size (fun k_ => (P0_ k_ ∨ w.heap.size ≤ k_) ∧ some k_ ≠ (u5 : Value).ownBlock ∧ k_ ≠ gb124) (.slice A0 l0.length c0) l0) ∧ Aside0 (Kd.N k61 61 wc w.heap.size (fun k_ => (P0_ k_ ∨ w.heap.size ≤ k_) ∧ k_ ≠ gb124) u5 x5_1) ∧ Aside0 (wc.heap[gb124]? = some (.cells #[.int .i64 a1_0, (.slice A1_1 l1_1.length c1_1)] 61 (0, 0))) ∧ Aside0 (Below w.heap.size w wc))
    case first =>
     have H := HC7.out
     clear HC7
     by_cases c8 : x6_1 = true
     ·
      subst c8
      have H1 : (spec_l5With.j1 k1 l0 x5_1 true x7_1 false a1_0 l1_1) = some r := by rw [if_pos rfl] at H; exact H
      clear H
      have H := H1
      clear H1
      have H' := Aside0.mk H
      clear H
      try go_wp2
      replace HO_0 := Aside0.mk (Kd.V_drew HO_0.out)
      replace HO_5 := Aside0.mk (Kd.N_drew HO_5.out)
      replace BK124 := Aside0.mk (blk_drew BK124.out)
      replace HB := Aside0.mk (below_drew1 HB.out)
      refine start_ (n := 12) (S := fun w' => True) (ds := []) #[false, false, false, false, false, false, false, false, false, false, false, false] (by kernel_rfl) rfl rfl trivial (fun hHeld => ?_); refine with_tabW spec_l5With.tab6 spec_l5With.bits6 (fun HT_ HW_ => ?_)
      generalize wr.drew = w9 at HO_0 HO_5 BK124 HB hHeld ⊢
      refine Rgn.pu HT_.out 0 15 ?_
      refine Rgn.pu HT_.out 1 16 ?_
      refine Rgn.pu HT_.out 2 17 ?_
      refine Rgn.pn HT_.out 3 18 ?_
      refine Rgn.pn HT_.out 4 19 ?_
      refine Rgn.pn HT_.out 5 20 ?_
      refine Rgn.pn HT_.out 6 21 ?_
      refine Rgn.pn HT_.out 7 22 ?_
      refine Rgn.pn HT_.out 8 23 ?_
      refine Rgn.pn HT_.out 9 24 ?_
      refine Rgn.pn HT_.out 10 25 ?_
      refine Rgn.pu HT_.out 11 26 ?_
      refine done_ (done_of HT_.out (by kernel_rfl)) ?_
      try go_wp2
      go_meet
      case rel => exact ⟨_, (false), (by first | rfl | (simp; done) | (simp [*]; done)), H', ⟨by have := HK1.out; first | omega | exact Nat.le_refl _⟩, ⟨by (with_reducible repeat (first | apply Kd.V_alloc | apply Kd.V_drewN | apply Kd.V_drew)); exact HO_0.out⟩, ⟨by (with_reducible repeat (first | apply Kd.N_alloc | apply Kd.N_drewN | apply Kd.N_drew)); exact HO_5.out⟩, ⟨Rgn.kb BK124.out⟩, ⟨Rgn.bq HB.out⟩⟩
     ·
      replace c8 := Bool.eq_false_iff.mpr c8
      subst c8
      have H1 : (if 0 ≤ x7_1 then (spec_l5With.j1 k1 l0 x5_1 false x7_1 (decide (((rd_T61 l0 x7_1).f0) ≥ a1_0)) a1_0 l1_1) else (none)) = some r := by rw [if_neg (show ¬ (false = true) by decide)] at H; exact H
      clear H
      have H := H1
      clear H1
      by_cases c10 : 0 ≤ x7_1
      ·
       rw [if_pos c10] at H
       have c10b0 : decide (0 ≤ x7_1) = true := decide_eq_true c10
       clear c10
       (first | rw [c10b0] | (simp only [i64_w, i32_w]; rw [c10b0]) | skip)
       have H' := Aside0.mk H
       clear H
       try go_wp2
       replace HO_0 := Aside0.mk (Kd.V_drew HO_0.out)
       replace HO_5 := Aside0.mk (Kd.N_drew HO_5.out)
       replace BK124 := Aside0.mk (blk_drew BK124.out)
       replace HB := Aside0.mk (below_drew1 HB.out)
       have p134 : 0 ≤ (x7_1 : Int) := of_decide_eq_true (by first | (with_reducible assumption) | assumption)
       have q134 : x7_1 < (l0.length : Int) := of_decide_eq_true (by first | (with_reducible assumption) | assumption)
       obtain ⟨ad134, A134_1, c134_1, e134, hx134_0, hx134_1, hl134_1, hi134_1⟩ := at_T61 (Kd.V_reads' HO_0.out).2.2 x7_1 p134 q134
       cases e134
       obtain ⟨ce134, hce134, hMe134, hcc134⟩ := Kd.V_get HO_0.out z61 x7_1 p134 (by first | exact q134 | exact of_decide_eq_true (by first | (with_reducible assumption) | assumption) | (have e_ := (Kd.V_reads' HO_0.out).1; omega))
       obtain ⟨ua134_1, uc134_1, rfl, ul134_1, ge134_1⟩ := k61_openF hMe134
       have hv134_1 := hcc134 1 _ rfl
       rw [add_field _ _ 1 (by omega)] at hv134_1
       replace hv134_1 := Option.some.inj (hv134_1.symm.trans hx134_1)
       injection hv134_1 with hva_ hvn_ hvc_
       rw [hva_] at ge134_1
       rw [hvc_] at ul134_1
       have HL134_1 := Aside0.mk (show Kd.V (Kd.int .u8) 5 _ w.heap.size _ _ ((rd_T61 l0 x7_1).f1) from Kd.V_mk ul134_1 ge134_1)
       clear hva_ hvn_ hvc_ ge134_1 ul134_1
       clear hcc134 hce134
       have HR134_1 := Aside0.mk hi134_1
       have HC134_1 := Aside0.mk hl134_1
       clear hi134_1 hl134_1
       replace p134 := eq_true p134
       replace q134 := eq_true q134
       refine start_ (n := 12) (S := fun w' => w'.cell? ⟨gb124, 0, none⟩ = some (.int .i64 a1_0) ∧ w'.cell? ⟨gb124, 1, none⟩ = some (.slice A1_1 l1_1.length c1_1) ∧ w'.cell? (ad134.add ((x7_1).toNat * 2)) = some (.int .i64 ((rd_T61 l0 x7_1).f0)) ∧ w'.cell? ⟨(ad134.add ((x7_1).toNat * 2)).block, (ad134.add ((x7_1).toNat * 2)).off + 1, none⟩ = some (.slice A134_1 ((rd_T61 l0 x7_1).f1).length c134_1)) (ds := []) #[false, false, false, false, false, false, false, false, false, false, false, false] (by kernel_rfl) rfl rfl ⟨(blk_cell BK124.out 0).trans rfl, (blk_cell BK124.out 1).trans rfl, hx134_0, hx134_1⟩ (fun hHeld => ?_); refine with_tabW spec_l5With.tab6 spec_l5With.bits6 (fun HT_ HW_ => ?_)
       generalize wr.drew = w11 at HO_0 HO_5 BK124 HB HL134_1 HR134_1 hx134_0 hx134_1 hHeld ⊢
       refine Rgn.pu HT_.out 0 15 ?_
       refine Rgn.pu HT_.out 1 16 ?_
       refine Rgn.pu HT_.out 2 17 ?_
       refine Rgn.pu HT_.out 3 18 ?_
       refine Rgn.pu HT_.out 4 19 ?_
       refine Rgn.pu HT_.out 5 20 ?_
       refine Rgn.pu HT_.out 6 21 ?_
       refine Rgn.pu HT_.out 8 23 ?_
       refine Rgn.tk HT_.out HW_.out 7 22 hHeld ?_
       refine Rgn.tk HT_.out HW_.out 9 24 hHeld ?_
       refine Rgn.pu HT_.out 10 25 ?_
       refine Rgn.pu HT_.out 11 26 ?_
       refine done_ (done_of HT_.out (by kernel_rfl)) ?_
       try go_wp2
       go_meet
       case rel => exact ⟨_, (decide (((rd_T61 l0 x7_1).f0) ≥ a1_0)), (by first | rfl | (simp; done) | (simp [*]; done)), H', ⟨by have := HK1.out; first | omega | exact Nat.le_refl _⟩, ⟨by (with_reducible repeat (first | apply Kd.V_alloc | apply Kd.V_drewN | apply Kd.V_drew)); exact HO_0.out⟩, ⟨by (with_reducible repeat (first | apply Kd.N_alloc | apply Kd.N_drewN | apply Kd.N_drew)); exact HO_5.out⟩, ⟨Rgn.kb BK124.out⟩, ⟨Rgn.bq HB.out⟩⟩
      ·
       rw [if_neg c10] at H
       exact absurd H (by simp)
    case rest =>
     clear HC7
     try clear c1
     try clear p1
     try clear q1
     try clear hx1
     try clear p2
     try clear c3
     try clear c6
     try clear c6b0
     try clear c8
     try clear c10
     try clear c10b0
     try clear hx134_0
     try clear hx134_1
     try clear p134
     try clear p2
     try clear q134
     obtain ⟨kq, x26_6, rfl, HA, HJ6, HO_0, HO_5, BK124, HB⟩ := hcut
     cases kq with
     | zero => exact absurd HA.out (by simp [spec_l5With.j1])
     | succ kj6 =>
      have H := HA.out
      clear HA
      simp only [spec_l5With.j1] at H
      by_cases c12 : x26_6 = true
      ·
       subst c12
       have H1 : ((spec_l1Copy.f l1_1).bind fun t135 => (if x5_1.length < 4398046511104 then ((some (x5_1 ++ [(⟨a1_0, t135⟩ : S61)] : List (S61))).bind fun y138 => (if 0 ≤ x7_1 then (if x7_1 < (l0.length : Int) then (if ((rd_T61 l0 x7_1).f0) = a1_0 then (spec_l5With.l0 kj6 l0 y138 true (wrap64 (x7_1 + 1)) a1_0 l1_1) else (if y138.length < 4398046511104 then (spec_l5With.l0 kj6 l0 (y138 ++ [(⟨(rd_T61 l0 x7_1).f0, (rd_T61 l0 x7_1).f1⟩ : S61)]) true (wrap64 (x7_1 + 1)) a1_0 l1_1) else (none))) else (none)) else (none))) else (none))) = some r := by rw [if_pos rfl] at H; exact H
       clear H
       have H := H1
       clear H1
       replace H := Option.bind_eq_some_iff.mp H
       obtain ⟨t135, A130, H⟩ := H
       replace H : (if x5_1.length < 4398046511104 then ((some (x5_1 ++ [(⟨a1_0, t135⟩ : S61)] : List (S61))).bind fun y138 => (if 0 ≤ x7_1 then (if x7_1 < (l0.length : Int) then (if ((rd_T61 l0 x7_1).f0) = a1_0 then (spec_l5With.l0 kj6 l0 y138 true (wrap64 (x7_1 + 1)) a1_0 l1_1) else (if y138.length < 4398046511104 then (spec_l5With.l0 kj6 l0 (y138 ++ [(⟨(rd_T61 l0 x7_1).f0, (rd_T61 l0 x7_1).f1⟩ : S61)]) true (wrap64 (x7_1 + 1)) a1_0 l1_1) else (none))) else (none)) else (none))) else (none)) = some r := H
       have A13 := Aside0.mk A130
       clear A130
       by_cases c14 : x5_1.length < 4398046511104
       ·
        rw [if_pos c14] at H
        have LMc14 := Aside0.mk c14
        clear c14
        obtain ⟨y138, hy138⟩ : ∃ y_ : List (S61), y_ = (x5_1 ++ [(⟨a1_0, t135⟩ : S61)]) := ⟨_, rfl⟩
        replace H : (if 0 ≤ x7_1 then (if x7_1 < (l0.length : Int) then (if ((rd_T61 l0 x7_1).f0) = a1_0 then (spec_l5With.l0 kj6 l0 y138 true (wrap64 (x7_1 + 1)) a1_0 l1_1) else (if y138.length < 4398046511104 then (spec_l5With.l0 kj6 l0 (y138 ++ [(⟨(rd_T61 l0 x7_1).f0, (rd_T61 l0 x7_1).f1⟩ : S61)]) true (wrap64 (x7_1 + 1)) a1_0 l1_1) else (none))) else (none)) else (none)) = some r := by first | (rw [hy138]; with_reducible exact H) | (have H2_ := (Option.bind_some _ _).symm.trans H; rw [hy138]; with_reducible exact H2_) | (have H2_ := (Option.bind_some _ _).symm.trans H; with_reducible exact H2_) | with_reducible exact H | (rw [hy138]; exact H) | exact H
        have Ny138 := Aside0.mk hy138
        clear hy138
        by_cases c15 : 0 ≤ x7_1
        ·
         rw [if_pos c15] at H
         have c15b0 : decide (0 ≤ x7_1) = true := decide_eq_true c15
         clear c15
         by_cases c16 : x7_1 < (l0.length : Int)
         ·
          rw [if_pos c16] at H
          have c16b0 : decide (x7_1 < (l0.length : Int)) = true := decide_eq_true c16
          clear c16
          by_cases c17 : ((rd_T61 l0 x7_1).f0) = a1_0
          ·
           rw [if_pos c17] at H
           have c17b0 : (((rd_T61 l0 x7_1).f0) == a1_0) = true := beq_iff_eq.mpr c17
           have c17b1 : (((rd_T61 l0 x7_1).f0) != a1_0) = false := bne_eq_false_iff_eq.mpr c17
           clear c17
           have H' := Aside0.mk H
           clear H
           try go_wp2
           replace HO_0 := Aside0.mk (Kd.V_drew HO_0.out)
           replace HO_5 := Aside0.mk (Kd.N_drew HO_5.out)
           replace BK124 := Aside0.mk (blk_drew BK124.out)
           replace HB := Aside0.mk (below_drew1 HB.out)
           refine start_ (n := 10) (S := fun w' => w'.cell? ⟨gb124, 0, none⟩ = some (.int .i64 a1_0) ∧ w'.cell? ⟨gb124, 1, none⟩ = some (.slice A1_1 l1_1.length c1_1)) (ds := []) #[false, false, false, false, false, false, false, false, false, false] (by kernel_rfl) rfl rfl ⟨(blk_cell BK124.out 0).trans rfl, (blk_cell BK124.out 1).trans rfl⟩ (fun hHeld => ?_); refine with_tabW spec_l5With.tab7 spec_l5With.bits7 (fun HT_ HW_ => ?_)
           generalize wc.drew = w18 at HO_0 HO_5 BK124 HB hHeld ⊢
           refine Rgn.pu HT_.out 0 27 ?_
           refine Rgn.pu HT_.out 1 28 ?_
           refine Rgn.pu HT_.out 3 30 ?_
           refine Rgn.tk HT_.out HW_.out 2 29 hHeld ?_
           refine Rgn.tk HT_.out HW_.out 4 31 hHeld ?_
           refine one_ (i := 5) (N := some 32) #[true, true, true, true, true, true, false, false, false, false] rfl rfl (one_of HT_.out (by kernel_rfl)) (by decide) (fun K hK => ?_)
           refine Rgn.gs Try.func47 #[.slice A1_1 l1_1.length c1_1] ?_
           with_reducible refine (spec_l1Copy.calls _ _ l1_1 t135 _ ?side1 ?side2 A13.out).mono ?_
           (case side1 => exact Rgn.cq (Kd.C_below HR1_1.out HB.out))
           (case side2 => exact HC1_1.out)
           rintro e w19 ⟨v136, rfl, ho0, hb⟩
           refine ⟨_, rfl, ?_⟩
           replace HO_0 := Aside0.mk (Kd.V_elder' (by (with_reducible repeat (first | apply Kd.V_alloc | apply Kd.V_drewN | apply Kd.V_drew)); exact HO_0.out) (Kd.R_base ho0) hb)
           replace HO_5 := Aside0.mk (Kd.N_elder' (Rgn.nq HO_5.out) (Kd.R_base ho0) hb)
           have HO137 := Aside0.mk (Kd.R_lower (Kd.R_newM (M := fun k_ => (w.heap.size ≤ k_)) ho0 (below_size (Rgn.bq HB.out)) (fun k_ h_ => h_)) (below_size (Rgn.bq HB.out)))
           replace BK124 := Aside0.mk (Rgn.bb BK124.out hb)
           replace HB := Aside0.mk (below_step (Rgn.bq HB.out) hb)
           (try clear hb)
           skip
           skip
           skip
           (try clear ho0)
           obtain ⟨Ao20, co20, eo20⟩ := Kd.R_slice HO137.out
           (first | subst eo20 | (injection eo20 with f1_ f2_ f3_; have f4_ := f1_.symm; have f5_ := f3_.symm; clear f1_ f2_ f3_; subst f4_; subst f5_))
           refine hK.out _ _ ⟨(blk_cell BK124.out 0).trans rfl, (blk_cell BK124.out 1).trans rfl⟩ (fun hHeld => ?_)
           clear hK K
           refine norm_ (a' := ?_) ?_ ?_
           rotate_left
           ·
            show Act.put _ (some 32) _ = _
            simp only [Act.put, List.setIfInBounds_toArray, List.set_cons_zero, List.set_cons_succ, i64_w, i32_w]
            rfl
           refine Rgn.pu HT_.out 6 33 ?_
           refine one_ (i := 7) (N := some 34) #[true, true, true, true, true, true, true, true, false, false] rfl rfl (one_of HT_.out (by kernel_rfl)) (by decide) (fun K hK => ?_)
           refine value_ (w1 := ?_) (v := ?_) (by rfl) rfl ?_ ?_
           rotate_left 2
           ·
            go_simp
            constructor
            ·
             rfl
            ·
             rfl
           refine hK.out _ _ ⟨(blk_cell (blk_alloc BK124.out _) 0).trans rfl, (blk_cell (blk_alloc BK124.out _) 1).trans rfl⟩ (fun hHeld => ?_)
           clear hK K
           refine norm_ (a' := ?_) ?_ ?_
           rotate_left
           ·
            show Act.put _ (some 34) _ = _
            simp only [Act.put, List.setIfInBounds_toArray, List.set_cons_zero, List.set_cons_succ, i64_w, i32_w]
            rfl
           refine one_ (i := 8) (N := some 35) #[true, true, true, true, true, true, true, true, true, false] rfl rfl (one_of HT_.out (by kernel_rfl)) (by decide) (fun K hK => ?_)
           refine Kd.N_append_step k61 (w0 := w) w.heap.size (by rfl) (.tmp 27) (.tmp 34) 32 61 (.agg #[(.int .i64 0), (.slice none 0 0)]) 32 rfl Try.underlying32 info61 rfl (by decide) (by omega) u5 x5_1 (⟨a1_0, t135⟩ : S61) [.int .i64 a1_0, .slice Ao20 t135.length co20] (fun k_ => (P0_ k_ ∨ w.heap.size ≤ k_) ∧ k_ ≠ gb124) (fun k_ => ((fun k_ => (P0_ k_ ∨ w.heap.size ≤ k_) ∧ k_ ≠ gb124)) k_ ∧ some k_ ≠ (u5 : Value).ownBlock) rfl rfl ?aP (fun _ hk => hk) ?aF ?aO ?aB ?aS ?aL ?_
           (case aP => exact (k61_mkF _ _ (⟨a1_0, t135⟩ : S61) (Kd.R_reads' (Kd.R_mono (ok' := (fun k_ => ((fun k_ => (P0_ k_ ∨ w.heap.size ≤ k_) ∧ k_ ≠ gb124)) k_ ∧ some k_ ≠ (u5 : Value).ownBlock)) (Kd.R_types (Kd.R_apart' (HO137.out) (Kd.N_typed HO_5.out) (by decide)) BK124.out (by decide)) (fun k_ hk => ⟨⟨(.inr (hk.1.1.1)), hk.2⟩, hk.1.2⟩))).2.1 (Kd.R_F (Kd.R_mono (ok' := (fun k_ => ((fun k_ => (P0_ k_ ∨ w.heap.size ≤ k_) ∧ k_ ≠ gb124)) k_ ∧ some k_ ≠ (u5 : Value).ownBlock)) (Kd.R_types (Kd.R_apart' (HO137.out) (Kd.N_typed HO_5.out) (by decide)) BK124.out (by decide)) (fun k_ hk => ⟨⟨(.inr (hk.1.1.1)), hk.2⟩, hk.1.2⟩)))))
           (case aB => exact (Rgn.bq HB.out))
           (case aF => exact (fun k_ hk => ⟨(.inr (Nat.le_trans (below_size (Rgn.bq HB.out)) hk)), Kd.freshB (g := gb124) (o := .cells #[.int .i64 a1_0, .slice A1_1 l1_1.length c1_1] 61 (0, 0)) (Rgn.kb BK124.out) k_ hk⟩))
           (case aO => exact (Rgn.nq (Kd.N_mono HO_5.out (fun _ hk => ⟨hk.1.1, hk.1.2⟩))))
           (case aS => exact (below_size (Rgn.bq HB.out)))
           (case aL => have := LMc14.out; omega)
           intro v139 w21 ho hb hg hat
           rw [← Ny138.out] at ho
           replace HO_0 := Aside0.mk (Kd.V_afterv (ok := (fun k_ => (P0_ k_ ∨ w.heap.size ≤ k_) ∧ some k_ ≠ (.slice Ao20 t135.length co20 : Value).ownBlock ∧ k_ ≠ gb124)) (by (with_reducible repeat (first | apply Kd.V_alloc | apply Kd.V_drewN | apply Kd.V_drew)); exact Kd.V_mono HO_0.out (fun _ hk => ⟨⟨hk.1.1, ⟨hk.2, hk.1.2.2⟩⟩, hk.1.2.1⟩)) hg hat)
           replace BK124 := Aside0.mk (Rgn.bg BK124.out hg (Kd.N_away HO_5.out (fun _ hk => hk.1.2)))
           replace HB := Aside0.mk (hb)
           have HO140 := Aside0.mk (ho)
           clear HO137 HO_5
           clear ho hb hg hat
           refine hK.out _ _ ⟨(blk_cell BK124.out 0).trans rfl, (blk_cell BK124.out 1).trans rfl⟩ (fun hHeld => ?_)
           clear hK K
           refine norm_ (a' := ?_) ?_ ?_
           rotate_left
           ·
            show Act.put _ (some 35) _ = _
            simp only [Act.put, List.setIfInBounds_toArray, List.set_cons_zero, List.set_cons_succ, i64_w, i32_w]
            rfl
           refine Rgn.pu HT_.out 9 5 ?_
           refine done_ (done_of HT_.out (by kernel_rfl)) ?_
           try go_wp2
           replace HO_0 := Aside0.mk (Kd.V_drew HO_0.out)
           replace HO140 := Aside0.mk (Kd.N_drew HO140.out)
           replace BK124 := Aside0.mk (blk_drew BK124.out)
           replace HB := Aside0.mk (below_drew1 HB.out)
           have p141 : 0 ≤ (x7_1 : Int) := of_decide_eq_true (by first | (with_reducible assumption) | assumption)
           have q141 : x7_1 < (l0.length : Int) := of_decide_eq_true (by first | (with_reducible assumption) | assumption)
           obtain ⟨ad141, A141_1, c141_1, e141, hx141_0, hx141_1, hl141_1, hi141_1⟩ := at_T61 (Kd.V_reads' HO_0.out).2.2 x7_1 p141 q141
           cases e141
           obtain ⟨ce141, hce141, hMe141, hcc141⟩ := Kd.V_get HO_0.out z61 x7_1 p141 (by first | exact q141 | exact of_decide_eq_true (by first | (with_reducible assumption) | assumption) | (have e_ := (Kd.V_reads' HO_0.out).1; omega))
           obtain ⟨ua141_1, uc141_1, rfl, ul141_1, ge141_1⟩ := k61_openF hMe141
           have hv141_1 := hcc141 1 _ rfl
           rw [add_field _ _ 1 (by omega)] at hv141_1
           replace hv141_1 := Option.some.inj (hv141_1.symm.trans hx141_1)
           injection hv141_1 with hva_ hvn_ hvc_
           rw [hva_] at ge141_1
           rw [hvc_] at ul141_1
           have HL141_1 := Aside0.mk (show Kd.V (Kd.int .u8) 5 _ w.heap.size _ _ ((rd_T61 l0 x7_1).f1) from Kd.V_mk ul141_1 ge141_1)
           clear hva_ hvn_ hvc_ ge141_1 ul141_1
           clear hcc141 hce141
           have HR141_1 := Aside0.mk hi141_1
           have HC141_1 := Aside0.mk hl141_1
           clear hi141_1 hl141_1
           replace p141 := eq_true p141
           replace q141 := eq_true q141
           refine start_ (n := 8) (S := fun w' => w'.cell? ⟨gb124, 0, none⟩ = some (.int .i64 a1_0) ∧ w'.cell? ⟨gb124, 1, none⟩ = some (.slice A1_1 l1_1.length c1_1) ∧ w'.cell? (ad141.add ((x7_1).toNat * 2)) = some (.int .i64 ((rd_T61 l0 x7_1).f0)) ∧ w'.cell? ⟨(ad141.add ((x7_1).toNat * 2)).block, (ad141.add ((x7_1).toNat * 2)).off + 1, none⟩ = some (.slice A141_1 ((rd_T61 l0 x7_1).f1).length c141_1)) (ds := []) #[false, false, false, false, false, false, false, false] (by kernel_rfl) rfl rfl ⟨(blk_cell BK124.out 0).trans rfl, (blk_cell BK124.out 1).trans rfl, hx141_0, hx141_1⟩ (fun hHeld => ?_); refine with_tabW spec_l5With.tab9 spec_l5With.bits9 (fun HT_ HW_ => ?_)
           generalize w21.drew = w22 at HO_0 HO140 BK124 HB HL141_1 HR141_1 hx141_0 hx141_1 hHeld ⊢
           refine Rgn.pu HT_.out 0 36 ?_
           refine Rgn.pu HT_.out 1 37 ?_
           refine Rgn.pu HT_.out 2 38 ?_
           refine Rgn.pu HT_.out 3 39 ?_
           refine Rgn.pu HT_.out 5 41 ?_
           refine Rgn.tk HT_.out HW_.out 4 40 hHeld ?_
           refine Rgn.tk HT_.out HW_.out 6 42 hHeld ?_
           refine Rgn.pu HT_.out 7 43 ?_
           refine done_ (done_of HT_.out (by kernel_rfl)) ?_
           try go_wp2
           go_roundg kj6
           case measure => have := HK1.out; have := HJ6.out; omega
           case rel => exact ⟨(y138), (true), (wrap64 (x7_1 + 1)), (by first | rfl | (simp; done) | (simp [*]; done)), (by first | rfl | (simp; done) | (simp [*]; done)), H', ⟨by have := HK1.out; have := HJ6.out; omega⟩, ⟨by (with_reducible repeat (first | apply Kd.V_alloc | apply Kd.V_drewN | apply Kd.V_drew)); exact Kd.V_mono HO_0.out (fun _ hk => ⟨hk.1.1, ⟨hk.2, hk.1.2.2⟩⟩)⟩, ⟨by (with_reducible repeat (first | apply Kd.N_alloc | apply Kd.N_drewN | apply Kd.N_drew)); exact HO140.out⟩, ⟨Rgn.kb BK124.out⟩, ⟨Rgn.bq HB.out⟩⟩
          ·
           rw [if_neg c17] at H
           have c17b0 : (((rd_T61 l0 x7_1).f0) == a1_0) = false := beq_eq_false_iff_ne.mpr c17
           have c17b1 : (((rd_T61 l0 x7_1).f0) != a1_0) = true := bne_iff_ne.mpr c17
           by_cases c23 : y138.length < 4398046511104
           ·
            rw [if_pos c23] at H
            have LMc23 := Aside0.mk c23
            clear c23
            obtain ⟨y143, hy143⟩ : ∃ y_ : List (S61), y_ = (y138 ++ [(⟨(rd_T61 l0 x7_1).f0, (rd_T61 l0 x7_1).f1⟩ : S61)]) := ⟨_, rfl⟩
            replace H : (spec_l5With.l0 kj6 l0 y143 true (wrap64 (x7_1 + 1)) a1_0 l1_1) = some r := by first | (rw [hy143]; with_reducible exact H) | (have H2_ := (Option.bind_some _ _).symm.trans H; rw [hy143]; with_reducible exact H2_) | (have H2_ := (Option.bind_some _ _).symm.trans H; with_reducible exact H2_) | with_reducible exact H | (rw [hy143]; exact H) | exact H
            have Ny143 := Aside0.mk hy143
            clear hy143
            have H' := Aside0.mk H
            clear H
            try go_wp2
            replace HO_0 := Aside0.mk (Kd.V_drew HO_0.out)
            replace HO_5 := Aside0.mk (Kd.N_drew HO_5.out)
            replace BK124 := Aside0.mk (blk_drew BK124.out)
            replace HB := Aside0.mk (below_drew1 HB.out)
            refine start_ (n := 10) (S := fun w' => w'.cell? ⟨gb124, 0, none⟩ = some (.int .i64 a1_0) ∧ w'.cell? ⟨gb124, 1, none⟩ = some (.slice A1_1 l1_1.length c1_1)) (ds := []) #[false, false, false, false, false, false, false, false, false, false] (by kernel_rfl) rfl rfl ⟨(blk_cell BK124.out 0).trans rfl, (blk_cell BK124.out 1).trans rfl⟩ (fun hHeld => ?_); refine with_tabW spec_l5With.tab7 spec_l5With.bits7 (fun HT_ HW_ => ?_)
            generalize wc.drew = w24 at HO_0 HO_5 BK124 HB hHeld ⊢
            refine Rgn.pu HT_.out 0 27 ?_
            refine Rgn.pu HT_.out 1 28 ?_
            refine Rgn.pu HT_.out 3 30 ?_
            refine Rgn.tk HT_.out HW_.out 2 29 hHeld ?_
            refine Rgn.tk HT_.out HW_.out 4 31 hHeld ?_
            refine one_ (i := 5) (N := some 32) #[true, true, true, true, true, true, false, false, false, false] rfl rfl (one_of HT_.out (by kernel_rfl)) (by decide) (fun K hK => ?_)
            refine Rgn.gs Try.func47 #[.slice A1_1 l1_1.length c1_1] ?_
            with_reducible refine (spec_l1Copy.calls _ _ l1_1 t135 _ ?side1 ?side2 A13.out).mono ?_
            (case side1 => exact Rgn.cq (Kd.C_below HR1_1.out HB.out))
            (case side2 => exact HC1_1.out)
            rintro e w25 ⟨v136, rfl, ho0, hb⟩
            refine ⟨_, rfl, ?_⟩
            replace HO_0 := Aside0.mk (Kd.V_elder' (by (with_reducible repeat (first | apply Kd.V_alloc | apply Kd.V_drewN | apply Kd.V_drew)); exact HO_0.out) (Kd.R_base ho0) hb)
            replace HO_5 := Aside0.mk (Kd.N_elder' (Rgn.nq HO_5.out) (Kd.R_base ho0) hb)
            have HO137 := Aside0.mk (Kd.R_lower (Kd.R_newM (M := fun k_ => (w.heap.size ≤ k_)) ho0 (below_size (Rgn.bq HB.out)) (fun k_ h_ => h_)) (below_size (Rgn.bq HB.out)))
            replace BK124 := Aside0.mk (Rgn.bb BK124.out hb)
            replace HB := Aside0.mk (below_step (Rgn.bq HB.out) hb)
            (try clear hb)
            skip
            skip
            skip
            (try clear ho0)
            obtain ⟨Ao26, co26, eo26⟩ := Kd.R_slice HO137.out
            (first | subst eo26 | (injection eo26 with f1_ f2_ f3_; have f4_ := f1_.symm; have f5_ := f3_.symm; clear f1_ f2_ f3_; subst f4_; subst f5_))
            refine hK.out _ _ ⟨(blk_cell BK124.out 0).trans rfl, (blk_cell BK124.out 1).trans rfl⟩ (fun hHeld => ?_)
            clear hK K
            refine norm_ (a' := ?_) ?_ ?_
            rotate_left
            ·
             show Act.put _ (some 32) _ = _
             simp only [Act.put, List.setIfInBounds_toArray, List.set_cons_zero, List.set_cons_succ, i64_w, i32_w]
             rfl
            refine Rgn.pu HT_.out 6 33 ?_
            refine one_ (i := 7) (N := some 34) #[true, true, true, true, true, true, true, true, false, false] rfl rfl (one_of HT_.out (by kernel_rfl)) (by decide) (fun K hK => ?_)
            refine value_ (w1 := ?_) (v := ?_) (by rfl) rfl ?_ ?_
            rotate_left 2
            ·
             go_simp
             constructor
             ·
              rfl
             ·
              rfl
            refine hK.out _ _ ⟨(blk_cell (blk_alloc BK124.out _) 0).trans rfl, (blk_cell (blk_alloc BK124.out _) 1).trans rfl⟩ (fun hHeld => ?_)
            clear hK K
            refine norm_ (a' := ?_) ?_ ?_
            rotate_left
            ·
             show Act.put _ (some 34) _ = _
             simp only [Act.put, List.setIfInBounds_toArray, List.set_cons_zero, List.set_cons_succ, i64_w, i32_w]
             rfl
            refine one_ (i := 8) (N := some 35) #[true, true, true, true, true, true, true, true, true, false] rfl rfl (one_of HT_.out (by kernel_rfl)) (by decide) (fun K hK => ?_)
            refine Kd.N_append_step k61 (w0 := w) w.heap.size (by rfl) (.tmp 27) (.tmp 34) 32 61 (.agg #[(.int .i64 0), (.slice none 0 0)]) 32 rfl Try.underlying32 info61 rfl (by decide) (by omega) u5 x5_1 (⟨a1_0, t135⟩ : S61) [.int .i64 a1_0, .slice Ao26 t135.length co26] (fun k_ => (P0_ k_ ∨ w.heap.size ≤ k_) ∧ k_ ≠ gb124) (fun k_ => ((fun k_ => (P0_ k_ ∨ w.heap.size ≤ k_) ∧ k_ ≠ gb124)) k_ ∧ some k_ ≠ (u5 : Value).ownBlock) rfl rfl ?aP (fun _ hk => hk) ?aF ?aO ?aB ?aS ?aL ?_
            (case aP => exact (k61_mkF _ _ (⟨a1_0, t135⟩ : S61) (Kd.R_reads' (Kd.R_mono (ok' := (fun k_ => ((fun k_ => (P0_ k_ ∨ w.heap.size ≤ k_) ∧ k_ ≠ gb124)) k_ ∧ some k_ ≠ (u5 : Value).ownBlock)) (Kd.R_types (Kd.R_apart' (HO137.out) (Kd.N_typed HO_5.out) (by decide)) BK124.out (by decide)) (fun k_ hk => ⟨⟨(.inr (hk.1.1.1)), hk.2⟩, hk.1.2⟩))).2.1 (Kd.R_F (Kd.R_mono (ok' := (fun k_ => ((fun k_ => (P0_ k_ ∨ w.heap.size ≤ k_) ∧ k_ ≠ gb124)) k_ ∧ some k_ ≠ (u5 : Value).ownBlock)) (Kd.R_types (Kd.R_apart' (HO137.out) (Kd.N_typed HO_5.out) (by decide)) BK124.out (by decide)) (fun k_ hk => ⟨⟨(.inr (hk.1.1.1)), hk.2⟩, hk.1.2⟩)))))
            (case aB => exact (Rgn.bq HB.out))
            (case aF => exact (fun k_ hk => ⟨(.inr (Nat.le_trans (below_size (Rgn.bq HB.out)) hk)), Kd.freshB (g := gb124) (o := .cells #[.int .i64 a1_0, .slice A1_1 l1_1.length c1_1] 61 (0, 0)) (Rgn.kb BK124.out) k_ hk⟩))
            (case aO => exact (Rgn.nq (Kd.N_mono HO_5.out (fun _ hk => ⟨hk.1.1, hk.1.2⟩))))
            (case aS => exact (below_size (Rgn.bq HB.out)))
            (case aL => have := LMc14.out; omega)
            intro v139 w27 ho hb hg hat
            rw [← Ny138.out] at ho
            replace HO_0 := Aside0.mk (Kd.V_afterv (ok := (fun k_ => (P0_ k_ ∨ w.heap.size ≤ k_) ∧ some k_ ≠ (.slice Ao26 t135.length co26 : Value).ownBlock ∧ k_ ≠ gb124)) (by (with_reducible repeat (first | apply Kd.V_alloc | apply Kd.V_drewN | apply Kd.V_drew)); exact Kd.V_mono HO_0.out (fun _ hk => ⟨⟨hk.1.1, ⟨hk.2, hk.1.2.2⟩⟩, hk.1.2.1⟩)) hg hat)
            replace BK124 := Aside0.mk (Rgn.bg BK124.out hg (Kd.N_away HO_5.out (fun _ hk => hk.1.2)))
            replace HB := Aside0.mk (hb)
            have HO140 := Aside0.mk (ho)
            clear HO137 HO_5
            clear ho hb hg hat
            refine hK.out _ _ ⟨(blk_cell BK124.out 0).trans rfl, (blk_cell BK124.out 1).trans rfl⟩ (fun hHeld => ?_)
            clear hK K
            refine norm_ (a' := ?_) ?_ ?_
            rotate_left
            ·
             show Act.put _ (some 35) _ = _
             simp only [Act.put, List.setIfInBounds_toArray, List.set_cons_zero, List.set_cons_succ, i64_w, i32_w]
             rfl
            refine Rgn.pu HT_.out 9 5 ?_
            refine done_ (done_of HT_.out (by kernel_rfl)) ?_
            try go_wp2
            replace HO_0 := Aside0.mk (Kd.V_drew HO_0.out)
            replace HO140 := Aside0.mk (Kd.N_drew HO140.out)
            replace BK124 := Aside0.mk (blk_drew BK124.out)
            replace HB := Aside0.mk (below_drew1 HB.out)
            have p141 : 0 ≤ (x7_1 : Int) := of_decide_eq_true (by first | (with_reducible assumption) | assumption)
            have q141 : x7_1 < (l0.length : Int) := of_decide_eq_true (by first | (with_reducible assumption) | assumption)
            obtain ⟨ad141, A141_1, c141_1, e141, hx141_0, hx141_1, hl141_1, hi141_1⟩ := at_T61 (Kd.V_reads' HO_0.out).2.2 x7_1 p141 q141
            cases e141
            obtain ⟨ce141, hce141, hMe141, hcc141⟩ := Kd.V_get HO_0.out z61 x7_1 p141 (by first | exact q141 | exact of_decide_eq_true (by first | (with_reducible assumption) | assumption) | (have e_ := (Kd.V_reads' HO_0.out).1; omega))
            obtain ⟨ua141_1, uc141_1, rfl, ul141_1, ge141_1⟩ := k61_openF hMe141
            have hv141_1 := hcc141 1 _ rfl
            rw [add_field _ _ 1 (by omega)] at hv141_1
            replace hv141_1 := Option.some.inj (hv141_1.symm.trans hx141_1)
            injection hv141_1 with hva_ hvn_ hvc_
            rw [hva_] at ge141_1
            rw [hvc_] at ul141_1
            have HL141_1 := Aside0.mk (show Kd.V (Kd.int .u8) 5 _ w.heap.size _ _ ((rd_T61 l0 x7_1).f1) from Kd.V_mk ul141_1 ge141_1)
            clear hva_ hvn_ hvc_ ge141_1 ul141_1
            clear hcc141 hce141
            have HR141_1 := Aside0.mk hi141_1
            have HC141_1 := Aside0.mk hl141_1
            clear hi141_1 hl141_1
            replace p141 := eq_true p141
            replace q141 := eq_true q141
            refine start_ (n := 8) (S := fun w' => w'.cell? ⟨gb124, 0, none⟩ = some (.int .i64 a1_0) ∧ w'.cell? ⟨gb124, 1, none⟩ = some (.slice A1_1 l1_1.length c1_1) ∧ w'.cell? (ad141.add ((x7_1).toNat * 2)) = some (.int .i64 ((rd_T61 l0 x7_1).f0)) ∧ w'.cell? ⟨(ad141.add ((x7_1).toNat * 2)).block, (ad141.add ((x7_1).toNat * 2)).off + 1, none⟩ = some (.slice A141_1 ((rd_T61 l0 x7_1).f1).length c141_1)) (ds := []) #[false, false, false, false, false, false, false, false] (by kernel_rfl) rfl rfl ⟨(blk_cell BK124.out 0).trans rfl, (blk_cell BK124.out 1).trans rfl, hx141_0, hx141_1⟩ (fun hHeld => ?_); refine with_tabW spec_l5With.tab9 spec_l5With.bits9 (fun HT_ HW_ => ?_)
            generalize w27.drew = w28 at HO_0 HO140 BK124 HB HL141_1 HR141_1 hx141_0 hx141_1 hHeld ⊢
            refine Rgn.pu HT_.out 0 36 ?_
            refine Rgn.pu HT_.out 1 37 ?_
            refine Rgn.pu HT_.out 2 38 ?_
            refine Rgn.pu HT_.out 3 39 ?_
            refine Rgn.pu HT_.out 5 41 ?_
            refine Rgn.tk HT_.out HW_.out 4 40 hHeld ?_
            refine Rgn.tk HT_.out HW_.out 6 42 hHeld ?_
            refine Rgn.pu HT_.out 7 43 ?_
            refine done_ (done_of HT_.out (by kernel_rfl)) ?_
            have p142 : 0 ≤ (x7_1 : Int) := of_decide_eq_true (by first | (with_reducible assumption) | assumption)
            have q142 : x7_1 < (l0.length : Int) := of_decide_eq_true (by first | (with_reducible assumption) | assumption)
            obtain ⟨ad142, A142_1, c142_1, e142, hx142_0, hx142_1, hl142_1, hi142_1⟩ := at_T61 (Kd.V_reads' HO_0.out).2.2 x7_1 p142 q142
            obtain rfl : ad141 = ad142 := (by injection e142)
            obtain ⟨ce142, hce142, hMe142, hcc142⟩ := Kd.V_get HO_0.out z61 x7_1 p142 (by first | exact q142 | exact of_decide_eq_true (by first | (with_reducible assumption) | assumption) | (have e_ := (Kd.V_reads' HO_0.out).1; omega))
            obtain ⟨ua142_1, uc142_1, rfl, ul142_1, ge142_1⟩ := k61_openF hMe142
            have hv142_1 := hcc142 1 _ rfl
            rw [add_field _ _ 1 (by omega)] at hv142_1
            replace hv142_1 := Option.some.inj (hv142_1.symm.trans hx142_1)
            injection hv142_1 with hva_ hvn_ hvc_
            rw [hva_] at ge142_1
            rw [hvc_] at ul142_1
            have HL142_1 := Aside0.mk (show Kd.V (Kd.int .u8) 5 _ w.heap.size _ _ ((rd_T61 l0 x7_1).f1) from Kd.V_mk ul142_1 ge142_1)
            clear hva_ hvn_ hvc_ ge142_1 ul142_1
            clear hcc142 hce142
            have HR142_1 := Aside0.mk hi142_1
            have HC142_1 := Aside0.mk hl142_1
            clear hi142_1 hl142_1
            replace p142 := eq_true p142
            replace q142 := eq_true q142
            have ea_ := Option.some.inj (hx141_1.symm.trans hx142_1)
            injection ea_ with ea_ en_ ec_
            subst ea_
            subst ec_
            clear en_
            try go_wp2_with (first | ((with_reducible refine gate_builtin (b := .append) (xs := #[.tmp 44, .tmp 49]) rfl ?_); at_builtin; refine Kd.N_append k61 (w0 := w) w.heap.size rfl (.tmp 44) (.tmp 49) 32 61 (.agg #[(.int .i64 0), (.slice none 0 0)]) 32 rfl Try.underlying32 info61 rfl (by decide) (by omega) v139 y138 (⟨(rd_T61 l0 x7_1).f0, (rd_T61 l0 x7_1).f1⟩ : S61) [.int .i64 ((rd_T61 l0 x7_1).f0), .slice A141_1 ((rd_T61 l0 x7_1).f1).length c141_1] (fun k_ => (P0_ k_ ∨ w.heap.size ≤ k_) ∧ k_ ≠ gb124) (fun k_ => ((fun k_ => (P0_ k_ ∨ w.heap.size ≤ k_) ∧ k_ ≠ gb124)) k_ ∧ some k_ ≠ (v139 : Value).ownBlock) rfl rfl ?aP (fun _ hk => hk) ?aF ?aO ?aB ?aS ?aL ?_; (case aP => exact (k61_mkF _ _ (⟨(rd_T61 l0 x7_1).f0, (rd_T61 l0 x7_1).f1⟩ : S61) (Kd.V_reads' (Kd.V_mono (ok' := (fun k_ => ((fun k_ => (P0_ k_ ∨ w.heap.size ≤ k_) ∧ k_ ≠ gb124)) k_ ∧ some k_ ≠ (v139 : Value).ownBlock)) (HL142_1.out) (fun k_ hk => ⟨⟨hk.1.1, hk.1.2.2⟩, hk.2⟩))).2.1 (Kd.V_F (Kd.V_mono (ok' := (fun k_ => ((fun k_ => (P0_ k_ ∨ w.heap.size ≤ k_) ∧ k_ ≠ gb124)) k_ ∧ some k_ ≠ (v139 : Value).ownBlock)) (HL142_1.out) (fun k_ hk => ⟨⟨hk.1.1, hk.1.2.2⟩, hk.2⟩))))); (case aB => exact (Rgn.bq HB.out)); (case aF => exact (fun k_ hk => ⟨(.inr (Nat.le_trans (below_size (Rgn.bq HB.out)) hk)), Kd.freshB (g := gb124) (o := .cells #[.int .i64 a1_0, .slice A1_1 l1_1.length c1_1] 61 (0, 0)) (Rgn.kb BK124.out) k_ hk⟩)); (case aO => exact (Rgn.nq HO140.out)); (case aS => exact (below_size (Rgn.bq HB.out))); (case aL => have := LMc23.out; omega); intro v144 w29 ho hb hg hat; rw [← Ny143.out] at ho; replace HO_0 := Aside0.mk (Kd.V_afterv (ok := (fun k_ => (P0_ k_ ∨ w.heap.size ≤ k_) ∧ k_ ≠ gb124)) (by (with_reducible repeat (first | apply Kd.V_alloc | apply Kd.V_drewN | apply Kd.V_drew)); exact Kd.V_mono HO_0.out (fun _ hk => ⟨⟨hk.1.1, hk.1.2.2⟩, hk.2⟩)) hg hat); replace BK124 := Aside0.mk (Rgn.bg BK124.out hg (Kd.N_away HO140.out (fun _ hk => hk.2))); replace HL141_1 := Aside0.mk (Kd.V_afterv (ok := (fun k_ => (P0_ k_ ∨ w.heap.size ≤ k_) ∧ k_ ≠ gb124)) (by (with_reducible repeat (first | apply Kd.V_alloc | apply Kd.V_drewN | apply Kd.V_drew)); exact Kd.V_mono HL141_1.out (fun _ hk => ⟨⟨hk.1.1, hk.1.2.2⟩, hk.2⟩)) hg hat); replace HL142_1 := Aside0.mk (Kd.V_afterv (ok := (fun k_ => (P0_ k_ ∨ w.heap.size ≤ k_) ∧ k_ ≠ gb124)) (by (with_reducible repeat (first | apply Kd.V_alloc | apply Kd.V_drewN | apply Kd.V_drew)); exact Kd.V_mono HL142_1.out (fun _ hk => ⟨⟨hk.1.1, hk.1.2.2⟩, hk.2⟩)) hg hat); replace HB := Aside0.mk (hb); have HO145 := Aside0.mk (ho); clear HO140; clear ho hb hg hat))
            go_roundg kj6
            case measure => have := HK1.out; have := HJ6.out; omega
            case rel => exact ⟨(y143), (true), (wrap64 (x7_1 + 1)), (by first | rfl | (simp; done) | (simp [*]; done)), (by first | rfl | (simp; done) | (simp [*]; done)), H', ⟨by have := HK1.out; have := HJ6.out; omega⟩, ⟨by (with_reducible repeat (first | apply Kd.V_alloc | apply Kd.V_drewN | apply Kd.V_drew)); exact Kd.V_mono HO_0.out (fun _ hk => ⟨hk.1.1, ⟨hk.2, hk.1.2⟩⟩)⟩, ⟨by (with_reducible repeat (first | apply Kd.N_alloc | apply Kd.N_drewN | apply Kd.N_drew)); exact HO145.out⟩, ⟨Rgn.kb BK124.out⟩, ⟨Rgn.bq HB.out⟩⟩
           ·
            rw [if_neg c23] at H
            exact absurd H (by simp)
         ·
          rw [if_neg c16] at H
          exact absurd H (by simp)
        ·
         rw [if_neg c15] at H
         exact absurd H (by simp)
       ·
        rw [if_neg c14] at H
        exact absurd H (by simp)
      ·
       replace c12 := Bool.eq_false_iff.mpr c12
       subst c12
       have H1 : (if 0 ≤ x7_1 then (if x7_1 < (l0.length : Int) then (if ((rd_T61 l0 x7_1).f0) = a1_0 then (spec_l5With.l0 kj6 l0 x5_1 x6_1 (wrap64 (x7_1 + 1)) a1_0 l1_1) else (if x5_1.length < 4398046511104 then (spec_l5With.l0 kj6 l0 (x5_1 ++ [(⟨(rd_T61 l0 x7_1).f0, (rd_T61 l0 x7_1).f1⟩ : S61)]) x6_1 (wrap64 (x7_1 + 1)) a1_0 l1_1) else (none))) else (none)) else (none)) = some r := by rw [if_neg (show ¬ (false = true) by decide)] at H; exact H
       clear H
       have H := H1
       clear H1
       by_cases c30 : 0 ≤ x7_1
       ·
        rw [if_pos c30] at H
        have c30b0 : decide (0 ≤ x7_1) = true := decide_eq_true c30
        clear c30
        by_cases c31 : x7_1 < (l0.length : Int)
        ·
         rw [if_pos c31] at H
         have c31b0 : decide (x7_1 < (l0.length : Int)) = true := decide_eq_true c31
         clear c31
         by_cases c32 : ((rd_T61 l0 x7_1).f0) = a1_0
         ·
          rw [if_pos c32] at H
          have c32b0 : (((rd_T61 l0 x7_1).f0) == a1_0) = true := beq_iff_eq.mpr c32
          have c32b1 : (((rd_T61 l0 x7_1).f0) != a1_0) = false := bne_eq_false_iff_eq.mpr c32
          clear c32
          have H' := Aside0.mk H
          clear H
          try go_wp2
          replace HO_0 := Aside0.mk (Kd.V_drew HO_0.out)
          replace HO_5 := Aside0.mk (Kd.N_drew HO_5.out)
          replace BK124 := Aside0.mk (blk_drew BK124.out)
          replace HB := Aside0.mk (below_drew1 HB.out)
          have p146 : 0 ≤ (x7_1 : Int) := of_decide_eq_true (by first | (with_reducible assumption) | assumption)
          have q146 : x7_1 < (l0.length : Int) := of_decide_eq_true (by first | (with_reducible assumption) | assumption)
          obtain ⟨ad146, A146_1, c146_1, e146, hx146_0, hx146_1, hl146_1, hi146_1⟩ := at_T61 (Kd.V_reads' HO_0.out).2.2 x7_1 p146 q146
          cases e146
          obtain ⟨ce146, hce146, hMe146, hcc146⟩ := Kd.V_get HO_0.out z61 x7_1 p146 (by first | exact q146 | exact of_decide_eq_true (by first | (with_reducible assumption) | assumption) | (have e_ := (Kd.V_reads' HO_0.out).1; omega))
          obtain ⟨ua146_1, uc146_1, rfl, ul146_1, ge146_1⟩ := k61_openF hMe146
          have hv146_1 := hcc146 1 _ rfl
          rw [add_field _ _ 1 (by omega)] at hv146_1
          replace hv146_1 := Option.some.inj (hv146_1.symm.trans hx146_1)
          injection hv146_1 with hva_ hvn_ hvc_
          rw [hva_] at ge146_1
          rw [hvc_] at ul146_1
          have HL146_1 := Aside0.mk (show Kd.V (Kd.int .u8) 5 _ w.heap.size _ _ ((rd_T61 l0 x7_1).f1) from Kd.V_mk ul146_1 ge146_1)
          clear hva_ hvn_ hvc_ ge146_1 ul146_1
          clear hcc146 hce146
          have HR146_1 := Aside0.mk hi146_1
          have HC146_1 := Aside0.mk hl146_1
          clear hi146_1 hl146_1
          replace p146 := eq_true p146
          replace q146 := eq_true q146
          refine start_ (n := 8) (S := fun w' => w'.cell? ⟨gb124, 0, none⟩ = some (.int .i64 a1_0) ∧ w'.cell? ⟨gb124, 1, none⟩ = some (.slice A1_1 l1_1.length c1_1) ∧ w'.cell? (ad146.add ((x7_1).toNat * 2)) = some (.int .i64 ((rd_T61 l0 x7_1).f0)) ∧ w'.cell? ⟨(ad146.add ((x7_1).toNat * 2)).block, (ad146.add ((x7_1).toNat * 2)).off + 1, none⟩ = some (.slice A146_1 ((rd_T61 l0 x7_1).f1).length c146_1)) (ds := []) #[false, false, false, false, false, false, false, false] (by kernel_rfl) rfl rfl ⟨(blk_cell BK124.out 0).trans rfl, (blk_cell BK124.out 1).trans rfl, hx146_0, hx146_1⟩ (fun hHeld => ?_); refine with_tabW spec_l5With.tab9 spec_l5With.bits9 (fun HT_ HW_ => ?_)
          generalize wc.drew = w33 at HO_0 HO_5 BK124 HB HL146_1 HR146_1 hx146_0 hx146_1 hHeld ⊢
          refine Rgn.pu HT_.out 0 36 ?_
          refine Rgn.pu HT_.out 1 37 ?_
          refine Rgn.pu HT_.out 2 38 ?_
          refine Rgn.pu HT_.out 3 39 ?_
          refine Rgn.pu HT_.out 5 41 ?_
          refine Rgn.tk HT_.out HW_.out 4 40 hHeld ?_
          refine Rgn.tk HT_.out HW_.out 6 42 hHeld ?_
          refine Rgn.pu HT_.out 7 43 ?_
          refine done_ (done_of HT_.out (by kernel_rfl)) ?_
          try go_wp2
          go_roundg kj6
          case measure => have := HK1.out; have := HJ6.out; omega
          case rel => exact ⟨(x5_1), (x6_1), (wrap64 (x7_1 + 1)), (by first | rfl | (simp; done) | (simp [*]; done)), (by first | rfl | (simp; done) | (simp [*]; done)), H', ⟨by have := HK1.out; have := HJ6.out; omega⟩, ⟨by (with_reducible repeat (first | apply Kd.V_alloc | apply Kd.V_drewN | apply Kd.V_drew)); exact HO_0.out⟩, ⟨by (with_reducible repeat (first | apply Kd.N_alloc | apply Kd.N_drewN | apply Kd.N_drew)); exact HO_5.out⟩, ⟨Rgn.kb BK124.out⟩, ⟨Rgn.bq HB.out⟩⟩
         ·
          rw [if_neg c32] at H
          have c32b0 : (((rd_T61 l0 x7_1).f0) == a1_0) = false := beq_eq_false_iff_ne.mpr c32
          have c32b1 : (((rd_T61 l0 x7_1).f0) != a1_0) = true := bne_iff_ne.mpr c32
          by_cases c34 : x5_1.length < 4398046511104
          ·
           rw [if_pos c34] at H
           have LMc34 := Aside0.mk c34
           clear c34
           obtain ⟨y148, hy148⟩ : ∃ y_ : List (S61), y_ = (x5_1 ++ [(⟨(rd_T61 l0 x7_1).f0, (rd_T61 l0 x7_1).f1⟩ : S61)]) := ⟨_, rfl⟩
           replace H : (spec_l5With.l0 kj6 l0 y148 x6_1 (wrap64 (x7_1 + 1)) a1_0 l1_1) = some r := by first | (rw [hy148]; with_reducible exact H) | (have H2_ := (Option.bind_some _ _).symm.trans H; rw [hy148]; with_reducible exact H2_) | (have H2_ := (Option.bind_some _ _).symm.trans H; with_reducible exact H2_) | with_reducible exact H | (rw [hy148]; exact H) | exact H
           have Ny148 := Aside0.mk hy148
           clear hy148
           have H' := Aside0.mk H
           clear H
           try go_wp2
           replace HO_0 := Aside0.mk (Kd.V_drew HO_0.out)
           replace HO_5 := Aside0.mk (Kd.N_drew HO_5.out)
           replace BK124 := Aside0.mk (blk_drew BK124.out)
           replace HB := Aside0.mk (below_drew1 HB.out)
           have p146 : 0 ≤ (x7_1 : Int) := of_decide_eq_true (by first | (with_reducible assumption) | assumption)
           have q146 : x7_1 < (l0.length : Int) := of_decide_eq_true (by first | (with_reducible assumption) | assumption)
           obtain ⟨ad146, A146_1, c146_1, e146, hx146_0, hx146_1, hl146_1, hi146_1⟩ := at_T61 (Kd.V_reads' HO_0.out).2.2 x7_1 p146 q146
           cases e146
           obtain ⟨ce146, hce146, hMe146, hcc146⟩ := Kd.V_get HO_0.out z61 x7_1 p146 (by first | exact q146 | exact of_decide_eq_true (by first | (with_reducible assumption) | assumption) | (have e_ := (Kd.V_reads' HO_0.out).1; omega))
           obtain ⟨ua146_1, uc146_1, rfl, ul146_1, ge146_1⟩ := k61_openF hMe146
           have hv146_1 := hcc146 1 _ rfl
           rw [add_field _ _ 1 (by omega)] at hv146_1
           replace hv146_1 := Option.some.inj (hv146_1.symm.trans hx146_1)
           injection hv146_1 with hva_ hvn_ hvc_
           rw [hva_] at ge146_1
           rw [hvc_] at ul146_1
           have HL146_1 := Aside0.mk (show Kd.V (Kd.int .u8) 5 _ w.heap.size _ _ ((rd_T61 l0 x7_1).f1) from Kd.V_mk ul146_1 ge146_1)
           clear hva_ hvn_ hvc_ ge146_1 ul146_1
           clear hcc146 hce146
           have HR146_1 := Aside0.mk hi146_1
           have HC146_1 := Aside0.mk hl146_1
           clear hi146_1 hl146_1
           replace p146 := eq_true p146
           replace q146 := eq_true q146
           refine start_ (n := 8) (S := fun w' => w'.cell? ⟨gb124, 0, none⟩ = some (.int .i64 a1_0) ∧ w'.cell? ⟨gb124, 1, none⟩ = some (.slice A1_1 l1_1.length c1_1) ∧ w'.cell? (ad146.add ((x7_1).toNat * 2)) = some (.int .i64 ((rd_T61 l0 x7_1).f0)) ∧ w'.cell? ⟨(ad146.add ((x7_1).toNat * 2)).block, (ad146.add ((x7_1).toNat * 2)).off + 1, none⟩ = some (.slice A146_1 ((rd_T61 l0 x7_1).f1).length c146_1)) (ds := []) #[false, false, false, false, false, false, false, false] (by kernel_rfl) rfl rfl ⟨(blk_cell BK124.out 0).trans rfl, (blk_cell BK124.out 1).trans rfl, hx146_0, hx146_1⟩ (fun hHeld => ?_); refine with_tabW spec_l5With.tab9 spec_l5With.bits9 (fun HT_ HW_ => ?_)
           generalize wc.drew = w35 at HO_0 HO_5 BK124 HB HL146_1 HR146_1 hx146_0 hx146_1 hHeld ⊢
           refine Rgn.pu HT_.out 0 36 ?_
           refine Rgn.pu HT_.out 1 37 ?_
           refine Rgn.pu HT_.out 2 38 ?_
           refine Rgn.pu HT_.out 3 39 ?_
           refine Rgn.pu HT_.out 5 41 ?_
           refine Rgn.tk HT_.out HW_.out 4 40 hHeld ?_
           refine Rgn.tk HT_.out HW_.out 6 42 hHeld ?_
           refine Rgn.pu HT_.out 7 43 ?_
           refine done_ (done_of HT_.out (by kernel_rfl)) ?_
           have p147 : 0 ≤ (x7_1 : Int) := of_decide_eq_true (by first | (with_reducible assumption) | assumption)
           have q147 : x7_1 < (l0.length : Int) := of_decide_eq_true (by first | (with_reducible assumption) | assumption)
           obtain ⟨ad147, A147_1, c147_1, e147, hx147_0, hx147_1, hl147_1, hi147_1⟩ := at_T61 (Kd.V_reads' HO_0.out).2.2 x7_1 p147 q147
           obtain rfl : ad146 = ad147 := (by injection e147)
           obtain ⟨ce147, hce147, hMe147, hcc147⟩ := Kd.V_get HO_0.out z61 x7_1 p147 (by first | exact q147 | exact of_decide_eq_true (by first | (with_reducible assumption) | assumption) | (have e_ := (Kd.V_reads' HO_0.out).1; omega))
           obtain ⟨ua147_1, uc147_1, rfl, ul147_1, ge147_1⟩ := k61_openF hMe147
           have hv147_1 := hcc147 1 _ rfl
           rw [add_field _ _ 1 (by omega)] at hv147_1
           replace hv147_1 := Option.some.inj (hv147_1.symm.trans hx147_1)
           injection hv147_1 with hva_ hvn_ hvc_
           rw [hva_] at ge147_1
           rw [hvc_] at ul147_1
           have HL147_1 := Aside0.mk (show Kd.V (Kd.int .u8) 5 _ w.heap.size _ _ ((rd_T61 l0 x7_1).f1) from Kd.V_mk ul147_1 ge147_1)
           clear hva_ hvn_ hvc_ ge147_1 ul147_1
           clear hcc147 hce147
           have HR147_1 := Aside0.mk hi147_1
           have HC147_1 := Aside0.mk hl147_1
           clear hi147_1 hl147_1
           replace p147 := eq_true p147
           replace q147 := eq_true q147
           have ea_ := Option.some.inj (hx146_1.symm.trans hx147_1)
           injection ea_ with ea_ en_ ec_
           subst ea_
           subst ec_
           clear en_
           try go_wp2_with (first | ((with_reducible refine gate_builtin (b := .append) (xs := #[.tmp 44, .tmp 49]) rfl ?_); at_builtin; refine Kd.N_append k61 (w0 := w) w.heap.size rfl (.tmp 44) (.tmp 49) 32 61 (.agg #[(.int .i64 0), (.slice none 0 0)]) 32 rfl Try.underlying32 info61 rfl (by decide) (by omega) u5 x5_1 (⟨(rd_T61 l0 x7_1).f0, (rd_T61 l0 x7_1).f1⟩ : S61) [.int .i64 ((rd_T61 l0 x7_1).f0), .slice A146_1 ((rd_T61 l0 x7_1).f1).length c146_1] (fun k_ => (P0_ k_ ∨ w.heap.size ≤ k_) ∧ k_ ≠ gb124) (fun k_ => ((fun k_ => (P0_ k_ ∨ w.heap.size ≤ k_) ∧ k_ ≠ gb124)) k_ ∧ some k_ ≠ (u5 : Value).ownBlock) rfl rfl ?aP (fun _ hk => hk) ?aF ?aO ?aB ?aS ?aL ?_; (case aP => exact (k61_mkF _ _ (⟨(rd_T61 l0 x7_1).f0, (rd_T61 l0 x7_1).f1⟩ : S61) (Kd.V_reads' (Kd.V_mono (ok' := (fun k_ => ((fun k_ => (P0_ k_ ∨ w.heap.size ≤ k_) ∧ k_ ≠ gb124)) k_ ∧ some k_ ≠ (u5 : Value).ownBlock)) (HL147_1.out) (fun k_ hk => ⟨⟨hk.1, hk.2.2⟩, hk.2.1⟩))).2.1 (Kd.V_F (Kd.V_mono (ok' := (fun k_ => ((fun k_ => (P0_ k_ ∨ w.heap.size ≤ k_) ∧ k_ ≠ gb124)) k_ ∧ some k_ ≠ (u5 : Value).ownBlock)) (HL147_1.out) (fun k_ hk => ⟨⟨hk.1, hk.2.2⟩, hk.2.1⟩))))); (case aB => exact (Rgn.bq HB.out)); (case aF => exact (fun k_ hk => ⟨(.inr (Nat.le_trans (below_size (Rgn.bq HB.out)) hk)), Kd.freshB (g := gb124) (o := .cells #[.int .i64 a1_0, .slice A1_1 l1_1.length c1_1] 61 (0, 0)) (Rgn.kb BK124.out) k_ hk⟩)); (case aO => exact (Rgn.nq HO_5.out)); (case aS => exact (below_size (Rgn.bq HB.out))); (case aL => have := LMc34.out; omega); intro v149 w36 ho hb hg hat; rw [← Ny148.out] at ho; replace HO_0 := Aside0.mk (Kd.V_afterv (ok := (fun k_ => (P0_ k_ ∨ w.heap.size ≤ k_) ∧ k_ ≠ gb124)) (by (with_reducible repeat (first | apply Kd.V_alloc | apply Kd.V_drewN | apply Kd.V_drew)); exact Kd.V_mono HO_0.out (fun _ hk => ⟨⟨hk.1, hk.2.2⟩, hk.2.1⟩)) hg hat); replace BK124 := Aside0.mk (Rgn.bg BK124.out hg (Kd.N_away HO_5.out (fun _ hk => hk.2))); replace HL146_1 := Aside0.mk (Kd.V_afterv (ok := (fun k_ => (P0_ k_ ∨ w.heap.size ≤ k_) ∧ k_ ≠ gb124)) (by (with_reducible repeat (first | apply Kd.V_alloc | apply Kd.V_drewN | apply Kd.V_drew)); exact Kd.V_mono HL146_1.out (fun _ hk => ⟨⟨hk.1, hk.2.2⟩, hk.2.1⟩)) hg hat); replace HL147_1 := Aside0.mk (Kd.V_afterv (ok := (fun k_ => (P0_ k_ ∨ w.heap.size ≤ k_) ∧ k_ ≠ gb124)) (by (with_reducible repeat (first | apply Kd.V_alloc | apply Kd.V_drewN | apply Kd.V_drew)); exact Kd.V_mono HL147_1.out (fun _ hk => ⟨⟨hk.1, hk.2.2⟩, hk.2.1⟩)) hg hat); replace HB := Aside0.mk (hb); have HO150 := Aside0.mk (ho); clear HO_5; clear ho hb hg hat))
           go_roundg kj6
           case measure => have := HK1.out; have := HJ6.out; omega
           case rel => exact ⟨(y148), (x6_1), (wrap64 (x7_1 + 1)), (by first | rfl | (simp; done) | (simp [*]; done)), (by first | rfl | (simp; done) | (simp [*]; done)), H', ⟨by have := HK1.out; have := HJ6.out; omega⟩, ⟨by (with_reducible repeat (first | apply Kd.V_alloc | apply Kd.V_drewN | apply Kd.V_drew)); exact Kd.V_mono HO_0.out (fun _ hk => ⟨hk.1.1, ⟨hk.2, hk.1.2⟩⟩)⟩, ⟨by (with_reducible repeat (first | apply Kd.N_alloc | apply Kd.N_drewN | apply Kd.N_drew)); exact HO150.out⟩, ⟨Rgn.kb BK124.out⟩, ⟨Rgn.bq HB.out⟩⟩
          ·
           rw [if_neg c34] at H
           exact absurd H (by simp)
        ·
         rw [if_neg c31] at H
         exact absurd H (by simp)
       ·
        rw [if_neg c30] at H
        exact absurd H (by simp)
   ·
    rw [if_neg c6] at H
    have c6b0 : decide (x7_1 < (l0.length : Int)) = false := decide_eq_false c6
    clear c6
    by_cases c37 : x6_1 = true
    ·
     subst c37
     have H1 : (some x5_1) = some r := by rw [if_pos rfl] at H; exact H
     clear H
     have H := H1
     clear H1
     obtain rfl := Option.some.inj H
     go_wp2
     go_ret
     exact ⟨_, by first | rfl | (simp [errW_none, errW_some] <;> rfl) | (simp [*, errW_none, errW_some] <;> rfl), by (with_reducible repeat (first | apply Kd.N_alloc | apply Kd.N_drewN | apply Kd.N_drew)); exact Kd.N_mono HO_5.out (fun _ hk => hk.1), Rgn.bq HB.out⟩
    ·
     replace c37 := Bool.eq_false_iff.mpr c37
     subst c37
     have H1 : ((spec_l1Copy.f l1_1).bind fun t128 => (if x5_1.length < 4398046511104 then (some (x5_1 ++ [(⟨a1_0, t128⟩ : S61)])) else (none))) = some r := by rw [if_neg (show ¬ (false = true) by decide)] at H; exact H
     clear H
     have H := H1
     clear H1
     replace H := Option.bind_eq_some_iff.mp H
     obtain ⟨t128, A380, H⟩ := H
     replace H : (if x5_1.length < 4398046511104 then (some (x5_1 ++ [(⟨a1_0, t128⟩ : S61)])) else (none)) = some r := H
     have A38 := Aside0.mk A380
     clear A380
     by_cases c39 : x5_1.length < 4398046511104
     ·
      rw [if_pos c39] at H
      have LMc39 := Aside0.mk c39
      clear c39
      obtain ⟨y131, hy131⟩ : ∃ y_ : List (S61), y_ = (x5_1 ++ [(⟨a1_0, t128⟩ : S61)]) := ⟨_, rfl⟩
      replace H : (some y131) = some r := by first | (rw [hy131]; with_reducible exact H) | (have H2_ := (Option.bind_some _ _).symm.trans H; rw [hy131]; with_reducible exact H2_) | (have H2_ := (Option.bind_some _ _).symm.trans H; with_reducible exact H2_) | with_reducible exact H | (rw [hy131]; exact H) | exact H
      have Ny131 := Aside0.mk hy131
      clear hy131
      obtain rfl := Option.some.inj H
      try go_wp2
      replace HO_0 := Aside0.mk (Kd.V_drew HO_0.out)
      replace HO_5 := Aside0.mk (Kd.N_drew HO_5.out)
      replace BK124 := Aside0.mk (blk_drew BK124.out)
      replace HB := Aside0.mk (below_drew1 HB.out)
      refine start_ (n := 10) (S := fun w' => w'.cell? ⟨gb124, 0, none⟩ = some (.int .i64 a1_0) ∧ w'.cell? ⟨gb124, 1, none⟩ = some (.slice A1_1 l1_1.length c1_1)) (ds := []) #[false, false, false, false, false, false, false, false, false, false] (by kernel_rfl) rfl rfl ⟨(blk_cell BK124.out 0).trans rfl, (blk_cell BK124.out 1).trans rfl⟩ (fun hHeld => ?_); refine with_tabW spec_l5With.tab12 spec_l5With.bits12 (fun HT_ HW_ => ?_)
      generalize wr.drew = w40 at HO_0 HO_5 BK124 HB hHeld ⊢
      refine Rgn.pu HT_.out 0 53 ?_
      refine Rgn.pu HT_.out 1 54 ?_
      refine Rgn.pu HT_.out 3 56 ?_
      refine Rgn.tk HT_.out HW_.out 2 55 hHeld ?_
      refine Rgn.tk HT_.out HW_.out 4 57 hHeld ?_
      refine one_ (i := 5) (N := some 58) #[true, true, true, true, true, true, false, false, false, false] rfl rfl (one_of HT_.out (by kernel_rfl)) (by decide) (fun K hK => ?_)
      refine Rgn.gs Try.func47 #[.slice A1_1 l1_1.length c1_1] ?_
      with_reducible refine (spec_l1Copy.calls _ _ l1_1 t128 _ ?side1 ?side2 A38.out).mono ?_
      (case side1 => exact Rgn.cq (Kd.C_below HR1_1.out HB.out))
      (case side2 => exact HC1_1.out)
      rintro e w41 ⟨v129, rfl, ho0, hb⟩
      refine ⟨_, rfl, ?_⟩
      replace HO_0 := Aside0.mk (Kd.V_elder' (by (with_reducible repeat (first | apply Kd.V_alloc | apply Kd.V_drewN | apply Kd.V_drew)); exact HO_0.out) (Kd.R_base ho0) hb)
      replace HO_5 := Aside0.mk (Kd.N_elder' (Rgn.nq HO_5.out) (Kd.R_base ho0) hb)
      have HO130 := Aside0.mk (Kd.R_lower (Kd.R_newM (M := fun k_ => (w.heap.size ≤ k_)) ho0 (below_size (Rgn.bq HB.out)) (fun k_ h_ => h_)) (below_size (Rgn.bq HB.out)))
      replace BK124 := Aside0.mk (Rgn.bb BK124.out hb)
      replace HB := Aside0.mk (below_step (Rgn.bq HB.out) hb)
      (try clear hb)
      skip
      skip
      skip
      (try clear ho0)
      obtain ⟨Ao42, co42, eo42⟩ := Kd.R_slice HO130.out
      (first | subst eo42 | (injection eo42 with f1_ f2_ f3_; have f4_ := f1_.symm; have f5_ := f3_.symm; clear f1_ f2_ f3_; subst f4_; subst f5_))
      refine hK.out _ _ ⟨(blk_cell BK124.out 0).trans rfl, (blk_cell BK124.out 1).trans rfl⟩ (fun hHeld => ?_)
      clear hK K
      refine norm_ (a' := ?_) ?_ ?_
      rotate_left
      ·
       show Act.put _ (some 58) _ = _
       simp only [Act.put, List.setIfInBounds_toArray, List.set_cons_zero, List.set_cons_succ, i64_w, i32_w]
       rfl
      refine Rgn.pu HT_.out 6 59 ?_
      refine one_ (i := 7) (N := some 60) #[true, true, true, true, true, true, true, true, false, false] rfl rfl (one_of HT_.out (by kernel_rfl)) (by decide) (fun K hK => ?_)
      refine value_ (w1 := ?_) (v := ?_) (by rfl) rfl ?_ ?_
      rotate_left 2
      ·
       go_simp
       constructor
       ·
        rfl
       ·
        rfl
      refine hK.out _ _ ⟨(blk_cell (blk_alloc BK124.out _) 0).trans rfl, (blk_cell (blk_alloc BK124.out _) 1).trans rfl⟩ (fun hHeld => ?_)
      clear hK K
      refine norm_ (a' := ?_) ?_ ?_
      rotate_left
      ·
       show Act.put _ (some 60) _ = _
       simp only [Act.put, List.setIfInBounds_toArray, List.set_cons_zero, List.set_cons_succ, i64_w, i32_w]
       rfl
      refine one_ (i := 8) (N := some 61) #[true, true, true, true, true, true, true, true, true, false] rfl rfl (one_of HT_.out (by kernel_rfl)) (by decide) (fun K hK => ?_)
      refine Kd.N_append_step k61 (w0 := w) w.heap.size (by rfl) (.tmp 53) (.tmp 60) 32 61 (.agg #[(.int .i64 0), (.slice none 0 0)]) 32 rfl Try.underlying32 info61 rfl (by decide) (by omega) u5 x5_1 (⟨a1_0, t128⟩ : S61) [.int .i64 a1_0, .slice Ao42 t128.length co42] (fun k_ => (P0_ k_ ∨ w.heap.size ≤ k_) ∧ k_ ≠ gb124) (fun k_ => ((fun k_ => (P0_ k_ ∨ w.heap.size ≤ k_) ∧ k_ ≠ gb124)) k_ ∧ some k_ ≠ (u5 : Value).ownBlock) rfl rfl ?aP (fun _ hk => hk) ?aF ?aO ?aB ?aS ?aL ?_
      (case aP => exact (k61_mkF _ _ (⟨a1_0, t128⟩ : S61) (Kd.R_reads' (Kd.R_mono (ok' := (fun k_ => ((fun k_ => (P0_ k_ ∨ w.heap.size ≤ k_) ∧ k_ ≠ gb124)) k_ ∧ some k_ ≠ (u5 : Value).ownBlock)) (Kd.R_types (Kd.R_apart' (HO130.out) (Kd.N_typed HO_5.out) (by decide)) BK124.out (by decide)) (fun k_ hk => ⟨⟨(.inr (hk.1.1.1)), hk.2⟩, hk.1.2⟩))).2.1 (Kd.R_F (Kd.R_mono (ok' := (fun k_ => ((fun k_ => (P0_ k_ ∨ w.heap.size ≤ k_) ∧ k_ ≠ gb124)) k_ ∧ some k_ ≠ (u5 : Value).ownBlock)) (Kd.R_types (Kd.R_apart' (HO130.out) (Kd.N_typed HO_5.out) (by decide)) BK124.out (by decide)) (fun k_ hk => ⟨⟨(.inr (hk.1.1.1)), hk.2⟩, hk.1.2⟩)))))
      (case aB => exact (Rgn.bq HB.out))
      (case aF => exact (fun k_ hk => ⟨(.inr (Nat.le_trans (below_size (Rgn.bq HB.out)) hk)), Kd.freshB (g := gb124) (o := .cells #[.int .i64 a1_0, .slice A1_1 l1_1.length c1_1] 61 (0, 0)) (Rgn.kb BK124.out) k_ hk⟩))
      (case aO => exact (Rgn.nq (Kd.N_mono HO_5.out (fun _ hk => ⟨hk.1.1, hk.1.2⟩))))
      (case aS => exact (below_size (Rgn.bq HB.out)))
      (case aL => have := LMc39.out; omega)
      intro v132 w43 ho hb hg hat
      rw [← Ny131.out] at ho
      replace HO_0 := Aside0.mk (Kd.V_afterv (ok := (fun k_ => (P0_ k_ ∨ w.heap.size ≤ k_) ∧ some k_ ≠ (.slice Ao42 t128.length co42 : Value).ownBlock ∧ k_ ≠ gb124)) (by (with_reducible repeat (first | apply Kd.V_alloc | apply Kd.V_drewN | apply Kd.V_drew)); exact Kd.V_mono HO_0.out (fun _ hk => ⟨⟨hk.1.1, ⟨hk.2, hk.1.2.2⟩⟩, hk.1.2.1⟩)) hg hat)
      replace BK124 := Aside0.mk (Rgn.bg BK124.out hg (Kd.N_away HO_5.out (fun _ hk => hk.1.2)))
      replace HB := Aside0.mk (hb)
      have HO133 := Aside0.mk (ho)
      clear HO130 HO_5
      clear ho hb hg hat
      refine hK.out _ _ ⟨(blk_cell BK124.out 0).trans rfl, (blk_cell BK124.out 1).trans rfl⟩ (fun hHeld => ?_)
      clear hK K
      refine norm_ (a' := ?_) ?_ ?_
      rotate_left
      ·
       show Act.put _ (some 61) _ = _
       simp only [Act.put, List.setIfInBounds_toArray, List.set_cons_zero, List.set_cons_succ, i64_w, i32_w]
       rfl
      refine Rgn.pu HT_.out 9 5 ?_
      refine done_ (done_of HT_.out (by kernel_rfl)) ?_
      try go_wp2
      go_ret
      exact ⟨_, by first | rfl | (simp [errW_none, errW_some] <;> rfl) | (simp [*, errW_none, errW_some] <;> rfl), by (with_reducible repeat (first | apply Kd.N_alloc | apply Kd.N_drewN | apply Kd.N_drew)); exact Kd.N_mono HO133.out (fun _ hk => hk.1), Rgn.bq HB.out⟩
     ·
      rw [if_neg c39] at H
      exact absurd H (by simp)

end Go.Proofs.Ytkehfdadplpaeaa.PFnExactSurvivors
