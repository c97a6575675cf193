-- written by a program of this session (wip/src/print2.py)
import Derived.Test.YtdkjidnagkcenaaPFnExactFileNeedx0
namespace Go.Proofs.Ytdkjidnagkcenaa.PFnExactFileNeed
open Go.RowKit Go.Proofs.YtdkjidnagkcenaaW.PrintWords Go.Proofs.YtdkjidnagkcenaaW.PrintLast Go.Proofs.YtdkjidnagkcenaaW.PrintMore
attribute [local go_sem] max2_int min2_int max_two min_two max_three min_three max_four min_four   -- for this text's walks alone
set_option linter.unusedVariables false
set_option linter.unusedSimpArgs false

/-! ### spec_FileNeed: function 33 -/
mutual
def spec_FileNeed.l0 : Nat → List Int → List Bool → Int → Option (Int)
  | 0, _, _, _ => none
  | k + 1, x0, x3, x4 => if x4 < (x0.length : Int) then (if 0 ≤ x4 then (if (rd x0 x4) < 0 then (some (-1)) else (if (rd x0 x4) ≥ 40 then (some (-1)) else (if 0 ≤ (rd x0 x4) then (if (rd x0 x4) < (x3.length : Int) then (spec_FileNeed.l0 k x0 (x3.set ((rd x0 x4) : Int).toNat true) (wrap64 (x4 + 1))) else (none)) else (none)))) else (none)) else (spec_FileNeed.l1 k x3 0 0 0)
def spec_FileNeed.l1 : Nat → List Bool → Int → Int → Int → Option (Int)
  | 0, _, _, _, _ => none
  | k + 1, x3, x5, x6, x7 => if x7 < (x3.length : Int) then (if 0 ≤ x7 then (if rdOf false x3 x7 = true then (if x7 ≥ 8 then (spec_FileNeed.l1 k x3 (wrap64 (x5 + 1)) 1 (wrap64 (x7 + 1))) else (spec_FileNeed.l1 k x3 (wrap64 (x5 + 1)) x6 (wrap64 (x7 + 1)))) else (spec_FileNeed.l1 k x3 x5 x6 (wrap64 (x7 + 1)))) else (none)) else (some (wrap64 (x5 + x6)))
end
def spec_FileNeed.f (k : Nat) (l0 : List Int) : Option (Int) := if (l0.length : Int) > 100000 then (some (-1)) else (if 40 ≤ 281474976710656 then (spec_FileNeed.l0 k l0 (List.replicate 40 false) 0) else (none))
theorem spec_FileNeed.mono_l : ∀ k, (∀ y0 y1 y2, LeO (spec_FileNeed.l0 k y0 y1 y2) (spec_FileNeed.l0 (k + 1) y0 y1 y2)) ∧ (∀ y0 y1 y2 y3, LeO (spec_FileNeed.l1 k y0 y1 y2 y3) (spec_FileNeed.l1 (k + 1) y0 y1 y2 y3))
  | 0 => ⟨fun _ _ _ r h => by simp [spec_FileNeed.l0] at h, fun _ _ _ _ r h => by simp [spec_FileNeed.l1] at h⟩
  | k + 1 => by
    obtain ⟨ih0, ih1⟩ := spec_FileNeed.mono_l k
    refine ⟨?_, ?_⟩
    · intro y0 y1 y2
      unfold spec_FileNeed.l0
      repeat' first
      | (with_reducible exact ih0 _ _ _)
      | (with_reducible exact ih1 _ _ _ _)
      | (with_reducible exact LeO.refl _)
      | (with_reducible exact LeO.none _)
      | (with_reducible refine LeO.ite ?_ ?_)
      | (with_reducible refine LeO.bind ?_ (fun _ => ?_))
      | exact ih0 _ _ _
      | exact ih1 _ _ _ _
      | exact LeO.none _
      | refine LeO.ite ?_ ?_
      | refine LeO.bind ?_ (fun _ => ?_)
    · intro y0 y1 y2 y3
      unfold spec_FileNeed.l1
      repeat' first
      | (with_reducible exact ih0 _ _ _)
      | (with_reducible exact ih1 _ _ _ _)
      | (with_reducible exact LeO.refl _)
      | (with_reducible exact LeO.none _)
      | (with_reducible refine LeO.ite ?_ ?_)
      | (with_reducible refine LeO.bind ?_ (fun _ => ?_))
      | exact ih0 _ _ _
      | exact ih1 _ _ _ _
      | exact LeO.none _
      | refine LeO.ite ?_ ?_
      | refine LeO.bind ?_ (fun _ => ?_)
theorem spec_FileNeed.mono : ∀ a0 k, LeO (spec_FileNeed.f k a0) (spec_FileNeed.f (k + 1) a0) := by
  intro a0 k
  obtain ⟨ih0, ih1⟩ := spec_FileNeed.mono_l k
  unfold spec_FileNeed.f
  repeat' first
      | (with_reducible exact ih0 _ _ _)
      | (with_reducible exact ih1 _ _ _ _)
      | (with_reducible exact LeO.refl _)
      | (with_reducible exact LeO.none _)
      | (with_reducible refine LeO.ite ?_ ?_)
      | (with_reducible refine LeO.bind ?_ (fun _ => ?_))
      | exact ih0 _ _ _
      | exact ih1 _ _ _ _
      | exact LeO.none _
      | refine LeO.ite ?_ ?_
      | refine LeO.bind ?_ (fun _ => ?_)
set_option maxHeartbeats 8000000 in
set_option maxRecDepth 100000 in
theorem spec_FileNeed.calls (k : Nat) (A0 : Option Addr) (c0 : Nat) (l0 : List Int) (r : Int) (w : World) (hr0 : Kd.C (Kd.int .i64) w A0 l0.length l0) (hc0 : l0.length ≤ c0) (h : spec_FileNeed.f k l0 = some r) :
    Calls Try.prog 33 #[.slice A0 l0.length c0] w fun e w' => e = .returned (.int .i64 r) ∧ Below w.heap.size w w' := by
  have HR0 := Aside0.mk hr0
  have HC0 := Aside0.mk hc0
  clear hr0 hc0
  have HB := Aside0.mk (Below.refl w.heap.size w)
  have H : (if (l0.length : Int) > 100000 then (some (-1)) else (if 40 ≤ 281474976710656 then (spec_FileNeed.l0 k l0 (List.replicate 40 false) 0) else (none))) = some r := h
  clear h
  by_cases c2 : (l0.length : Int) > 100000
  · rw [if_pos c2] at H
    have c2b0 : decide (100000 < (l0.length : Int)) = true := decide_eq_true c2
    have c2b1 : decide (100000 < l0.length) = true := decide_eq_true (by omega)
    clear c2
    obtain rfl := Option.some.inj H
    go_enter Try.func33, Try.ntmps33
    go_wp2
    go_ret
    exact ⟨by first | rfl | (simp [errW_none, errW_some] <;> rfl) | (simp [*, errW_none, errW_some] <;> rfl), by repeat (first | (with_reducible first | exact HB.out | apply below_alloc | apply pw_below_drewN | apply below_drew1) | exact HB.out)⟩
  · rw [if_neg c2] at H
    have c2b0 : decide (100000 < (l0.length : Int)) = false := decide_eq_false c2
    have c2b1 : decide (100000 < l0.length) = false := decide_eq_false (by omega)
    clear c2
    by_cases c3 : 40 ≤ 281474976710656
    · rw [if_pos c3] at H
      have c3b0 := eq_true c3
      have c3b1 : decide (40 ≤ 281474976710656) = true := decide_eq_true c3
      clear c3
      obtain ⟨y101, hy101⟩ : ∃ y_ : List Bool, y_ = (List.replicate 40 false) := ⟨_, rfl⟩
      replace H : (spec_FileNeed.l0 k l0 y101 0) = some r := by first | (rw [hy101]; with_reducible exact H) | (have H2_ := (Option.bind_some _ _).symm.trans H; rw [hy101]; with_reducible exact H2_) | (have H2_ := (Option.bind_some _ _).symm.trans H; with_reducible exact H2_) | with_reducible exact H | (rw [hy101]; exact H) | exact H
      have Ny101 := Aside0.mk hy101
      clear hy101
      have H' := Aside0.mk H
      clear H
      go_enter Try.func33, Try.ntmps33
      go_wp2_with (first | ((with_reducible refine gate_dst (N := 11) rfl ?_); refine Kd.R_make Kd.bool _ 4 rfl (N := 11) rfl 61 _ _ rfl 40 rfl rfl Try.underlying61 (.bool false) 1 info4 rfl (by decide) (by omega) false (ok := fun _ => True) (okp := fun _ => True) rfl (fun _ hk => hk) trivial (by omega) (by omega) (Below.refl _ _) (Nat.le_refl _) ?_; intro v102 w4 ho5 hb hg_ hnew_; clear hg_ hnew_; (first | rw [← Ny101.out] at ho5 | (simp only [Int.reduceToNat] at ho5; rw [← Ny101.out] at ho5)); have n0_ := Aside0.mk (Kd.R_lower ho5 (below_size (by repeat (first | (with_reducible first | exact HB.out | apply below_alloc | apply pw_below_drewN | apply below_drew1) | exact HB.out)))); have n1_ := Aside0.mk (below_step (by repeat (first | (with_reducible first | exact HB.out | apply below_alloc | apply pw_below_drewN | apply below_drew1) | exact HB.out)) hb); clear HB; have HO103 := n0_; have HB := n1_; clear n0_ n1_; clear hb ho5))
      go_loopg [4] k (fun kq v4 w' => ∃ (x3_1 : List Bool) (x4_1 : Int), v4 = .int .i64 x4_1 ∧ Aside0 (spec_FileNeed.l0 kq l0 x3_1 x4_1 = some r) ∧ Aside0 (kq ≤ k) ∧ Aside0 (Kd.R Kd.bool 4 w' w.heap.size (fun _ => True) v102 x3_1) ∧ Aside0 (Below w.heap.size w w'))
      case atStart => exact ⟨(y101), (0), (by first | rfl | (simp; done) | (simp [*]; done)), H', ⟨Nat.le_refl _⟩, ⟨by (with_reducible repeat (first | apply Kd.R_alloc | apply Kd.R_drewN | apply Kd.R_drew)); exact HO103.out⟩, ⟨by repeat (first | (with_reducible first | exact HB.out | apply below_alloc | apply pw_below_drewN | apply below_drew1) | exact HB.out)⟩⟩
      case round =>
        clear H'
        try clear c2
        try clear c2b0
        try clear c2b1
        try clear p2
        try clear c3
        try clear c3b0
        try clear c3b1
        obtain ⟨x3_1, x4_1, rfl, HA, HK1, HO_3, HB⟩ := hrel
        cases gk with
        | zero => exact absurd HA.out (by simp [spec_FileNeed.l0])
        | succ k1 =>
          have H := HA.out
          clear HA
          simp only [spec_FileNeed.l0] at H
          by_cases c6 : x4_1 < (l0.length : Int)
          · rw [if_pos c6] at H
            have c6b0 : decide (x4_1 < (l0.length : Int)) = true := decide_eq_true c6
            clear c6
            by_cases c7 : 0 ≤ x4_1
            · rw [if_pos c7] at H
              have c7b0 : decide (0 ≤ x4_1) = true := decide_eq_true c7
              clear c7
              by_cases c8 : (rd l0 x4_1) < 0
              · rw [if_pos c8] at H
                have c8b0 : decide ((rd l0 x4_1) < 0) = true := decide_eq_true c8
                clear c8
                obtain rfl := Option.some.inj H
                have p104 : 0 ≤ (x4_1 : Int) := of_decide_eq_true (by first | (with_reducible assumption) | assumption)
                have q104 : x4_1 < (l0.length : Int) := of_decide_eq_true (by first | (with_reducible assumption) | assumption)
                obtain ⟨ad104, e104, hx104_0⟩ := Kd.at_int HR0.out x4_1 p104 q104
                cases e104
                replace hx104_0 := (HB.out.cell (World.block_lt_of_cell? w _ hx104_0)).trans hx104_0
                replace p104 := eq_true p104
                replace q104 := eq_true q104
                go_wp2
                go_ret
                exact ⟨by first | rfl | (simp [errW_none, errW_some] <;> rfl) | (simp [*, errW_none, errW_some] <;> rfl), by repeat (first | (with_reducible first | exact HB.out | apply below_alloc | apply pw_below_drewN | apply below_drew1) | exact HB.out)⟩
              · rw [if_neg c8] at H
                have c8b0 : decide ((rd l0 x4_1) < 0) = false := decide_eq_false c8
                clear c8
                by_cases c9 : (rd l0 x4_1) ≥ 40
                · rw [if_pos c9] at H
                  have c9b0 : decide (40 ≤ (rd l0 x4_1)) = true := decide_eq_true c9
                  clear c9
                  obtain rfl := Option.some.inj H
                  have p104 : 0 ≤ (x4_1 : Int) := of_decide_eq_true (by first | (with_reducible assumption) | assumption)
                  have q104 : x4_1 < (l0.length : Int) := of_decide_eq_true (by first | (with_reducible assumption) | assumption)
                  obtain ⟨ad104, e104, hx104_0⟩ := Kd.at_int HR0.out x4_1 p104 q104
                  cases e104
                  replace hx104_0 := (HB.out.cell (World.block_lt_of_cell? w _ hx104_0)).trans hx104_0
                  replace p104 := eq_true p104
                  replace q104 := eq_true q104
                  have p105 : 0 ≤ (x4_1 : Int) := of_decide_eq_true (by first | (with_reducible assumption) | assumption)
                  have q105 : x4_1 < (l0.length : Int) := of_decide_eq_true (by first | (with_reducible assumption) | assumption)
                  obtain ⟨ad105, e105, hx105_0⟩ := Kd.at_int HR0.out x4_1 p105 q105
                  obtain rfl : ad104 = ad105 := (by injection e105)
                  replace hx105_0 := (HB.out.cell (World.block_lt_of_cell? w _ hx105_0)).trans hx105_0
                  replace p105 := eq_true p105
                  replace q105 := eq_true q105
                  go_wp2
                  go_ret
                  exact ⟨by first | rfl | (simp [errW_none, errW_some] <;> rfl) | (simp [*, errW_none, errW_some] <;> rfl), by repeat (first | (with_reducible first | exact HB.out | apply below_alloc | apply pw_below_drewN | apply below_drew1) | exact HB.out)⟩
                · rw [if_neg c9] at H
                  have c9b0 : decide (40 ≤ (rd l0 x4_1)) = false := decide_eq_false c9
                  clear c9
                  by_cases c10 : 0 ≤ (rd l0 x4_1)
                  · rw [if_pos c10] at H
                    have c10b0 : decide (0 ≤ (rd l0 x4_1)) = true := decide_eq_true c10
                    clear c10
                    by_cases c11 : (rd l0 x4_1) < (x3_1.length : Int)
                    · rw [if_pos c11] at H
                      have c11b0 : decide ((rd l0 x4_1) < (x3_1.length : Int)) = true := decide_eq_true c11
                      clear c11
                      obtain ⟨y107, hy107⟩ : ∃ y_ : List Bool, y_ = (x3_1.set ((rd l0 x4_1) : Int).toNat true) := ⟨_, rfl⟩
                      replace H : (spec_FileNeed.l0 k1 l0 y107 (wrap64 (x4_1 + 1))) = some r := by first | (rw [hy107]; with_reducible exact H) | (have H2_ := (Option.bind_some _ _).symm.trans H; rw [hy107]; with_reducible exact H2_) | (have H2_ := (Option.bind_some _ _).symm.trans H; with_reducible exact H2_) | with_reducible exact H | (rw [hy107]; exact H) | exact H
                      have Ny107 := Aside0.mk hy107
                      clear hy107
                      have H' := Aside0.mk H
                      clear H
                      have p104 : 0 ≤ (x4_1 : Int) := of_decide_eq_true (by first | (with_reducible assumption) | assumption)
                      have q104 : x4_1 < (l0.length : Int) := of_decide_eq_true (by first | (with_reducible assumption) | assumption)
                      obtain ⟨ad104, e104, hx104_0⟩ := Kd.at_int HR0.out x4_1 p104 q104
                      cases e104
                      replace hx104_0 := (HB.out.cell (World.block_lt_of_cell? w _ hx104_0)).trans hx104_0
                      replace p104 := eq_true p104
                      replace q104 := eq_true q104
                      have p105 : 0 ≤ (x4_1 : Int) := of_decide_eq_true (by first | (with_reducible assumption) | assumption)
                      have q105 : x4_1 < (l0.length : Int) := of_decide_eq_true (by first | (with_reducible assumption) | assumption)
                      obtain ⟨ad105, e105, hx105_0⟩ := Kd.at_int HR0.out x4_1 p105 q105
                      obtain rfl : ad104 = ad105 := (by injection e105)
                      replace hx105_0 := (HB.out.cell (World.block_lt_of_cell? w _ hx105_0)).trans hx105_0
                      replace p105 := eq_true p105
                      replace q105 := eq_true q105
                      have p106 : 0 ≤ (x4_1 : Int) := of_decide_eq_true (by first | (with_reducible assumption) | assumption)
                      have q106 : x4_1 < (l0.length : Int) := of_decide_eq_true (by first | (with_reducible assumption) | assumption)
                      obtain ⟨ad106, e106, hx106_0⟩ := Kd.at_int HR0.out x4_1 p106 q106
                      obtain rfl : ad104 = ad106 := (by injection e106)
                      replace hx106_0 := (HB.out.cell (World.block_lt_of_cell? w _ hx106_0)).trans hx106_0
                      replace p106 := eq_true p106
                      replace q106 := eq_true q106
                      have p12 : 0 ≤ ((rd l0 x4_1) : Int) := of_decide_eq_true (by first | (with_reducible assumption) | assumption)
                      have q12 : ((rd l0 x4_1) : Int) < ((x3_1.length : Int) : Int) := of_decide_eq_true (by first | (with_reducible assumption) | assumption)
                      obtain ⟨go12, co12, eo12, gb12, gl12, cl12, HG12⟩ := Kd.R_form HO_3.out (by omega)
                      (first | cases eo12 | (injection eo12 with ea_ en_ ec_; (first | subst ea_ | (injection ea_ with ea_; subst ea_)); subst ec_; clear en_))
                      have GB12 := Aside0.mk gb12
                      have GG12 := Aside0.mk HG12
                      clear gb12 gl12 HG12
                      obtain ⟨hx12_0, hf12_0⟩ := Kd.R_celln false HO_3.out ((rd l0 x4_1) : Int) p12 q12
                      replace p12 := eq_true p12
                      replace q12 := eq_true q12
                      have HP13 := Kd.R_putg HO_3.out ((rd l0 x4_1) : Int) true
                      go_wp2_with (first | ((with_reducible refine gate_store (t := 4) (p := 35) rfl ?_); refine store_event (t := 4) (p := 35) (v := ?vo_w14) (w1 := (wr.setCell ⟨go12, ((rd l0 x4_1) : Int).toNat, none⟩ (.bool true))) ?hg ?ho ?hn ?hr ?_; (case ho => rfl); (case hg => rfl); (case hn => rfl); (case hr => first | (go_simp; done) | (go_simp; rfl)); intro w14 hw; have hg : wr.grownBy w14 (some go12) := (by rw [hw]; exact HP13.2); have hp_ : Kd.R Kd.bool 4 w14 w.heap.size (fun _ => True) (.slice (some ⟨go12, 0, none⟩) x3_1.length co12) y107 := (by rw [hw, Ny107.out]; exact HP13.1); clear HP13; have n0_ := Aside0.mk (hp_); have n1_ := Aside0.mk ((by rw [hw]; exact below_set (HB.out) GB12.out : Below w.heap.size w w14)); clear HO_3; clear HB; have HO_3 := n0_; have HB := n1_; clear n0_ n1_; clear hg hw hp_))
                      go_roundg k1
                      case measure => have := HK1.out; omega
                      case rel => exact ⟨(y107), (wrap64 (x4_1 + 1)), (by first | rfl | (simp; done) | (simp [*]; done)), H', ⟨by have := HK1.out; omega⟩, ⟨by (with_reducible repeat (first | apply Kd.R_alloc | apply Kd.R_drewN | apply Kd.R_drew)); exact HO_3.out⟩, ⟨by repeat (first | (with_reducible first | exact HB.out | apply below_alloc | apply pw_below_drewN | apply below_drew1) | exact HB.out)⟩⟩
                    · rw [if_neg c11] at H
                      exact absurd H (by simp)
                  · rw [if_neg c10] at H
                    exact absurd H (by simp)
            · rw [if_neg c7] at H
              exact absurd H (by simp)
          · rw [if_neg c6] at H
            have c6b0 : decide (x4_1 < (l0.length : Int)) = false := decide_eq_false c6
            clear c6
            have H' := Aside0.mk H
            clear H
            go_wp2
            go_loopg [5, 6, 7] k1 (fun kq v5 v6 v7 w' => ∃ (x5_2 : Int) (x6_2 : Int) (x7_2 : Int), v5 = .int .i64 x5_2 ∧ v6 = .int .i64 x6_2 ∧ v7 = .int .i64 x7_2 ∧ Aside0 (spec_FileNeed.l1 kq x3_1 x5_2 x6_2 x7_2 = some r) ∧ Aside0 (kq ≤ k1) ∧ Aside0 (Kd.R Kd.bool 4 w' w.heap.size (fun _ => True) v102 x3_1) ∧ Aside0 (Below w.heap.size w w'))
            case atStart => exact ⟨(0), (0), (0), (by first | rfl | (simp; done) | (simp [*]; done)), (by first | rfl | (simp; done) | (simp [*]; done)), (by first | rfl | (simp; done) | (simp [*]; done)), H', ⟨Nat.le_refl _⟩, ⟨by (with_reducible repeat (first | apply Kd.R_alloc | apply Kd.R_drewN | apply Kd.R_drew)); exact HO_3.out⟩, ⟨by repeat (first | (with_reducible first | exact HB.out | apply below_alloc | apply pw_below_drewN | apply below_drew1) | exact HB.out)⟩⟩
            case round =>
              clear H'
              try clear c1
              try clear p1
              try clear q1
              try clear hx1
              try clear hf1
              try clear c2
              try clear c2b0
              try clear c2b1
              try clear p2
              try clear c3
              try clear c3b0
              try clear c3b1
              try clear c6
              try clear c6b0
              try clear p6
              try clear c7
              try clear c7b0
              try clear c8
              try clear c8b0
              try clear c9
              try clear c9b0
              try clear c10
              try clear c10b0
              try clear p10
              try clear q10
              try clear hx10
              try clear c11
              try clear c11b0
              try clear p12
              try clear q12
              try clear hx12
              try clear hf12
              try clear hx104_0
              try clear hx105_0
              try clear hx106_0
              try clear hx12_0
              try clear p104
              try clear p105
              try clear p106
              try clear p12
              try clear p2
              try clear q104
              try clear q105
              try clear q106
              try clear q12
              obtain ⟨x5_2, x6_2, x7_2, rfl, rfl, rfl, HA, HK2, HO_3, HB⟩ := hrel
              cases gk with
              | zero => exact absurd HA.out (by simp [spec_FileNeed.l1])
              | succ k2 =>
                have H := HA.out
                clear HA
                simp only [spec_FileNeed.l1] at H
                by_cases c15 : x7_2 < (x3_1.length : Int)
                · rw [if_pos c15] at H
                  have c15b0 : decide (x7_2 < (x3_1.length : Int)) = true := decide_eq_true c15
                  clear c15
                  by_cases c16 : 0 ≤ x7_2
                  · rw [if_pos c16] at H
                    have c16b0 : decide (0 ≤ x7_2) = true := decide_eq_true c16
                    clear c16
                    obtain ⟨bq17, hbq17⟩ : ∃ b_ : Bool, b_ = (rdOf false x3_1 x7_2) := ⟨_, rfl⟩
                    replace H : (if bq17 = true then (if x7_2 ≥ 8 then (spec_FileNeed.l1 k2 x3_1 (wrap64 (x5_2 + 1)) 1 (wrap64 (x7_2 + 1))) else (spec_FileNeed.l1 k2 x3_1 (wrap64 (x5_2 + 1)) x6_2 (wrap64 (x7_2 + 1)))) else (spec_FileNeed.l1 k2 x3_1 x5_2 x6_2 (wrap64 (x7_2 + 1)))) = some r := by rw [← hbq17] at H; exact H
                    have Nbq17 := Aside0.mk hbq17
                    clear hbq17
                    by_cases c18 : bq17 = true
                    · subst c18
                      have H1 : (if x7_2 ≥ 8 then (spec_FileNeed.l1 k2 x3_1 (wrap64 (x5_2 + 1)) 1 (wrap64 (x7_2 + 1))) else (spec_FileNeed.l1 k2 x3_1 (wrap64 (x5_2 + 1)) x6_2 (wrap64 (x7_2 + 1)))) = some r := by rw [if_pos rfl] at H; exact H
                      clear H
                      have H := H1
                      clear H1
                      by_cases c19 : x7_2 ≥ 8
                      · rw [if_pos c19] at H
                        have c19b0 : decide (8 ≤ x7_2) = true := decide_eq_true c19
                        clear c19
                        have H' := Aside0.mk H
                        clear H
                        obtain ⟨Ao20, co20, eo20⟩ := Kd.R_slice HO_3.out
                        subst eo20
                        have p108 : 0 ≤ (x7_2 : Int) := of_decide_eq_true (by first | (with_reducible assumption) | assumption)
                        have q108 : x7_2 < (x3_1.length : Int) := of_decide_eq_true (by first | (with_reducible assumption) | assumption)
                        obtain ⟨ad108, e108, hx108_0⟩ := Kd.at_bool (Kd.R_reads' HO_3.out).2.2 x7_2 p108 q108
                        (try rw [← Nbq17.out] at hx108_0)
                        cases e108
                        replace p108 := eq_true p108
                        replace q108 := eq_true q108
                        go_wp2
                        go_roundg k2
                        case measure => have := HK1.out; have := HK2.out; omega
                        case rel => exact ⟨(wrap64 (x5_2 + 1)), (1), (wrap64 (x7_2 + 1)), (by first | rfl | (simp; done) | (simp [*]; done)), (by first | rfl | (simp; done) | (simp [*]; done)), (by first | rfl | (simp; done) | (simp [*]; done)), H', ⟨by have := HK1.out; have := HK2.out; omega⟩, ⟨by (with_reducible repeat (first | apply Kd.R_alloc | apply Kd.R_drewN | apply Kd.R_drew)); exact HO_3.out⟩, ⟨by repeat (first | (with_reducible first | exact HB.out | apply below_alloc | apply pw_below_drewN | apply below_drew1) | exact HB.out)⟩⟩
                      · rw [if_neg c19] at H
                        have c19b0 : decide (8 ≤ x7_2) = false := decide_eq_false c19
                        clear c19
                        have H' := Aside0.mk H
                        clear H
                        obtain ⟨Ao21, co21, eo21⟩ := Kd.R_slice HO_3.out
                        subst eo21
                        have p108 : 0 ≤ (x7_2 : Int) := of_decide_eq_true (by first | (with_reducible assumption) | assumption)
                        have q108 : x7_2 < (x3_1.length : Int) := of_decide_eq_true (by first | (with_reducible assumption) | assumption)
                        obtain ⟨ad108, e108, hx108_0⟩ := Kd.at_bool (Kd.R_reads' HO_3.out).2.2 x7_2 p108 q108
                        (try rw [← Nbq17.out] at hx108_0)
                        cases e108
                        replace p108 := eq_true p108
                        replace q108 := eq_true q108
                        go_wp2
                        go_roundg k2
                        case measure => have := HK1.out; have := HK2.out; omega
                        case rel => exact ⟨(wrap64 (x5_2 + 1)), (x6_2), (wrap64 (x7_2 + 1)), (by first | rfl | (simp; done) | (simp [*]; done)), (by first | rfl | (simp; done) | (simp [*]; done)), (by first | rfl | (simp; done) | (simp [*]; done)), H', ⟨by have := HK1.out; have := HK2.out; omega⟩, ⟨by (with_reducible repeat (first | apply Kd.R_alloc | apply Kd.R_drewN | apply Kd.R_drew)); exact HO_3.out⟩, ⟨by repeat (first | (with_reducible first | exact HB.out | apply below_alloc | apply pw_below_drewN | apply below_drew1) | exact HB.out)⟩⟩
                    · replace c18 := Bool.eq_false_iff.mpr c18
                      subst c18
                      have H1 : (spec_FileNeed.l1 k2 x3_1 x5_2 x6_2 (wrap64 (x7_2 + 1))) = some r := by rw [if_neg (show ¬ (false = true) by decide)] at H; exact H
                      clear H
                      have H := H1
                      clear H1
                      have H' := Aside0.mk H
                      clear H
                      obtain ⟨Ao22, co22, eo22⟩ := Kd.R_slice HO_3.out
                      subst eo22
                      have p108 : 0 ≤ (x7_2 : Int) := of_decide_eq_true (by first | (with_reducible assumption) | assumption)
                      have q108 : x7_2 < (x3_1.length : Int) := of_decide_eq_true (by first | (with_reducible assumption) | assumption)
                      obtain ⟨ad108, e108, hx108_0⟩ := Kd.at_bool (Kd.R_reads' HO_3.out).2.2 x7_2 p108 q108
                      (try rw [← Nbq17.out] at hx108_0)
                      cases e108
                      replace p108 := eq_true p108
                      replace q108 := eq_true q108
                      go_wp2
                      go_roundg k2
                      case measure => have := HK1.out; have := HK2.out; omega
                      case rel => exact ⟨(x5_2), (x6_2), (wrap64 (x7_2 + 1)), (by first | rfl | (simp; done) | (simp [*]; done)), (by first | rfl | (simp; done) | (simp [*]; done)), (by first | rfl | (simp; done) | (simp [*]; done)), H', ⟨by have := HK1.out; have := HK2.out; omega⟩, ⟨by (with_reducible repeat (first | apply Kd.R_alloc | apply Kd.R_drewN | apply Kd.R_drew)); exact HO_3.out⟩, ⟨by repeat (first | (with_reducible first | exact HB.out | apply below_alloc | apply pw_below_drewN | apply below_drew1) | exact HB.out)⟩⟩
                  · rw [if_neg c16] at H
                    exact absurd H (by simp)
                · rw [if_neg c15] at H
                  have c15b0 : decide (x7_2 < (x3_1.length : Int)) = false := decide_eq_false c15
                  clear c15
                  obtain rfl := Option.some.inj H
                  obtain ⟨Ao23, co23, eo23⟩ := Kd.R_slice HO_3.out
                  subst eo23
                  go_wp2
                  go_ret
                  exact ⟨by first | rfl | (simp [errW_none, errW_some] <;> rfl) | (simp [*, errW_none, errW_some] <;> rfl), by repeat (first | (with_reducible first | exact HB.out | apply below_alloc | apply pw_below_drewN | apply below_drew1) | exact HB.out)⟩
    · rw [if_neg c3] at H
      exact absurd H (by simp)

/-! ### laws_toInt64S: function 34 -/
def laws_toInt64S.l0 : Nat → List Int → List Int → Int → Option (List Int)
  | 0, _, _, _ => none
  | k + 1, x0, x3, x4 => if x4 < (x0.length : Int) then (if 0 ≤ x4 then (if x4 < (x3.length : Int) then (laws_toInt64S.l0 k x0 (x3.set (x4 : Int).toNat (rd x0 x4)) (wrap64 (x4 + 1))) else (none)) else (none)) else (some x3)
def laws_toInt64S.f (k : Nat) (l0 : List Int) : Option (List Int) := if 0 ≤ (l0.length : Int) then (if ((l0.length : Int) : Int).toNat ≤ 35184372088832 then (laws_toInt64S.l0 k l0 (List.replicate ((l0.length : Int) : Int).toNat 0) 0) else (none)) else (none)
theorem laws_toInt64S.mono_l : ∀ k, (∀ y0 y1 y2, LeO (laws_toInt64S.l0 k y0 y1 y2) (laws_toInt64S.l0 (k + 1) y0 y1 y2))
  | 0 => fun _ _ _ r h => by simp [laws_toInt64S.l0] at h
  | k + 1 => by
    have ih0 := laws_toInt64S.mono_l k
    · intro y0 y1 y2
      unfold laws_toInt64S.l0
      repeat' first
      | (with_reducible exact ih0 _ _ _)
      | (with_reducible exact LeO.refl _)
      | (with_reducible exact LeO.none _)
      | (with_reducible refine LeO.ite ?_ ?_)
      | (with_reducible refine LeO.bind ?_ (fun _ => ?_))
      | exact ih0 _ _ _
      | exact LeO.none _
      | refine LeO.ite ?_ ?_
      | refine LeO.bind ?_ (fun _ => ?_)
theorem laws_toInt64S.mono : ∀ a0 k, LeO (laws_toInt64S.f k a0) (laws_toInt64S.f (k + 1) a0) := by
  intro a0 k
  have ih0 := laws_toInt64S.mono_l k
  unfold laws_toInt64S.f
  repeat' first
      | (with_reducible exact ih0 _ _ _)
      | (with_reducible exact LeO.refl _)
      | (with_reducible exact LeO.none _)
      | (with_reducible refine LeO.ite ?_ ?_)
      | (with_reducible refine LeO.bind ?_ (fun _ => ?_))
      | exact ih0 _ _ _
      | exact LeO.none _
      | refine LeO.ite ?_ ?_
      | refine LeO.bind ?_ (fun _ => ?_)
set_option maxHeartbeats 8000000 in
set_option maxRecDepth 100000 in
theorem laws_toInt64S.calls (k : Nat) (A0 : Option Addr) (c0 : Nat) (l0 : List Int) (r : List Int) (w : World) (hr0 : Kd.C (Kd.int .i64) w A0 l0.length l0) (hc0 : l0.length ≤ c0) (h : laws_toInt64S.f k l0 = some r) :
    Calls Try.prog 34 #[.slice A0 l0.length c0] w fun e w' => ∃ v0_ : Value, e = .returned (v0_) ∧ Kd.R (Kd.int .i64) 2 w' w.heap.size (fun _ => True) v0_ r ∧ Below w.heap.size w w' := by
  have HR0 := Aside0.mk hr0
  have HC0 := Aside0.mk hc0
  clear hr0 hc0
  have HB := Aside0.mk (Below.refl w.heap.size w)
  have H : (if 0 ≤ (l0.length : Int) then (if ((l0.length : Int) : Int).toNat ≤ 35184372088832 then (laws_toInt64S.l0 k l0 (List.replicate ((l0.length : Int) : Int).toNat 0) 0) else (none)) else (none)) = some r := h
  clear h
  by_cases c2 : 0 ≤ (l0.length : Int)
  · rw [if_pos c2] at H
    have c2b0 := eq_true c2
    have c2b1 : decide (0 ≤ (l0.length : Int)) = true := decide_eq_true c2
    clear c2
    by_cases c3 : ((l0.length : Int) : Int).toNat ≤ 35184372088832
    · rw [if_pos c3] at H
      have c3b0 := eq_true c3
      have c3b1 : decide (((l0.length : Int) : Int).toNat ≤ 35184372088832) = true := decide_eq_true c3
      clear c3
      obtain ⟨y109, hy109⟩ : ∃ y_ : List Int, y_ = (List.replicate ((l0.length : Int) : Int).toNat 0) := ⟨_, rfl⟩
      replace H : (laws_toInt64S.l0 k l0 y109 0) = some r := by first | (rw [hy109]; with_reducible exact H) | (have H2_ := (Option.bind_some _ _).symm.trans H; rw [hy109]; with_reducible exact H2_) | (have H2_ := (Option.bind_some _ _).symm.trans H; with_reducible exact H2_) | with_reducible exact H | (rw [hy109]; exact H) | exact H
      have Ny109 := Aside0.mk hy109
      clear hy109
      have H' := Aside0.mk H
      clear H
      go_enter Try.func34, Try.ntmps34
      go_wp2_with (first | ((with_reducible refine gate_dst (N := 7) rfl ?_); refine Kd.R_make (Kd.int .i64) _ 2 rfl (N := 7) rfl 44 _ _ rfl (l0.length : Int) rfl rfl Try.underlying44 (.int .i64 0) 8 info2 rfl (by decide) (by omega) 0 (ok := fun _ => True) (okp := fun _ => True) rfl (fun _ hk => hk) trivial (of_decide_eq_true (by first | (with_reducible assumption) | assumption)) (Nat.le_trans (Nat.mul_le_mul_right _ (of_decide_eq_true (by first | (with_reducible assumption) | assumption) : (l0.length : Int).toNat ≤ 35184372088832)) (by omega)) (Below.refl _ _) (Nat.le_refl _) ?_; intro v110 w4 ho5 hb hg_ hnew_; clear hg_ hnew_; (first | rw [← Ny109.out] at ho5 | (simp only [Int.reduceToNat] at ho5; rw [← Ny109.out] at ho5)); have n0_ := Aside0.mk (Kd.R_lower ho5 (below_size (by repeat (first | (with_reducible first | exact HB.out | apply below_alloc | apply pw_below_drewN | apply below_drew1) | exact HB.out)))); have n1_ := Aside0.mk (below_step (by repeat (first | (with_reducible first | exact HB.out | apply below_alloc | apply pw_below_drewN | apply below_drew1) | exact HB.out)) hb); clear HB; have HO111 := n0_; have HB := n1_; clear n0_ n1_; clear hb ho5))
      go_loopg [4] k (fun kq v4 w' => ∃ (x3_1 : List Int) (x4_1 : Int), v4 = .int .i64 x4_1 ∧ Aside0 (laws_toInt64S.l0 kq l0 x3_1 x4_1 = some r) ∧ Aside0 (kq ≤ k) ∧ Aside0 (Kd.R (Kd.int .i64) 2 w' w.heap.size (fun _ => True) v110 x3_1) ∧ Aside0 (Below w.heap.size w w'))
      case atStart => exact ⟨(y109), (0), (by first | rfl | (simp; done) | (simp [*]; done)), H', ⟨Nat.le_refl _⟩, ⟨by (with_reducible repeat (first | apply Kd.R_alloc | apply Kd.R_drewN | apply Kd.R_drew)); exact HO111.out⟩, ⟨by repeat (first | (with_reducible first | exact HB.out | apply below_alloc | apply pw_below_drewN | apply below_drew1) | exact HB.out)⟩⟩
      case round =>
        clear H'
        try clear c2
        try clear c2b0
        try clear c2b1
        try clear p2
        try clear c3
        try clear c3b0
        try clear c3b1
        obtain ⟨x3_1, x4_1, rfl, HA, HK1, HO_3, HB⟩ := hrel
        cases gk with
        | zero => exact absurd HA.out (by simp [laws_toInt64S.l0])
        | succ k1 =>
          have H := HA.out
          clear HA
          simp only [laws_toInt64S.l0] at H
          by_cases c6 : x4_1 < (l0.length : Int)
          · rw [if_pos c6] at H
            have c6b0 : decide (x4_1 < (l0.length : Int)) = true := decide_eq_true c6
            clear c6
            by_cases c7 : 0 ≤ x4_1
            · rw [if_pos c7] at H
              have c7b0 : decide (0 ≤ x4_1) = true := decide_eq_true c7
              clear c7
              by_cases c8 : x4_1 < (x3_1.length : Int)
              · rw [if_pos c8] at H
                have c8b0 : decide (x4_1 < (x3_1.length : Int)) = true := decide_eq_true c8
                clear c8
                obtain ⟨y113, hy113⟩ : ∃ y_ : List Int, y_ = (x3_1.set (x4_1 : Int).toNat (rd l0 x4_1)) := ⟨_, rfl⟩
                replace H : (laws_toInt64S.l0 k1 l0 y113 (wrap64 (x4_1 + 1))) = some r := by first | (rw [hy113]; with_reducible exact H) | (have H2_ := (Option.bind_some _ _).symm.trans H; rw [hy113]; with_reducible exact H2_) | (have H2_ := (Option.bind_some _ _).symm.trans H; with_reducible exact H2_) | with_reducible exact H | (rw [hy113]; exact H) | exact H
                have Ny113 := Aside0.mk hy113
                clear hy113
                have H' := Aside0.mk H
                clear H
                have p112 : 0 ≤ (x4_1 : Int) := of_decide_eq_true (by first | (with_reducible assumption) | assumption)
                have q112 : x4_1 < (l0.length : Int) := of_decide_eq_true (by first | (with_reducible assumption) | assumption)
                obtain ⟨ad112, e112, hx112_0⟩ := Kd.at_int HR0.out x4_1 p112 q112
                cases e112
                replace hx112_0 := (HB.out.cell (World.block_lt_of_cell? w _ hx112_0)).trans hx112_0
                replace p112 := eq_true p112
                replace q112 := eq_true q112
                have p9 : 0 ≤ (x4_1 : Int) := of_decide_eq_true (by first | (with_reducible assumption) | assumption)
                have q9 : (x4_1 : Int) < ((x3_1.length : Int) : Int) := of_decide_eq_true (by first | (with_reducible assumption) | assumption)
                obtain ⟨go9, co9, eo9, gb9, gl9, cl9, HG9⟩ := Kd.R_form HO_3.out (by omega)
                (first | cases eo9 | (injection eo9 with ea_ en_ ec_; (first | subst ea_ | (injection ea_ with ea_; subst ea_)); subst ec_; clear en_))
                have GB9 := Aside0.mk gb9
                have GG9 := Aside0.mk HG9
                clear gb9 gl9 HG9
                obtain ⟨hx9_0, hf9_0⟩ := Kd.R_celln 0 HO_3.out (x4_1 : Int) p9 q9
                replace p9 := eq_true p9
                replace q9 := eq_true q9
                have HP10 := Kd.R_putg HO_3.out (x4_1 : Int) (rd l0 x4_1)
                go_wp2_with (first | ((with_reducible refine gate_store (t := 2) (p := 20) rfl ?_); refine store_event (t := 2) (p := 20) (v := ?vo_w11) (w1 := (wr.setCell ⟨go9, (x4_1 : Int).toNat, none⟩ (.int .i64 (rd l0 x4_1)))) ?hg ?ho ?hn ?hr ?_; (case ho => rfl); (case hg => rfl); (case hn => rfl); (case hr => first | (go_simp; done) | (go_simp; rfl)); intro w11 hw; have hg : wr.grownBy w11 (some go9) := (by rw [hw]; exact HP10.2); have hp_ : Kd.R (Kd.int .i64) 2 w11 w.heap.size (fun _ => True) (.slice (some ⟨go9, 0, none⟩) x3_1.length co9) y113 := (by rw [hw, Ny113.out]; exact HP10.1); clear HP10; have n0_ := Aside0.mk (hp_); have n1_ := Aside0.mk ((by rw [hw]; exact below_set (HB.out) GB9.out : Below w.heap.size w w11)); clear HO_3; clear HB; have HO_3 := n0_; have HB := n1_; clear n0_ n1_; clear hg hw hp_))
                go_roundg k1
                case measure => have := HK1.out; omega
                case rel => exact ⟨(y113), (wrap64 (x4_1 + 1)), (by first | rfl | (simp; done) | (simp [*]; done)), H', ⟨by have := HK1.out; omega⟩, ⟨by (with_reducible repeat (first | apply Kd.R_alloc | apply Kd.R_drewN | apply Kd.R_drew)); exact HO_3.out⟩, ⟨by repeat (first | (with_reducible first | exact HB.out | apply below_alloc | apply pw_below_drewN | apply below_drew1) | exact HB.out)⟩⟩
              · rw [if_neg c8] at H
                exact absurd H (by simp)
            · rw [if_neg c7] at H
              exact absurd H (by simp)
          · rw [if_neg c6] at H
            have c6b0 : decide (x4_1 < (l0.length : Int)) = false := decide_eq_false c6
            clear c6
            obtain rfl := Option.some.inj H
            go_wp2
            go_ret
            exact ⟨_, by first | rfl | (simp [errW_none, errW_some] <;> rfl) | (simp [*, errW_none, errW_some] <;> rfl), by (with_reducible repeat (first | apply Kd.R_alloc | apply Kd.R_drewN | apply Kd.R_drew)); exact HO_3.out, by repeat (first | (with_reducible first | exact HB.out | apply below_alloc | apply pw_below_drewN | apply below_drew1) | exact HB.out)⟩
    · rw [if_neg c3] at H
      exact absurd H (by simp)
  · rw [if_neg c2] at H
    exact absurd H (by simp)

/-! ### impl_in: function 44 -/
def impl_in.f (a0 : Int) (a1 : Int) (a2 : Int) : Option (Bool) := if a0 ≥ a1 then (some (decide (a0 ≤ a2))) else (some false)
set_option maxHeartbeats 8000000 in
set_option maxRecDepth 100000 in
theorem impl_in.calls (a0 : Int) (a1 : Int) (a2 : Int) (r : Bool) (w : World) (h : impl_in.f a0 a1 a2 = some r) :
    Calls Try.prog 44 #[.int .i64 a0, .int .i64 a1, .int .i64 a2] w fun e w' => e = .returned (.bool r) ∧ Drawn0 w w' := by
  have H : (if a0 ≥ a1 then (some (decide (a0 ≤ a2))) else (some false)) = some r := h
  clear h
  by_cases c4 : a0 ≥ a1
  · rw [if_pos c4] at H
    have c4b0 : decide (a1 ≤ a0) = true := decide_eq_true c4
    clear c4
    obtain rfl := Option.some.inj H
    go_enter Try.func44, Try.ntmps44
    go_wp2
    go_ret
    exact ⟨by first | rfl | (simp; done) | (simp [*]; done), by repeat (first | exact Drawn0.refl _ | apply Drawn0.step)⟩
  · rw [if_neg c4] at H
    have c4b0 : decide (a1 ≤ a0) = false := decide_eq_false c4
    clear c4
    obtain rfl := Option.some.inj H
    go_enter Try.func44, Try.ntmps44
    go_wp2
    go_ret
    exact ⟨by first | rfl | (simp; done) | (simp [*]; done), by repeat (first | exact Drawn0.refl _ | apply Drawn0.step)⟩

/-! ### impl_FileNeed: function 35 -/
def impl_FileNeed.f (k : Nat) (l0 : List Int) : Option (Int) := spec_FileNeed.f k l0
theorem impl_FileNeed.mono : ∀ a0 k, LeO (impl_FileNeed.f k a0) (impl_FileNeed.f (k + 1) a0) :=spec_FileNeed.mono

section
open Go.Maps
/-- The map holds just what the list of bools says; no key twice. -/
def fnAgree (x : List Bool) (D : DataW Nat) : Prop := x.length = 40 ∧ Tidy D ∧ (∀ v : Nat, v < 40 → has D (.int .i64 v) = x.getD v false) ∧ size D = (x.filter id).length
def fnFar (x : List Bool) : Int := if (x.drop 8).any id = true then 1 else 0
theorem fn_count (x : List Bool) : ∀ (v : Nat), v < x.length → ((x.set v true).filter id).length = (x.filter id).length + (if x.getD v false = true then 0 else 1) := by
  induction x with
  | nil => intro v h; simp at h
  | cons b x ih =>
    intro v h
    cases v with
    | zero => cases b <;> simp
    | succ v =>
      have := ih v (by simpa using h)
      have e : (b :: x).getD (v + 1) false = x.getD v false := rfl
      rw [e, List.set_cons_succ, List.filter_cons, List.filter_cons]
      cases b
      · simpa using this
      · simp only [id, if_true, List.length_cons]; omega
theorem fn_far_set (x : List Bool) (v : Nat) (h : v < x.length) : fnFar (x.set v true) = if 8 ≤ v then 1 else fnFar x := by
  unfold fnFar
  by_cases h8 : 8 ≤ v
  · have e : ((x.set v true).drop 8).any id = true := by
      rw [List.any_eq_true]
      exact ⟨true, List.mem_of_getElem? (i := v - 8) (by rw [List.getElem?_drop, show 8 + (v - 8) = v by omega]; simp [h]), rfl⟩
    rw [if_pos h8, if_pos e]
  · have e : (x.set v true).drop 8 = x.drop 8 := by
      apply List.ext_getElem?; intro i
      rw [List.getElem?_drop, List.getElem?_drop, List.getElem?_set_ne (by omega)]
    rw [if_neg h8, e]
theorem fn_step {x : List Bool} {D : DataW Nat} (h : fnAgree x D) (v : Nat) (hv : v < 40) (d : DataW Nat) : fnAgree (x.set v true) (D.put (.int .i64 v) d) := by
  obtain ⟨h1, h2, h3, h4⟩ := h
  have hk : WideAt.IsKeyLit (.int .i64 (v : Int)) := by trivial
  refine ⟨by simpa using h1, h2.put hk d, fun u hu => ?_, ?_⟩
  · by_cases e : u = v
    · subst e; rw [has_put_same h2.isMap hk]; simp [h1, hu]
    · rw [has_put_other (fun h => e (by injection h with _ h; omega)), h3 u hu]
      simp [List.getD_eq_getElem?_getD, List.getElem?_set_ne (fun h => e h.symm)]
  · rw [size_put h2, fn_count x v (by omega), h4, h3 v hv]
    split <;> simp
theorem fn_start : fnAgree (List.replicate 40 false) (.map []) := by
  refine ⟨by simp, tidy_empty, fun v hv => ?_, by simp [size]⟩
  rw [List.getD_eq_getElem?_getD, List.getElem?_replicate, if_pos hv]; rfl
theorem fn_drop (x : List Bool) (i : Nat) (h : i < x.length) : x.drop i = x.getD i false :: x.drop (i + 1) := by
  rw [List.drop_eq_getElem_cons h]; simp [h]
theorem fn_l1 (x : List Bool) (hx : x.length = 40) : ∀ (k i : Nat) (n f r : Int), spec_FileNeed.l1 k x n f (i : Int) = some r → i ≤ 40 → 0 ≤ n → n ≤ i → 0 ≤ f → f ≤ 1 →
    r = n + ((x.drop i).filter id).length + (if (x.drop (max i 8)).any id = true then 1 else f) := by
  intro k
  induction k with
  | zero => intro i n f r h; cases h
  | succ k ih =>
    intro i n f r h hi h0 h1 hf0 hf1
    simp only [spec_FileNeed.l1] at h
    by_cases hl : (i : Int) < (x.length : Int)
    · rw [if_pos hl, if_pos (by omega)] at h
      have hw : wrap64 ((i : Int) + 1) = ((i + 1 : Nat) : Int) := by unfold wrap64; omega
      have hn : wrap64 (n + 1) = n + 1 := by unfold wrap64; omega
      have hrd : rdOf false x (i : Int) = x.getD i false := by unfold rdOf; simp
      rw [hw, hn, hrd] at h
      have hd := fn_drop x i (by omega)
      by_cases hb : x.getD i false = true
      · rw [if_pos hb] at h
        rw [hd, List.filter_cons, hb]
        simp only [id, if_true, List.length_cons]
        by_cases h8 : (i : Int) ≥ 8
        · rw [if_pos h8] at h
          have := ih (i + 1) (n + 1) 1 r h (by omega) (by omega) (by omega) (by omega) (by omega)
          rw [this]
          have e1 : max i 8 = i := by omega
          have e2 : max (i + 1) 8 = i + 1 := by omega
          rw [e1, e2, hd, hb]
          simp only [List.any_cons, id, Bool.true_or, if_true]
          split <;> omega
        · rw [if_neg h8] at h
          have := ih (i + 1) (n + 1) f r h (by omega) (by omega) (by omega) hf0 hf1
          rw [this]
          have e1 : max i 8 = 8 := by omega
          have e2 : max (i + 1) 8 = 8 := by omega
          rw [e1, e2]; omega
      · rw [if_neg hb] at h
        have hb' : x.getD i false = false := by simpa using hb
        have := ih (i + 1) n f r h (by omega) (by omega) (by omega) hf0 hf1
        rw [this, hd, List.filter_cons, hb']
        simp only [id, Bool.false_eq_true, if_false]
        by_cases h8 : (i : Int) ≥ 8
        · have e1 : max i 8 = i := by omega
          have e2 : max (i + 1) 8 = i + 1 := by omega
          rw [e1, e2, hd, hb']
          simp
        · have e1 : max i 8 = 8 := by omega
          have e2 : max (i + 1) 8 = 8 := by omega
          rw [e1, e2]
    · rw [if_neg hl] at h
      obtain rfl := Option.some.inj h
      have e1 : x.drop i = [] := List.drop_eq_nil_of_le (by omega)
      have e2 : x.drop (max i 8) = [] := List.drop_eq_nil_of_le (by omega)
      rw [e1, e2]
      simp
      unfold wrap64; omega
theorem fn_key : Keyed Try.prog 2 := int_keyed Try.underlying2
set_option maxHeartbeats 8000000 in
set_option maxRecDepth 100000 in
theorem impl_FileNeed.calls (k : Nat) (A0 : Option Addr) (c0 : Nat) (l0 : List Int) (r : Int) (w : World) (hr0 : Kd.C (Kd.int .i64) w A0 l0.length l0) (hc0 : l0.length ≤ c0) (h : impl_FileNeed.f k l0 = some r) :
    Calls Try.prog 35 #[.slice A0 l0.length c0] w fun e w' => e = .returned (.int .i64 r) ∧ Below w.heap.size w w' := by
  have HR0 := Aside0.mk hr0
  have HC0 := Aside0.mk hc0
  have hmm := @run_makeMap Try.prog
  clear hr0 hc0
  have H : (if (l0.length : Int) > 100000 then (some (-1)) else (if 40 ≤ 281474976710656 then (spec_FileNeed.l0 k l0 (List.replicate 40 false) 0) else (none))) = some r := h
  clear h
  by_cases c1 : (l0.length : Int) > 100000
  · rw [if_pos c1] at H
    obtain rfl := Option.some.inj H
    have c1b : decide (100000 < (l0.length : Int)) = true := decide_eq_true c1
    have c1c : decide (100000 < l0.length) = true := decide_eq_true (by omega)
    clear c1 H hmm
    go_enter Try.func35, Try.ntmps35
    go_wp2
    go_ret
    exact ⟨rfl, Below.refl _ _⟩
  rw [if_neg c1, if_pos (by omega)] at H
  have c1b : decide (100000 < (l0.length : Int)) = false := decide_eq_false c1
  have c1c : decide (100000 < l0.length) = false := decide_eq_false (by omega)
  have HL := Aside0.mk (show l0.length ≤ 100000 by omega)
  have H' := Aside0.mk H
  clear H c1
  go_enter Try.func35, Try.ntmps35
  go_wp2
  go_loopg [4, 13] k (fun kq v4 v13 w' => ∃ (i : Nat) (x : List Bool) (D : DataW Nat), v13 = .int .i64 (i : Int) ∧ v4 = .int .i64 (fnFar x) ∧ Aside0 (i ≤ l0.length) ∧ Aside0 (fnAgree x D) ∧ w'.ownsMap Try.prog 2 (plainElem Try.prog 3) w.heap.size i D ∧ Below w.heap.size w w' ∧ Aside0 (spec_FileNeed.l0 kq l0 x (i : Int) = some r) ∧ Aside0 (kq ≤ k))
  case atStart => exact ⟨0, List.replicate 40 false, .map [], rfl, by first | rfl | decide, ⟨Nat.zero_le _⟩, ⟨fn_start⟩, World.ownsMap_made _ _ _ _, (Below.refl _ _).alloc (Nat.le_refl _) _, H', ⟨Nat.le_refl _⟩⟩
  case round =>
    clear H'
    obtain ⟨i, x, D, rfl, rfl, HI, HA, hown, hb, HS, HK⟩ := hrel
    cases gk with
    | zero => exact absurd HS.out (by simp [spec_FileNeed.l0])
    | succ k1 =>
      have H := HS.out
      clear HS
      simp only [spec_FileNeed.l0] at H
      have hx := HA.out.1
      by_cases c2 : (i : Int) < (l0.length : Int)
      · rw [if_pos c2, if_pos (by omega)] at H
        have c2b : decide ((i : Int) < (l0.length : Int)) = true := decide_eq_true c2
        have c2c : decide (i < l0.length) = true := decide_eq_true (by omega)
        obtain ⟨ad, e1, hcell⟩ := Kd.at_int (Kd.C_below HR0.out hb) (i : Int) (by omega) c2
        cases e1
        rw [Int.toNat_natCast] at hcell
        have p1 : 0 ≤ (i : Int) := by omega
        have hil : i ≤ 100000 := by have := HL.out; omega
        obtain ⟨v, hv⟩ : ∃ v, rd l0 (i : Int) = v := ⟨_, rfl⟩
        rw [hv] at H hcell
        clear hv
        by_cases c3 : v < 0
        · rw [if_pos c3] at H
          obtain rfl := Option.some.inj H
          have hin := impl_in.calls v 0 39 false
          have HN := Aside0.mk (fun W => hin W (by unfold impl_in.f; rw [if_neg (by omega)]))
          clear H c3 hin hx
          go_wp2_with (go_at_call 44; refine (HN.out _).mono ?_; rintro e w' ⟨rfl, ⟨nd, rfl⟩⟩)
          go_ret
          exact ⟨rfl, by repeat (first | (with_reducible first | exact hb | apply below_alloc | apply pw_below_drewN | apply below_drew1) | exact hb)⟩
        rw [if_neg c3] at H
        by_cases c4 : v ≥ 40
        · rw [if_pos c4] at H
          obtain rfl := Option.some.inj H
          have hin := impl_in.calls v 0 39 false
          have HN := Aside0.mk (fun W => hin W (by unfold impl_in.f; rw [if_pos (by omega), decide_eq_false (by omega)]))
          clear H c3 c4 hin hx
          go_wp2_with (go_at_call 44; refine (HN.out _).mono ?_; rintro e w' ⟨rfl, ⟨nd, rfl⟩⟩)
          go_ret
          exact ⟨rfl, by repeat (first | (with_reducible first | exact hb | apply below_alloc | apply pw_below_drewN | apply below_drew1) | exact hb)⟩
        rw [if_neg c4, if_pos (by omega), if_pos (by omega)] at H
        obtain ⟨u, rfl⟩ := Int.eq_ofNat_of_zero_le (show 0 ≤ v by omega)
        have hu : u < 40 := by omega
        rw [show wrap64 ((i : Int) + 1) = ((i + 1 : Nat) : Int) by unfold wrap64; omega, Int.toNat_natCast] at H
        have H' := Aside0.mk H
        have hin := impl_in.calls (u : Int) 0 39 true
        have HN := Aside0.mk (fun W => hin W (by unfold impl_in.f; rw [if_pos (by omega), decide_eq_true (by omega)]))
        have hkey : keyOf Try.prog 2 (.int .i64 (u : Int)) = some (.int .i64 (u : Int)) := keyOf_int_mk Try.underlying2 (by simp [Lit.wf, IntKind.min, IntKind.max, IntKind.bits, IntKind.signed]; omega)
        have HF := Aside0.mk (fn_far_set x u (by omega))
        clear H c3 c4 hin hx
        by_cases c5 : 8 ≤ (u : Int)
        · have c5b : decide (8 ≤ (u : Int)) = true := decide_eq_true c5
          have c5c : decide (8 ≤ u) = true := decide_eq_true (by omega)
          go_wp2_with (first
            | (go_at_call 44; refine (HN.out _).mono ?_; rintro e w' ⟨rfl, ⟨nd, rfl⟩⟩)
            | (at_mapUpdate; refine wpList_mapUpdate_own _ rfl _ _ _ 62 rfl 2 3 fn_key Try.underlying62 _ w.heap.size i _ rfl (by exact hown) (by unfold maxLen; omega) _ _ _ rfl rfl hkey _ [] (plainElem_int Try.underlying3 (by decide)) ?_; intro w1 hown1 hgrow1))
          go_roundg k1
          case measure => have := HK.out; omega
          case rel => exact ⟨i + 1, x.set u true, _, by go_num, by rw [HF.out, if_pos (by omega)], ⟨by omega⟩, ⟨fn_step HA.out u hu _⟩, hown1, (by first | exact hb.grown hgrow1 hb.size (fun j hj => by cases hj; exact Nat.le_refl _) | exact (pw_below_drewN hb _).grown hgrow1 hb.size (fun j hj => by cases hj; exact Nat.le_refl _)), H', ⟨by have := HK.out; omega⟩⟩
        · have c5b : decide (8 ≤ (u : Int)) = false := decide_eq_false c5
          have c5c : decide (8 ≤ u) = false := decide_eq_false (by omega)
          go_wp2_with (first
            | (go_at_call 44; refine (HN.out _).mono ?_; rintro e w' ⟨rfl, ⟨nd, rfl⟩⟩)
            | (at_mapUpdate; refine wpList_mapUpdate_own _ rfl _ _ _ 62 rfl 2 3 fn_key Try.underlying62 _ w.heap.size i _ rfl (by exact hown) (by unfold maxLen; omega) _ _ _ rfl rfl hkey _ [] (plainElem_int Try.underlying3 (by decide)) ?_; intro w1 hown1 hgrow1))
          go_roundg k1
          case measure => have := HK.out; omega
          case rel => exact ⟨i + 1, x.set u true, _, by go_num, by rw [HF.out, if_neg (by omega)], ⟨by omega⟩, ⟨fn_step HA.out u hu _⟩, hown1, (by first | exact hb.grown hgrow1 hb.size (fun j hj => by cases hj; exact Nat.le_refl _) | exact (pw_below_drewN hb _).grown hgrow1 hb.size (fun j hj => by cases hj; exact Nat.le_refl _)), H', ⟨by have := HK.out; omega⟩⟩
      · rw [if_neg c2] at H
        have c2b : decide ((i : Int) < (l0.length : Int)) = false := decide_eq_false c2
        have c2c : decide (i < l0.length) = false := decide_eq_false (by omega)
        have hr := fn_l1 x hx k1 0 0 0 r H (by omega) (by omega) (by omega) (by omega) (by omega)
        have hcnt : (x.filter id).length ≤ 40 := by rw [← hx]; exact List.length_filter_le _ _
        have hfar : 0 ≤ fnFar x ∧ fnFar x ≤ 1 := by unfold fnFar; split <;> omega
        have hsz : size D = (x.filter id).length := HA.out.2.2.2
        have hrr : r = wrap64 ((size D : Int) + fnFar x) := by
          rw [hsz, hr]; simp only [List.drop_zero, show max 0 8 = 8 by rfl]
          unfold wrap64; unfold fnFar at hfar ⊢; omega
        have HR := Aside0.mk hrr
        clear H hr hcnt hsz hrr hx hfar
        go_wp2_with (at_len; refine wpList_len_own _ rfl _ 62 rfl 2 3 Try.underlying62 _ w.heap.size i _ rfl hown ?_)
        go_ret
        exact ⟨by rw [HR.out]; rfl, hb⟩
end


end Go.Proofs.Ytdkjidnagkcenaa.PFnExactFileNeed
