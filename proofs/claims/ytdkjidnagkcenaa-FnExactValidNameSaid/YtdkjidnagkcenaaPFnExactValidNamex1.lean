-- written by a program of this session (wip/src/print2.py)
import Derived.Test.YtdkjidnagkcenaaPFnExactValidNamex0
namespace Go.Proofs.Ytdkjidnagkcenaa.PFnExactValidName
open Go.RowKit Go.Proofs.YtdkjidnagkcenaaW.PrintWords Go.Proofs.YtdkjidnagkcenaaW.PrintLast Go.Proofs.YtdkjidnagkcenaaW.PrintMore
attribute [local go_sem] max2_int min2_int max_two min_two max_three min_three max_four min_four   -- for this text's walks alone
set_option linter.unusedVariables false
set_option linter.unusedSimpArgs false

/-! ### spec_l10Bytes: function 48 -/
def spec_l10Bytes.l0 : Nat → ByteArray → Int → Option (Bool)
  | 0, _, _ => none
  | k + 1, x0, x3 => if x3 < (x0.size : Int) then (if 0 ≤ x3 then (if (bt x0 x3) < 33 then (some false) else (if (bt x0 x3) > 126 then (some false) else (spec_l10Bytes.l0 k x0 (wrap64 (x3 + 1))))) else (none)) else (some true)
def spec_l10Bytes.f (k : Nat) (a0 : ByteArray) : Option (Bool) := spec_l10Bytes.l0 k a0 0
theorem spec_l10Bytes.mono_l : ∀ k, (∀ y0 y1, LeO (spec_l10Bytes.l0 k y0 y1) (spec_l10Bytes.l0 (k + 1) y0 y1))
  | 0 => fun _ _ r h => by simp [spec_l10Bytes.l0] at h
  | k + 1 => by
    have ih0 := spec_l10Bytes.mono_l k
    · intro y0 y1
      unfold spec_l10Bytes.l0
      repeat' first
      | (with_reducible exact ih0 _ _)
      | (with_reducible exact LeO.refl _)
      | (with_reducible exact LeO.none _)
      | (with_reducible refine LeO.ite ?_ ?_)
      | (with_reducible refine LeO.bind ?_ (fun _ => ?_))
      | exact ih0 _ _
      | exact LeO.none _
      | refine LeO.ite ?_ ?_
      | refine LeO.bind ?_ (fun _ => ?_)
theorem spec_l10Bytes.mono : ∀ a0 k, LeO (spec_l10Bytes.f k a0) (spec_l10Bytes.f (k + 1) a0) := by
  intro a0 k
  have ih0 := spec_l10Bytes.mono_l k
  unfold spec_l10Bytes.f
  repeat' first
      | (with_reducible exact ih0 _ _)
      | (with_reducible exact LeO.refl _)
      | (with_reducible exact LeO.none _)
      | (with_reducible refine LeO.ite ?_ ?_)
      | (with_reducible refine LeO.bind ?_ (fun _ => ?_))
      | exact ih0 _ _
      | exact LeO.none _
      | refine LeO.ite ?_ ?_
      | refine LeO.bind ?_ (fun _ => ?_)
set_option maxHeartbeats 8000000 in
set_option maxRecDepth 100000 in
theorem spec_l10Bytes.calls (k : Nat) (a0 : ByteArray) (r : Bool) (w : World) (h : spec_l10Bytes.f k a0 = some r) :
    Calls Try.prog 48 #[.string a0] w fun e w' => e = .returned (.bool r) ∧ Drawn0 w w' := by
  have H : (spec_l10Bytes.l0 k a0 0) = some r := h
  clear h
  have H' := Aside0.mk H
  clear H
  go_enter Try.func48, Try.ntmps48
  go_wp2
  go_loopg [3] k (fun kq v3 w' => ∃ (x3_1 : Int), v3 = .int .i64 x3_1 ∧ Aside0 (spec_l10Bytes.l0 kq a0 x3_1 = some r) ∧ Aside0 (kq ≤ k) ∧ Drawn0 w w')
  case atStart => exact ⟨(0), (by first | rfl | (simp; done) | (simp [*]; done)), H', ⟨Nat.le_refl _⟩, by repeat (first | exact Drawn0.refl _ | apply Drawn0.step)⟩
  case round =>
    clear H'
    obtain ⟨x3_1, rfl, HA, HK1, ⟨m1, rfl⟩⟩ := hrel
    cases gk with
    | zero => exact absurd HA.out (by simp [spec_l10Bytes.l0])
    | succ k1 =>
      have H := HA.out
      clear HA
      simp only [spec_l10Bytes.l0] at H
      by_cases c2 : x3_1 < (a0.size : Int)
      · rw [if_pos c2] at H
        have c2b0 : decide (x3_1 < (a0.size : Int)) = true := decide_eq_true c2
        clear c2
        by_cases c3 : 0 ≤ x3_1
        · rw [if_pos c3] at H
          have c3b0 : decide (0 ≤ x3_1) = true := decide_eq_true c3
          clear c3
          by_cases c5 : (bt a0 x3_1) < 33
          · rw [if_pos c5] at H
            have c5b0 : decide ((bt a0 x3_1) < 33) = true := decide_eq_true c5
            clear c5
            obtain rfl := Option.some.inj H
            have p4 : 0 ≤ (x3_1 : Int) := of_decide_eq_true (by first | (with_reducible assumption) | assumption)
            have q4 : x3_1 < (a0.size : Int) := of_decide_eq_true (by first | (with_reducible assumption) | assumption)
            have hx4 := bt_at a0 x3_1
            replace p4 := eq_true p4
            replace q4 := eq_true q4
            go_wp2
            go_ret
            exact ⟨by first | rfl | (simp; done) | (simp [*]; done), by repeat (first | exact Drawn0.refl _ | apply Drawn0.step)⟩
          · rw [if_neg c5] at H
            have c5b0 : decide ((bt a0 x3_1) < 33) = false := decide_eq_false c5
            clear c5
            by_cases c7 : (bt a0 x3_1) > 126
            · rw [if_pos c7] at H
              have c7b0 : decide (126 < (bt a0 x3_1)) = true := decide_eq_true c7
              clear c7
              obtain rfl := Option.some.inj H
              have p4 : 0 ≤ (x3_1 : Int) := of_decide_eq_true (by first | (with_reducible assumption) | assumption)
              have q4 : x3_1 < (a0.size : Int) := of_decide_eq_true (by first | (with_reducible assumption) | assumption)
              have hx4 := bt_at a0 x3_1
              replace p4 := eq_true p4
              replace q4 := eq_true q4
              have p6 : 0 ≤ (x3_1 : Int) := of_decide_eq_true (by first | (with_reducible assumption) | assumption)
              have q6 : x3_1 < (a0.size : Int) := of_decide_eq_true (by first | (with_reducible assumption) | assumption)
              have hx6 := bt_at a0 x3_1
              replace p6 := eq_true p6
              replace q6 := eq_true q6
              go_wp2
              go_ret
              exact ⟨by first | rfl | (simp; done) | (simp [*]; done), by repeat (first | exact Drawn0.refl _ | apply Drawn0.step)⟩
            · rw [if_neg c7] at H
              have c7b0 : decide (126 < (bt a0 x3_1)) = false := decide_eq_false c7
              clear c7
              have H' := Aside0.mk H
              clear H
              have p4 : 0 ≤ (x3_1 : Int) := of_decide_eq_true (by first | (with_reducible assumption) | assumption)
              have q4 : x3_1 < (a0.size : Int) := of_decide_eq_true (by first | (with_reducible assumption) | assumption)
              have hx4 := bt_at a0 x3_1
              replace p4 := eq_true p4
              replace q4 := eq_true q4
              have p6 : 0 ≤ (x3_1 : Int) := of_decide_eq_true (by first | (with_reducible assumption) | assumption)
              have q6 : x3_1 < (a0.size : Int) := of_decide_eq_true (by first | (with_reducible assumption) | assumption)
              have hx6 := bt_at a0 x3_1
              replace p6 := eq_true p6
              replace q6 := eq_true q6
              go_wp2
              go_roundg k1
              case measure => have := HK1.out; omega
              case rel => exact ⟨(wrap64 (x3_1 + 1)), (by first | rfl | (simp; done) | (simp [*]; done)), H', ⟨by have := HK1.out; omega⟩, by repeat (first | exact Drawn0.refl _ | apply Drawn0.step)⟩
        · rw [if_neg c3] at H
          exact absurd H (by simp)
      · rw [if_neg c2] at H
        have c2b0 : decide (x3_1 < (a0.size : Int)) = false := decide_eq_false c2
        clear c2
        obtain rfl := Option.some.inj H
        go_wp2
        go_ret
        exact ⟨by first | rfl | (simp; done) | (simp [*]; done), by repeat (first | exact Drawn0.refl _ | apply Drawn0.step)⟩

/-! ### spec_l10Cut: function 49 -/
def spec_l10Cut.l0 : Nat → ByteArray → Int → List ByteArray → Int → Int → Option (List ByteArray)
  | 0, _, _, _, _, _ => none
  | k + 1, x0, x1, x5, x6, x7 => if x7 < (x0.size : Int) then (if 0 ≤ x7 then (if (bt x0 x7) = x1 then (if 0 ≤ x6 then (if x6 ≤ x7 then (if x7 ≤ (x0.size : Int) then (if x5.length < 8796093022208 then (spec_l10Cut.l0 k x0 x1 (x5 ++ [x0.extract (x6 : Int).toNat (x7 : Int).toNat]) (wrap64 (x7 + 1)) (wrap64 (x7 + 1))) else (none)) else (none)) else (none)) else (none)) else (spec_l10Cut.l0 k x0 x1 x5 x6 (wrap64 (x7 + 1)))) else (none)) else (if 0 ≤ x6 then (if x6 ≤ (x0.size : Int) then (if x5.length < 8796093022208 then (some (x5 ++ [x0.extract (x6 : Int).toNat x0.size])) else (none)) else (none)) else (none))
def spec_l10Cut.f (k : Nat) (a0 : ByteArray) (a1 : Int) : Option (List ByteArray) := spec_l10Cut.l0 k a0 a1 (([] : List ByteArray)) 0 0
theorem spec_l10Cut.mono_l : ∀ k, (∀ y0 y1 y2 y3 y4, LeO (spec_l10Cut.l0 k y0 y1 y2 y3 y4) (spec_l10Cut.l0 (k + 1) y0 y1 y2 y3 y4))
  | 0 => fun _ _ _ _ _ r h => by simp [spec_l10Cut.l0] at h
  | k + 1 => by
    have ih0 := spec_l10Cut.mono_l k
    · intro y0 y1 y2 y3 y4
      unfold spec_l10Cut.l0
      repeat' first
      | (with_reducible exact ih0 _ _ _ _ _)
      | (with_reducible exact LeO.refl _)
      | (with_reducible exact LeO.none _)
      | (with_reducible refine LeO.ite ?_ ?_)
      | (with_reducible refine LeO.bind ?_ (fun _ => ?_))
      | exact ih0 _ _ _ _ _
      | exact LeO.none _
      | refine LeO.ite ?_ ?_
      | refine LeO.bind ?_ (fun _ => ?_)
theorem spec_l10Cut.mono : ∀ a0 a1 k, LeO (spec_l10Cut.f k a0 a1) (spec_l10Cut.f (k + 1) a0 a1) := by
  intro a0 a1 k
  have ih0 := spec_l10Cut.mono_l k
  unfold spec_l10Cut.f
  repeat' first
      | (with_reducible exact ih0 _ _ _ _ _)
      | (with_reducible exact LeO.refl _)
      | (with_reducible exact LeO.none _)
      | (with_reducible refine LeO.ite ?_ ?_)
      | (with_reducible refine LeO.bind ?_ (fun _ => ?_))
      | exact ih0 _ _ _ _ _
      | exact LeO.none _
      | refine LeO.ite ?_ ?_
      | refine LeO.bind ?_ (fun _ => ?_)
set_option maxHeartbeats 8000000 in
set_option maxRecDepth 100000 in
theorem spec_l10Cut.calls (k : Nat) (a0 : ByteArray) (a1 : Int) (r : List ByteArray) (w : World) (h : spec_l10Cut.f k a0 a1 = some r) :
    Calls Try.prog 49 #[.string a0, .int .u8 a1] w fun e w' => ∃ v0_ : Value, e = .returned (v0_) ∧ Kd.R Kd.string 9 w' w.heap.size (fun _ => True) v0_ r ∧ Below w.heap.size w w' := by
  have HB := Aside0.mk (Below.refl w.heap.size w)
  have H : (spec_l10Cut.l0 k a0 a1 (([] : List ByteArray)) 0 0) = some r := h
  clear h
  obtain ⟨y101, hy101⟩ : ∃ y_ : List ByteArray, y_ = (([] : List ByteArray)) := ⟨_, rfl⟩
  replace H : (spec_l10Cut.l0 k a0 a1 y101 0 0) = some r := by first | (rw [hy101]; with_reducible exact H) | (have H2_ := (Option.bind_some _ _).symm.trans H; rw [hy101]; with_reducible exact H2_) | (have H2_ := (Option.bind_some _ _).symm.trans H; with_reducible exact H2_) | with_reducible exact H | (rw [hy101]; exact H) | exact H
  have Ny101 := Aside0.mk hy101
  clear hy101
  have H' := Aside0.mk H
  clear H
  go_enter Try.func49, Try.ntmps49
  go_wp2_with (first | ((with_reducible refine gate_dst (N := 8) rfl ?_); refine Kd.R_lit Kd.string _ 9 ?hg (N := 8) ?hd (xs := ([] : List ByteArray)) (inner := []) (ok := fun _ => True) (okp := fun _ => True) ?hr ?hp (fun _ hk => hk) trivial (Below.refl _ _) (Nat.le_refl _) (by simp) ?_; (case hd => rfl); (case hg => rfl); (case hr => first | (go_simp; done) | (go_simp; rfl)); (case hp => exact (Reps.none _ _)); intro v102 w3 ho4 hb hg_ hnew_; clear hg_ hnew_; (first | rw [← Ny101.out] at ho4 | (simp only [Int.reduceToNat] at ho4; rw [← Ny101.out] at ho4)); have n0_ := Aside0.mk (Kd.R_lower ho4 (below_size (by repeat (first | (with_reducible first | exact HB.out | apply below_alloc | apply pw_below_drewN | apply below_drew1) | exact HB.out)))); have n1_ := Aside0.mk (below_step (by repeat (first | (with_reducible first | exact HB.out | apply below_alloc | apply pw_below_drewN | apply below_drew1) | exact HB.out)) hb); clear HB; have HO103 := n0_; have HB := n1_; clear n0_ n1_; clear hb ho4))
  go_loopg [5, 6, 7] k (fun kq v5 v6 v7 w' => ∃ (x5_1 : List ByteArray) (x6_1 : Int) (x7_1 : Int), v6 = .int .i64 x6_1 ∧ v7 = .int .i64 x7_1 ∧ Aside0 (spec_l10Cut.l0 kq a0 a1 x5_1 x6_1 x7_1 = some r) ∧ Aside0 (kq ≤ k) ∧ Aside0 (Kd.R Kd.string 9 w' w.heap.size (fun _ => True) v5 x5_1) ∧ Aside0 (Below w.heap.size w w'))
  case atStart => exact ⟨(y101), (0), (0), (by first | rfl | (simp; done) | (simp [*]; done)), (by first | rfl | (simp; done) | (simp [*]; done)), H', ⟨Nat.le_refl _⟩, ⟨by (with_reducible repeat (first | apply Kd.R_alloc | apply Kd.R_drewN | apply Kd.R_drew)); exact HO103.out⟩, ⟨by repeat (first | (with_reducible first | exact HB.out | apply below_alloc | apply pw_below_drewN | apply below_drew1) | exact HB.out)⟩⟩
  case round =>
    clear H'
    try clear p2
    try clear c4
    obtain ⟨x5_1, x6_1, x7_1, rfl, rfl, HA, HK1, HO_5, HB⟩ := hrel
    cases gk with
    | zero => exact absurd HA.out (by simp [spec_l10Cut.l0])
    | succ k1 =>
      have H := HA.out
      clear HA
      simp only [spec_l10Cut.l0] at H
      by_cases c5 : x7_1 < (a0.size : Int)
      · rw [if_pos c5] at H
        have c5b0 : decide (x7_1 < (a0.size : Int)) = true := decide_eq_true c5
        clear c5
        by_cases c6 : 0 ≤ x7_1
        · rw [if_pos c6] at H
          have c6b0 : decide (0 ≤ x7_1) = true := decide_eq_true c6
          clear c6
          by_cases c8 : (bt a0 x7_1) = a1
          · rw [if_pos c8] at H
            have c8b0 : ((bt a0 x7_1) == a1) = true := beq_iff_eq.mpr c8
            have c8b1 : ((bt a0 x7_1) != a1) = false := bne_eq_false_iff_eq.mpr c8
            clear c8
            by_cases c9 : 0 ≤ x6_1
            · rw [if_pos c9] at H
              have c9b0 := eq_true c9
              have c9b1 : decide (0 ≤ x6_1) = true := decide_eq_true c9
              clear c9
              by_cases c10 : x6_1 ≤ x7_1
              · rw [if_pos c10] at H
                have c10b0 := eq_true c10
                have c10b1 : decide (x6_1 ≤ x7_1) = true := decide_eq_true c10
                clear c10
                by_cases c11 : x7_1 ≤ (a0.size : Int)
                · rw [if_pos c11] at H
                  have c11b0 := eq_true c11
                  have c11b1 : decide (x7_1 ≤ (a0.size : Int)) = true := decide_eq_true c11
                  clear c11
                  by_cases c12 : x5_1.length < 8796093022208
                  · rw [if_pos c12] at H
                    have LMc12 := Aside0.mk c12
                    clear c12
                    obtain ⟨y104, hy104⟩ : ∃ y_ : List ByteArray, y_ = (x5_1 ++ [a0.extract (x6_1 : Int).toNat (x7_1 : Int).toNat]) := ⟨_, rfl⟩
                    replace H : (spec_l10Cut.l0 k1 a0 a1 y104 (wrap64 (x7_1 + 1)) (wrap64 (x7_1 + 1))) = some r := by first | (rw [hy104]; with_reducible exact H) | (have H2_ := (Option.bind_some _ _).symm.trans H; rw [hy104]; with_reducible exact H2_) | (have H2_ := (Option.bind_some _ _).symm.trans H; with_reducible exact H2_) | with_reducible exact H | (rw [hy104]; exact H) | exact H
                    have Ny104 := Aside0.mk hy104
                    clear hy104
                    have H' := Aside0.mk H
                    clear H
                    have p7 : 0 ≤ (x7_1 : Int) := of_decide_eq_true (by first | (with_reducible assumption) | assumption)
                    have q7 : x7_1 < (a0.size : Int) := of_decide_eq_true (by first | (with_reducible assumption) | assumption)
                    have hx7 := bt_at a0 x7_1
                    replace p7 := eq_true p7
                    replace q7 := eq_true q7
                    go_wp2_with (first | ((with_reducible refine gate_builtin (b := .append) (xs := #[.tmp 20, .tmp 25]) rfl ?_); at_builtin; refine Kd.R_append Kd.string (w0 := w) w.heap.size rfl (.tmp 20) (.tmp 25) 55 9 (.string ⟨#[]⟩) 16 rfl Try.underlying55 info9 rfl (by decide) (by omega) u5 x5_1 (a0.extract (x6_1 : Int).toNat (x7_1 : Int).toNat) [.string (a0.extract (x6_1 : Int).toNat (x7_1 : Int).toNat)] (fun _ => True) (fun _ => False) rfl rfl ?aP (fun _ hk => hk.elim) ?aF ?aO ?aB ?aS ?aL ?_; (case aP => exact rfl); (case aB => exact (by repeat (first | (with_reducible first | exact HB.out | apply below_alloc | apply pw_below_drewN | apply below_drew1) | exact HB.out))); (case aF => exact (fun _ _ => trivial)); (case aO => exact (by (with_reducible repeat (first | apply Kd.R_alloc | apply Kd.R_drewN | apply Kd.R_drew)); exact HO_5.out)); (case aS => exact (below_size (by repeat (first | (with_reducible first | exact HB.out | apply below_alloc | apply pw_below_drewN | apply below_drew1) | exact HB.out)))); (case aL => have := LMc12.out; omega); intro v105 w13 ho hb hg hat; rw [← Ny104.out] at ho; have n0_ := Aside0.mk (hb); have n1_ := Aside0.mk (ho); clear HB; clear HO_5; have HB := n0_; have HO106 := n1_; clear n0_ n1_; clear ho hb hg hat))
                    go_roundg k1
                    case measure => have := HK1.out; omega
                    case rel => exact ⟨(y104), (wrap64 (x7_1 + 1)), (wrap64 (x7_1 + 1)), (by first | rfl | (simp; done) | (simp [*]; done)), (by first | rfl | (simp; done) | (simp [*]; done)), H', ⟨by have := HK1.out; omega⟩, ⟨by (with_reducible repeat (first | apply Kd.R_alloc | apply Kd.R_drewN | apply Kd.R_drew)); exact HO106.out⟩, ⟨by repeat (first | (with_reducible first | exact HB.out | apply below_alloc | apply pw_below_drewN | apply below_drew1) | exact HB.out)⟩⟩
                  · rw [if_neg c12] at H
                    exact absurd H (by simp)
                · rw [if_neg c11] at H
                  exact absurd H (by simp)
              · rw [if_neg c10] at H
                exact absurd H (by simp)
            · rw [if_neg c9] at H
              exact absurd H (by simp)
          · rw [if_neg c8] at H
            have c8b0 : ((bt a0 x7_1) == a1) = false := beq_eq_false_iff_ne.mpr c8
            have c8b1 : ((bt a0 x7_1) != a1) = true := bne_iff_ne.mpr c8
            have H' := Aside0.mk H
            clear H
            have p7 : 0 ≤ (x7_1 : Int) := of_decide_eq_true (by first | (with_reducible assumption) | assumption)
            have q7 : x7_1 < (a0.size : Int) := of_decide_eq_true (by first | (with_reducible assumption) | assumption)
            have hx7 := bt_at a0 x7_1
            replace p7 := eq_true p7
            replace q7 := eq_true q7
            go_wp2
            go_roundg k1
            case measure => have := HK1.out; omega
            case rel => exact ⟨(x5_1), (x6_1), (wrap64 (x7_1 + 1)), (by first | rfl | (simp; done) | (simp [*]; done)), (by first | rfl | (simp; done) | (simp [*]; done)), H', ⟨by have := HK1.out; omega⟩, ⟨by (with_reducible repeat (first | apply Kd.R_alloc | apply Kd.R_drewN | apply Kd.R_drew)); exact HO_5.out⟩, ⟨by repeat (first | (with_reducible first | exact HB.out | apply below_alloc | apply pw_below_drewN | apply below_drew1) | exact HB.out)⟩⟩
        · rw [if_neg c6] at H
          exact absurd H (by simp)
      · rw [if_neg c5] at H
        have c5b0 : decide (x7_1 < (a0.size : Int)) = false := decide_eq_false c5
        clear c5
        by_cases c14 : 0 ≤ x6_1
        · rw [if_pos c14] at H
          have c14b0 := eq_true c14
          have c14b1 : decide (0 ≤ x6_1) = true := decide_eq_true c14
          clear c14
          by_cases c15 : x6_1 ≤ (a0.size : Int)
          · rw [if_pos c15] at H
            have c15b0 := eq_true c15
            have c15b1 : decide (x6_1 ≤ (a0.size : Int)) = true := decide_eq_true c15
            clear c15
            by_cases c16 : x5_1.length < 8796093022208
            · rw [if_pos c16] at H
              have LMc16 := Aside0.mk c16
              clear c16
              obtain ⟨y107, hy107⟩ : ∃ y_ : List ByteArray, y_ = (x5_1 ++ [a0.extract (x6_1 : Int).toNat a0.size]) := ⟨_, rfl⟩
              replace H : (some y107) = some r := by first | (rw [hy107]; with_reducible exact H) | (have H2_ := (Option.bind_some _ _).symm.trans H; rw [hy107]; with_reducible exact H2_) | (have H2_ := (Option.bind_some _ _).symm.trans H; with_reducible exact H2_) | with_reducible exact H | (rw [hy107]; exact H) | exact H
              have Ny107 := Aside0.mk hy107
              clear hy107
              obtain rfl := Option.some.inj H
              go_wp2_with (first | ((with_reducible refine gate_builtin (b := .append) (xs := #[.tmp 29, .tmp 33]) rfl ?_); at_builtin; refine Kd.R_append Kd.string (w0 := w) w.heap.size rfl (.tmp 29) (.tmp 33) 55 9 (.string ⟨#[]⟩) 16 rfl Try.underlying55 info9 rfl (by decide) (by omega) u5 x5_1 (a0.extract (x6_1 : Int).toNat a0.size) [.string (a0.extract (x6_1 : Int).toNat a0.size)] (fun _ => True) (fun _ => False) rfl rfl ?aP (fun _ hk => hk.elim) ?aF ?aO ?aB ?aS ?aL ?_; (case aP => exact rfl); (case aB => exact (by repeat (first | (with_reducible first | exact HB.out | apply below_alloc | apply pw_below_drewN | apply below_drew1) | exact HB.out))); (case aF => exact (fun _ _ => trivial)); (case aO => exact (by (with_reducible repeat (first | apply Kd.R_alloc | apply Kd.R_drewN | apply Kd.R_drew)); exact HO_5.out)); (case aS => exact (below_size (by repeat (first | (with_reducible first | exact HB.out | apply below_alloc | apply pw_below_drewN | apply below_drew1) | exact HB.out)))); (case aL => have := LMc16.out; omega); intro v108 w17 ho hb hg hat; rw [← Ny107.out] at ho; have n0_ := Aside0.mk (hb); have n1_ := Aside0.mk (ho); clear HB; clear HO_5; have HB := n0_; have HO109 := n1_; clear n0_ n1_; clear ho hb hg hat))
              go_ret
              exact ⟨_, by first | rfl | (simp [errW_none, errW_some] <;> rfl) | (simp [*, errW_none, errW_some] <;> rfl), by (with_reducible repeat (first | apply Kd.R_alloc | apply Kd.R_drewN | apply Kd.R_drew)); exact HO109.out, by repeat (first | (with_reducible first | exact HB.out | apply below_alloc | apply pw_below_drewN | apply below_drew1) | exact HB.out)⟩
            · rw [if_neg c16] at H
              exact absurd H (by simp)
          · rw [if_neg c15] at H
            exact absurd H (by simp)
        · rw [if_neg c14] at H
          exact absurd H (by simp)

/-! ### spec_ValidName: function 20 -/
def spec_ValidName.f (k : Nat) (a0 : ByteArray) : Option (Bool) := (spec_l10Bytes.f k a0).bind fun t110 => (if t110 = true then (if (a0.size : Int) < 1 then (some false) else (if (a0.size : Int) > 13 then (some false) else (if a0.toList = ([46] : List UInt8) then (some false) else (if a0.toList = ([46, 46] : List UInt8) then (some false) else ((spec_l10Cut.f k a0 47).bind fun t111 => (some ((t111.length : Int) == 1))))))) else (some false))
theorem spec_ValidName.mono : ∀ a0 k, LeO (spec_ValidName.f k a0) (spec_ValidName.f (k + 1) a0) := by
  intro a0 k
  unfold spec_ValidName.f
  repeat' first
      | (with_reducible exact spec_l10Bytes.mono _ _)
      | (with_reducible exact spec_l10Cut.mono _ _ _)
      | (with_reducible exact LeO.refl _)
      | (with_reducible exact LeO.none _)
      | (with_reducible refine LeO.ite ?_ ?_)
      | (with_reducible refine LeO.bind ?_ (fun _ => ?_))
      | exact spec_l10Bytes.mono _ _
      | exact spec_l10Cut.mono _ _ _
      | exact LeO.none _
      | refine LeO.ite ?_ ?_
      | refine LeO.bind ?_ (fun _ => ?_)
set_option maxHeartbeats 8000000 in
set_option maxRecDepth 100000 in
theorem spec_ValidName.calls (k : Nat) (a0 : ByteArray) (r : Bool) (w : World) (h : spec_ValidName.f k a0 = some r) :
    Calls Try.prog 20 #[.string a0] w fun e w' => e = .returned (.bool r) ∧ Below w.heap.size w w' := by
  have HB := Aside0.mk (Below.refl w.heap.size w)
  have H : ((spec_l10Bytes.f k a0).bind fun t110 => (if t110 = true then (if (a0.size : Int) < 1 then (some false) else (if (a0.size : Int) > 13 then (some false) else (if a0.toList = ([46] : List UInt8) then (some false) else (if a0.toList = ([46, 46] : List UInt8) then (some false) else ((spec_l10Cut.f k a0 47).bind fun t111 => (some ((t111.length : Int) == 1))))))) else (some false))) = some r := h
  clear h
  replace H := Option.bind_eq_some_iff.mp H
  obtain ⟨t110, A20, H⟩ := H
  replace H : (if t110 = true then (if (a0.size : Int) < 1 then (some false) else (if (a0.size : Int) > 13 then (some false) else (if a0.toList = ([46] : List UInt8) then (some false) else (if a0.toList = ([46, 46] : List UInt8) then (some false) else ((spec_l10Cut.f k a0 47).bind fun t111 => (some ((t111.length : Int) == 1))))))) else (some false)) = some r := H
  have A2 := Aside0.mk A20
  clear A20
  by_cases c3 : t110 = true
  · subst c3
    have H1 : (if (a0.size : Int) < 1 then (some false) else (if (a0.size : Int) > 13 then (some false) else (if a0.toList = ([46] : List UInt8) then (some false) else (if a0.toList = ([46, 46] : List UInt8) then (some false) else ((spec_l10Cut.f k a0 47).bind fun t111 => (some ((t111.length : Int) == 1))))))) = some r := by rw [if_pos rfl] at H; exact H
    clear H
    have H := H1
    clear H1
    by_cases c4 : (a0.size : Int) < 1
    · rw [if_pos c4] at H
      have c4b0 : decide ((a0.size : Int) < 1) = true := decide_eq_true c4
      have c4b1 : decide (a0.size < 1) = true := decide_eq_true (by omega)
      clear c4
      obtain rfl := Option.some.inj H
      go_enter Try.func20, Try.ntmps20
      go_wp2_with (first | ((with_reducible refine gate_callee (f := 48) rfl ?_); refine goesL_ (some 5) rfl rfl Try.func48 (by kernel_rfl) rfl #[.string a0] rfl (by (try simp only [List.map_toArray, List.map_cons, List.map_nil]); first | done | rfl | (simp only [List.length_drop, List.length_take]; rfl)) ?_; (with_reducible refine (spec_l10Bytes.calls k a0 true _ A2.out).mono ?_); rintro e w' ⟨rfl, ⟨nd, rfl⟩⟩; refine ⟨_, rfl, ?_⟩))
      go_ret
      exact ⟨by first | rfl | (simp [errW_none, errW_some] <;> rfl) | (simp [*, errW_none, errW_some] <;> rfl), by repeat (first | (with_reducible first | exact HB.out | apply below_alloc | apply pw_below_drewN | apply below_drew1) | exact HB.out)⟩
    · rw [if_neg c4] at H
      have c4b0 : decide ((a0.size : Int) < 1) = false := decide_eq_false c4
      have c4b1 : decide (a0.size < 1) = false := decide_eq_false (by omega)
      clear c4
      by_cases c5 : (a0.size : Int) > 13
      · rw [if_pos c5] at H
        have c5b0 : decide (13 < (a0.size : Int)) = true := decide_eq_true c5
        have c5b1 : decide (13 < a0.size) = true := decide_eq_true (by omega)
        clear c5
        obtain rfl := Option.some.inj H
        go_enter Try.func20, Try.ntmps20
        go_wp2_with (first | ((with_reducible refine gate_callee (f := 48) rfl ?_); refine goesL_ (some 5) rfl rfl Try.func48 (by kernel_rfl) rfl #[.string a0] rfl (by (try simp only [List.map_toArray, List.map_cons, List.map_nil]); first | done | rfl | (simp only [List.length_drop, List.length_take]; rfl)) ?_; (with_reducible refine (spec_l10Bytes.calls k a0 true _ A2.out).mono ?_); rintro e w' ⟨rfl, ⟨nd, rfl⟩⟩; refine ⟨_, rfl, ?_⟩))
        go_ret
        exact ⟨by first | rfl | (simp [errW_none, errW_some] <;> rfl) | (simp [*, errW_none, errW_some] <;> rfl), by repeat (first | (with_reducible first | exact HB.out | apply below_alloc | apply pw_below_drewN | apply below_drew1) | exact HB.out)⟩
      · rw [if_neg c5] at H
        have c5b0 : decide (13 < (a0.size : Int)) = false := decide_eq_false c5
        have c5b1 : decide (13 < a0.size) = false := decide_eq_false (by omega)
        clear c5
        by_cases c6 : a0.toList = ([46] : List UInt8)
        · rw [if_pos c6] at H
          have c6b0 : (a0.toList == ([46] : List UInt8)) = true := beq_iff_eq.mpr c6
          have c6b1 : (a0.toList != ([46] : List UInt8)) = false := bne_eq_false_iff_eq.mpr c6
          clear c6
          obtain rfl := Option.some.inj H
          go_enter Try.func20, Try.ntmps20
          go_wp2_with (first | ((with_reducible refine gate_callee (f := 48) rfl ?_); refine goesL_ (some 5) rfl rfl Try.func48 (by kernel_rfl) rfl #[.string a0] rfl (by (try simp only [List.map_toArray, List.map_cons, List.map_nil]); first | done | rfl | (simp only [List.length_drop, List.length_take]; rfl)) ?_; (with_reducible refine (spec_l10Bytes.calls k a0 true _ A2.out).mono ?_); rintro e w' ⟨rfl, ⟨nd, rfl⟩⟩; refine ⟨_, rfl, ?_⟩))
          go_ret
          exact ⟨by first | rfl | (simp [errW_none, errW_some] <;> rfl) | (simp [*, errW_none, errW_some] <;> rfl), by repeat (first | (with_reducible first | exact HB.out | apply below_alloc | apply pw_below_drewN | apply below_drew1) | exact HB.out)⟩
        · rw [if_neg c6] at H
          have c6b0 : (a0.toList == ([46] : List UInt8)) = false := beq_eq_false_iff_ne.mpr c6
          have c6b1 : (a0.toList != ([46] : List UInt8)) = true := bne_iff_ne.mpr c6
          by_cases c7 : a0.toList = ([46, 46] : List UInt8)
          · rw [if_pos c7] at H
            have c7b0 : (a0.toList == ([46, 46] : List UInt8)) = true := beq_iff_eq.mpr c7
            have c7b1 : (a0.toList != ([46, 46] : List UInt8)) = false := bne_eq_false_iff_eq.mpr c7
            clear c7
            obtain rfl := Option.some.inj H
            go_enter Try.func20, Try.ntmps20
            go_wp2_with (first | ((with_reducible refine gate_callee (f := 48) rfl ?_); refine goesL_ (some 5) rfl rfl Try.func48 (by kernel_rfl) rfl #[.string a0] rfl (by (try simp only [List.map_toArray, List.map_cons, List.map_nil]); first | done | rfl | (simp only [List.length_drop, List.length_take]; rfl)) ?_; (with_reducible refine (spec_l10Bytes.calls k a0 true _ A2.out).mono ?_); rintro e w' ⟨rfl, ⟨nd, rfl⟩⟩; refine ⟨_, rfl, ?_⟩))
            go_ret
            exact ⟨by first | rfl | (simp [errW_none, errW_some] <;> rfl) | (simp [*, errW_none, errW_some] <;> rfl), by repeat (first | (with_reducible first | exact HB.out | apply below_alloc | apply pw_below_drewN | apply below_drew1) | exact HB.out)⟩
          · rw [if_neg c7] at H
            have c7b0 : (a0.toList == ([46, 46] : List UInt8)) = false := beq_eq_false_iff_ne.mpr c7
            have c7b1 : (a0.toList != ([46, 46] : List UInt8)) = true := bne_iff_ne.mpr c7
            replace H := Option.bind_eq_some_iff.mp H
            obtain ⟨t111, A80, H⟩ := H
            replace H : (some ((t111.length : Int) == 1)) = some r := H
            have A8 := Aside0.mk A80
            clear A80
            obtain rfl := Option.some.inj H
            go_enter Try.func20, Try.ntmps20
            go_wp2_with (first | ((with_reducible refine gate_callee (f := 48) rfl ?_); refine goesL_ (some 5) rfl rfl Try.func48 (by kernel_rfl) rfl #[.string a0] rfl (by (try simp only [List.map_toArray, List.map_cons, List.map_nil]); first | done | rfl | (simp only [List.length_drop, List.length_take]; rfl)) ?_; (with_reducible refine (spec_l10Bytes.calls k a0 true _ A2.out).mono ?_); rintro e w' ⟨rfl, ⟨nd, rfl⟩⟩; refine ⟨_, rfl, ?_⟩) | ((with_reducible refine gate_callee (f := 49) rfl ?_); refine goesL_ (some 27) rfl rfl Try.func49 (by kernel_rfl) rfl #[.string a0, .int .u8 47] rfl (by (try simp only [List.map_toArray, List.map_cons, List.map_nil]); first | done | rfl | (simp only [List.length_drop, List.length_take]; rfl)) ?_; (with_reducible refine (spec_l10Cut.calls k a0 47 t111 _ A8.out).mono ?_); rintro e w9 ⟨v112, rfl, ho0, hb⟩; refine ⟨_, rfl, ?_⟩; have n0_ := Aside0.mk (Kd.R_lower ho0 (below_size (by repeat (first | (with_reducible first | exact HB.out | apply below_alloc | apply pw_below_drewN | apply below_drew1) | exact HB.out)))); have n1_ := Aside0.mk (below_step (by repeat (first | (with_reducible first | exact HB.out | apply below_alloc | apply pw_below_drewN | apply below_drew1) | exact HB.out)) hb); clear HB; have HO113 := n0_; have HB := n1_; clear n0_ n1_; (try clear hb); (try clear hb2); (try clear hk); (try clear hi); (try clear ho0); obtain ⟨Ao10, co10, eo10⟩ := Kd.R_slice HO113.out; subst eo10))
            go_ret
            exact ⟨by first | rfl | (simp [errW_none, errW_some] <;> rfl) | (simp [*, errW_none, errW_some] <;> rfl), by repeat (first | (with_reducible first | exact HB.out | apply below_alloc | apply pw_below_drewN | apply below_drew1) | exact HB.out)⟩
  · replace c3 := Bool.eq_false_iff.mpr c3
    subst c3
    have H1 : (some false) = some r := by rw [if_neg (show ¬ (false = true) by decide)] at H; exact H
    clear H
    have H := H1
    clear H1
    obtain rfl := Option.some.inj H
    go_enter Try.func20, Try.ntmps20
    go_wp2_with (first | ((with_reducible refine gate_callee (f := 48) rfl ?_); refine goesL_ (some 5) rfl rfl Try.func48 (by kernel_rfl) rfl #[.string a0] rfl (by (try simp only [List.map_toArray, List.map_cons, List.map_nil]); first | done | rfl | (simp only [List.length_drop, List.length_take]; rfl)) ?_; (with_reducible refine (spec_l10Bytes.calls k a0 false _ A2.out).mono ?_); rintro e w' ⟨rfl, ⟨nd, rfl⟩⟩; refine ⟨_, rfl, ?_⟩))
    go_ret
    exact ⟨by first | rfl | (simp [errW_none, errW_some] <;> rfl) | (simp [*, errW_none, errW_some] <;> rfl), by repeat (first | (with_reducible first | exact HB.out | apply below_alloc | apply pw_below_drewN | apply below_drew1) | exact HB.out)⟩

/-! ### impl_ValidName: function 21 -/
def impl_ValidName.f (k : Nat) (a0 : ByteArray) : Option (Bool) := spec_ValidName.f k a0
theorem impl_ValidName.mono : ∀ a0 k, LeO (impl_ValidName.f k a0) (impl_ValidName.f (k + 1) a0) :=spec_ValidName.mono

/-- Byte j is one of a name's. -/
def vnGood (s : ByteArray) (j : Nat) : Prop := 33 ≤ bt s (j : Int) ∧ bt s (j : Int) ≤ 126 ∧ bt s (j : Int) ≠ 47
def vnAll (s : ByteArray) : Prop := 1 ≤ s.size ∧ s.size ≤ 13 ∧ s.toList ≠ [46] ∧ s.toList ≠ [46, 46] ∧ ∀ j, j < s.size → vnGood s j
theorem vn_bytes (s : ByteArray) (hs : s.size ≤ 13) : ∀ (k i : Nat) (r : Bool), spec_l10Bytes.l0 k s (i : Int) = some r → (r = true ↔ ∀ j, i ≤ j → j < s.size → 33 ≤ bt s (j : Int) ∧ bt s (j : Int) ≤ 126) := by
  intro k
  induction k with
  | zero => intro i r h; simp [spec_l10Bytes.l0] at h
  | succ k ih =>
    intro i r h
    simp only [spec_l10Bytes.l0] at h
    by_cases h1 : (i : Int) < (s.size : Int)
    · rw [if_pos h1, if_pos (by omega)] at h
      by_cases h2 : bt s (i : Int) < 33
      · rw [if_pos h2] at h; cases h
        constructor
        · intro h; cases h
        · intro h; have := h i (Nat.le_refl _) (by omega); omega
      · rw [if_neg h2] at h
        by_cases h3 : bt s (i : Int) > 126
        · rw [if_pos h3] at h; cases h
          constructor
          · intro h; cases h
          · intro h; have := h i (Nat.le_refl _) (by omega); omega
        · rw [if_neg h3, show wrap64 ((i : Int) + 1) = ((i + 1 : Nat) : Int) by unfold wrap64; omega] at h
          rw [ih _ _ h]
          constructor
          · intro h4 j hj hl
            rcases Nat.lt_or_eq_of_le hj with h5 | h5
            · exact h4 j h5 hl
            · subst h5; omega
          · intro h4 j hj hl; exact h4 j (by omega) hl
    · rw [if_neg h1] at h; cases h
      exact ⟨fun _ j hj hl => by omega, fun _ => rfl⟩
theorem vn_cut (s : ByteArray) (hs : s.size ≤ 13) : ∀ (k i : Nat) (a : List ByteArray) (q : Int) (r : List ByteArray), spec_l10Cut.l0 k s 47 a q (i : Int) = some r → a.length + 1 ≤ r.length ∧ (r.length = a.length + 1 ↔ ∀ j, i ≤ j → j < s.size → bt s (j : Int) ≠ 47) := by
  intro k
  induction k with
  | zero => intro i a q r h; simp [spec_l10Cut.l0] at h
  | succ k ih =>
    intro i a q r h
    simp only [spec_l10Cut.l0] at h
    by_cases h1 : (i : Int) < (s.size : Int)
    · rw [if_pos h1, if_pos (by omega)] at h
      by_cases h2 : bt s (i : Int) = 47
      · rw [if_pos h2] at h
        split at h
        · split at h
          · split at h
            · split at h
              · rw [show wrap64 ((i : Int) + 1) = ((i + 1 : Nat) : Int) by unfold wrap64; omega] at h
                have h3 := (ih _ _ _ _ h).1
                rw [List.length_append] at h3
                simp at h3
                exact ⟨by omega, fun h4 => by omega, fun h4 => absurd h2 (h4 i (Nat.le_refl _) (by omega))⟩
              · cases h
            · cases h
          · cases h
        · cases h
      · rw [if_neg h2, show wrap64 ((i : Int) + 1) = ((i + 1 : Nat) : Int) by unfold wrap64; omega] at h
        have h3 := ih _ _ _ _ h
        refine ⟨h3.1, h3.2.trans ⟨fun h4 j hj hl => ?_, fun h4 j hj hl => h4 j (by omega) hl⟩⟩
        rcases Nat.lt_or_eq_of_le hj with h5 | h5
        · exact h4 j h5 hl
        · subst h5; exact h2
    · rw [if_neg h1] at h
      split at h
      · split at h
        · split at h
          · cases h
            have e : ∀ x : ByteArray, (a ++ [x]).length = a.length + 1 := fun x => by simp
            rw [e]
            exact ⟨Nat.le_refl _, fun _ j hj hl => absurd hl (by omega), fun _ => rfl⟩
          · cases h
        · cases h
      · cases h
theorem vn_of {k : Nat} {s : ByteArray} {r : Bool} (h : spec_ValidName.f k s = some r) : r = true ↔ vnAll s := by
  unfold spec_ValidName.f at h
  obtain ⟨t, h1, h⟩ := Option.bind_eq_some_iff.1 h
  unfold spec_l10Bytes.f at h1
  by_cases hs : s.size ≤ 13
  rotate_left
  · have : ¬ vnAll s := fun h => by have := h.2.1; omega
    by_cases ht : t = true
    · rw [if_pos ht] at h
      by_cases h2 : (s.size : Int) < 1
      · omega
      · rw [if_neg h2, if_pos (by omega)] at h; cases h; simp [this]
    · rw [if_neg ht] at h; cases h; simp [this]
  have hb := vn_bytes s hs k 0 t h1
  by_cases ht : t = true
  rotate_left
  · rw [if_neg ht] at h; cases h
    constructor
    · intro h; cases h
    · intro h; exact absurd (hb.2 fun j _ hl => ⟨(h.2.2.2.2 j hl).1, (h.2.2.2.2 j hl).2.1⟩) ht
  rw [if_pos ht] at h
  by_cases h2 : (s.size : Int) < 1
  · rw [if_pos h2] at h; cases h
    constructor
    · intro h; cases h
    · intro h; have := h.1; omega
  rw [if_neg h2, if_neg (by omega)] at h
  by_cases h3 : s.toList = [46]
  · rw [if_pos h3] at h; cases h
    exact ⟨fun h => (by cases h), fun h => absurd h3 h.2.2.1⟩
  rw [if_neg h3] at h
  by_cases h4 : s.toList = [46, 46]
  · rw [if_pos h4] at h; cases h
    exact ⟨fun h => (by cases h), fun h => absurd h4 h.2.2.2.1⟩
  rw [if_neg h4] at h
  obtain ⟨l, h5, h⟩ := Option.bind_eq_some_iff.1 h
  unfold spec_l10Cut.f at h5
  have hc := vn_cut s hs k 0 [] 0 l h5
  have hr : r = ((l.length : Int) == 1) := (Option.some.inj h).symm
  have hl : r = true ↔ l.length = 0 + 1 := by rw [hr, beq_iff_eq]; omega
  rw [hl]
  refine hc.2.trans ⟨fun h6 => ⟨by omega, hs, h3, h4, fun j hl => ?_⟩, fun h6 j _ hl => (h6.2.2.2.2 j hl).2.2⟩
  have := hb.1 ht j (Nat.zero_le _) hl
  exact ⟨this.1, this.2, h6 j (Nat.zero_le _) hl⟩
theorem vn_bt (s : ByteArray) (j : Nat) (h : j < s.size) : bt s (j : Int) = ((s[j]'h).toNat : Int) := by
  unfold bt; simp [h]
set_option maxHeartbeats 8000000 in
set_option maxRecDepth 100000 in
theorem impl_ValidName.calls (k : Nat) (a0 : ByteArray) (r : Bool) (w : World) (h : impl_ValidName.f k a0 = some r) :
    Calls Try.prog 21 #[.string a0] w fun e w' => e = .returned (.bool r) ∧ Below w.heap.size w w' := by
  have hv : r = true ↔ vnAll a0 := vn_of h
  clear h
  by_cases c1 : a0.size < 1
  · obtain rfl : r = false := Bool.eq_false_iff.2 fun e => by have := (hv.1 e).1; omega
    have c1b : decide ((a0.size : Int) < 1) = true := decide_eq_true (by omega)
    have c1c : decide (a0.size < 1) = true := decide_eq_true c1
    clear hv c1
    go_enter Try.func21, Try.ntmps21
    go_wp2
    go_ret
    exact ⟨rfl, Below.refl _ _⟩
  have c1b : decide ((a0.size : Int) < 1) = false := decide_eq_false (by omega)
  have c1c : decide (a0.size < 1) = false := decide_eq_false c1
  by_cases c2 : 13 < a0.size
  · obtain rfl : r = false := Bool.eq_false_iff.2 fun e => by have := (hv.1 e).2.1; omega
    have c2b : decide (13 < (a0.size : Int)) = true := decide_eq_true (by omega)
    have c2c : decide (13 < a0.size) = true := decide_eq_true c2
    clear hv c1 c2
    go_enter Try.func21, Try.ntmps21
    go_wp2
    go_ret
    exact ⟨rfl, Below.refl _ _⟩
  have c2b : decide (13 < (a0.size : Int)) = false := decide_eq_false (by omega)
  have c2c : decide (13 < a0.size) = false := decide_eq_false c2
  by_cases c3 : a0.toList = ([46] : List UInt8)
  · obtain rfl : r = false := Bool.eq_false_iff.2 fun e => (hv.1 e).2.2.1 c3
    have c3b : (a0.toList == ([46] : List UInt8)) = true := beq_iff_eq.mpr c3
    clear hv c1 c2 c3
    go_enter Try.func21, Try.ntmps21
    go_wp2
    go_ret
    exact ⟨rfl, Below.refl _ _⟩
  have c3b : (a0.toList == ([46] : List UInt8)) = false := beq_eq_false_iff_ne.mpr c3
  by_cases c4 : a0.toList = ([46, 46] : List UInt8)
  · obtain rfl : r = false := Bool.eq_false_iff.2 fun e => (hv.1 e).2.2.2.1 c4
    have c4b : (a0.toList == ([46, 46] : List UInt8)) = true := beq_iff_eq.mpr c4
    clear hv c1 c2 c3 c4
    go_enter Try.func21, Try.ntmps21
    go_wp2
    go_ret
    exact ⟨rfl, Below.refl _ _⟩
  have c4b : (a0.toList == ([46, 46] : List UInt8)) = false := beq_eq_false_iff_ne.mpr c4
  have HV : Hid (r = true ↔ ∀ j, j < a0.size → vnGood a0 j) := by
    refine hv.trans ⟨fun h => h.2.2.2.2, fun h => ⟨by omega, by omega, c3, c4, h⟩⟩
  clear hv c3 c4
  have hsz : a0.size ≤ 13 := by omega
  clear c1 c2
  go_enter Try.func21, Try.ntmps21
  go_wp2
  go_loopw [4] (fun _ wr => ∃ pos : Nat, wr = w.iter a0 pos ∧ pos ≤ a0.size ∧ Hid (∀ j, j < pos → vnGood a0 j)) (fun _ wr => a0.size - wr.iterPos w.heap.size)
  case atStart => exact ⟨0, rfl, Nat.zero_le _, fun j hj => absurd hj (Nat.not_lt_zero _)⟩
  case round =>
    obtain ⟨pos, rfl, hp, HG⟩ := hrel
    by_cases hlt : pos < a0.size
    · by_cases hg : vnGood a0 pos
      · have hb := vn_bt a0 pos hlt
        obtain ⟨g1, g2, g3⟩ := hg
        rw [hb] at g1 g2 g3
        have hnx : ∀ ty, (Instr.next (.pointer (some ⟨w.heap.size, 0, none⟩)) true ty).run Try.prog (w.iter a0 pos) = _ := fun ty => run_next_ascii w a0 pos ty hlt (by omega)
        have t1 : decide (((a0[pos]'hlt).toNat : Int) < 33) = false := decide_eq_false (by omega)
        have t2 : decide (126 < ((a0[pos]'hlt).toNat : Int)) = false := decide_eq_false (by omega)
        have t3 : (((a0[pos]'hlt).toNat : Int) == 47) = false := beq_eq_false_iff_ne.mpr g3
        have HG2 : Hid (∀ j, j < pos + 1 → vnGood a0 j) := fun j hj => by
          rcases Nat.lt_or_eq_of_le (Nat.le_of_lt_succ hj) with h5 | h5
          · exact HG.out j h5
          · subst h5; exact ⟨by omega, by omega, by rw [hb]; exact g3⟩
        clear hb g1 g2 g3 HG
        go_wp2
        go_roundw
        case rel => exact ⟨pos + 1, rfl, by omega, HG2⟩
        case measure => simp; omega
      · obtain rfl : r = false := Bool.eq_false_iff.2 fun e => hg (HV.out.1 e pos hlt)
        have hb := vn_bt a0 pos hlt
        by_cases ha : (a0[pos]'hlt).toNat < 128
        · have hnx : ∀ ty, (Instr.next (.pointer (some ⟨w.heap.size, 0, none⟩)) true ty).run Try.prog (w.iter a0 pos) = _ := fun ty => run_next_ascii w a0 pos ty hlt ha
          have hg' : ((a0[pos]'hlt).toNat : Int) < 33 ∨ 126 < ((a0[pos]'hlt).toNat : Int) ∨ ((a0[pos]'hlt).toNat : Int) = 47 := by
            unfold vnGood at hg; rw [hb] at hg; omega
          clear hb hg HV HG ha
          by_cases q1 : ((a0[pos]'hlt).toNat : Int) < 33
          · have t1 : decide (((a0[pos]'hlt).toNat : Int) < 33) = true := decide_eq_true q1
            clear hg' q1
            go_wp2
            go_ret
            exact ⟨rfl, (Below.refl _ _).alloc (Nat.le_refl _) _⟩
          have t1 : decide (((a0[pos]'hlt).toNat : Int) < 33) = false := decide_eq_false q1
          by_cases q2 : 126 < ((a0[pos]'hlt).toNat : Int)
          · have t2 : decide (126 < ((a0[pos]'hlt).toNat : Int)) = true := decide_eq_true q2
            clear hg' q1 q2
            go_wp2
            go_ret
            exact ⟨rfl, (Below.refl _ _).alloc (Nat.le_refl _) _⟩
          have t2 : decide (126 < ((a0[pos]'hlt).toNat : Int)) = false := decide_eq_false q2
          have t3 : (((a0[pos]'hlt).toNat : Int) == 47) = true := beq_iff_eq.mpr (by omega)
          clear hg' q1 q2
          go_wp2
          go_ret
          exact ⟨rfl, (Below.refl _ _).alloc (Nat.le_refl _) _⟩
        · have hd := decode_high a0 pos hlt (by omega)
          have hnx : ∀ ty, (Instr.next (.pointer (some ⟨w.heap.size, 0, none⟩)) true ty).run Try.prog (w.iter a0 pos) = _ := fun ty => run_next_any w a0 pos ty hlt
          have t1 : decide (((Utf8.decode a0 pos).1 : Int) < 33) = false := decide_eq_false (by omega)
          have t2 : decide (126 < ((Utf8.decode a0 pos).1 : Int)) = true := decide_eq_true (by omega)
          clear hb hg HV HG ha hd
          go_wp2
          go_ret
          exact ⟨rfl, (Below.refl _ _).alloc (Nat.le_refl _) _⟩
    · obtain rfl : pos = a0.size := by omega
      obtain rfl : r = true := HV.out.2 HG.out
      have hnx : ∀ ty, (Instr.next (.pointer (some ⟨w.heap.size, 0, none⟩)) true ty).run Try.prog (w.iter a0 a0.size) = _ := fun ty => run_next_end w a0 a0.size ty hlt
      clear HV HG
      go_wp2
      go_ret
      exact ⟨rfl, (Below.refl _ _).alloc (Nat.le_refl _) _⟩


/-! ### laws_FnExactValidName: function 6 -/
def laws_FnExactValidName.f (k : Nat) (a0 : ByteArray) : Option (Bool) := if (a0.size : Int) > 1048576 then (some true) else ((spec_ValidName.f k a0).bind fun t114 => ((impl_ValidName.f k a0).bind fun t115 => (if (t115 != t114) = true then (some false) else (some true))))
theorem laws_FnExactValidName.mono : ∀ a0 k, LeO (laws_FnExactValidName.f k a0) (laws_FnExactValidName.f (k + 1) a0) := by
  intro a0 k
  unfold laws_FnExactValidName.f
  repeat' first
      | (with_reducible exact impl_ValidName.mono _ _)
      | (with_reducible exact spec_ValidName.mono _ _)
      | (with_reducible exact LeO.refl _)
      | (with_reducible exact LeO.none _)
      | (with_reducible refine LeO.ite ?_ ?_)
      | (with_reducible refine LeO.bind ?_ (fun _ => ?_))
      | exact impl_ValidName.mono _ _
      | exact spec_ValidName.mono _ _
      | exact LeO.none _
      | refine LeO.ite ?_ ?_
      | refine LeO.bind ?_ (fun _ => ?_)
set_option maxHeartbeats 8000000 in
set_option maxRecDepth 100000 in
theorem laws_FnExactValidName.calls (k : Nat) (a0 : ByteArray) (r : Bool) (w : World) (h : laws_FnExactValidName.f k a0 = some r) :
    Calls Try.prog 6 #[.string a0] w fun e w' => e = .returned (.bool r) ∧ Below w.heap.size w w' := by
  have HB := Aside0.mk (Below.refl w.heap.size w)
  have H : (if (a0.size : Int) > 1048576 then (some true) else ((spec_ValidName.f k a0).bind fun t114 => ((impl_ValidName.f k a0).bind fun t115 => (if (t115 != t114) = true then (some false) else (some true))))) = some r := h
  clear h
  by_cases c2 : (a0.size : Int) > 1048576
  · rw [if_pos c2] at H
    have c2b0 : decide (1048576 < (a0.size : Int)) = true := decide_eq_true c2
    have c2b1 : decide (1048576 < a0.size) = true := decide_eq_true (by omega)
    clear c2
    obtain rfl := Option.some.inj H
    go_enter Try.func6, Try.ntmps6
    go_wp2
    go_ret
    exact ⟨by first | rfl | (simp [errW_none, errW_some] <;> rfl) | (simp [*, errW_none, errW_some] <;> rfl), by repeat (first | (with_reducible first | exact HB.out | apply below_alloc | apply pw_below_drewN | apply below_drew1) | exact HB.out)⟩
  · rw [if_neg c2] at H
    have c2b0 : decide (1048576 < (a0.size : Int)) = false := decide_eq_false c2
    have c2b1 : decide (1048576 < a0.size) = false := decide_eq_false (by omega)
    clear c2
    replace H := Option.bind_eq_some_iff.mp H
    obtain ⟨t114, A30, H⟩ := H
    replace H : ((impl_ValidName.f k a0).bind fun t115 => (if (t115 != t114) = true then (some false) else (some true))) = some r := H
    have A3 := Aside0.mk A30
    clear A30
    replace H := Option.bind_eq_some_iff.mp H
    obtain ⟨t115, A40, H⟩ := H
    replace H : (if (t115 != t114) = true then (some false) else (some true)) = some r := H
    have A4 := Aside0.mk A40
    clear A40
    by_cases c5 : (t115 != t114) = true
    · rw [if_pos c5] at H
      have c5b0 : (t115 != t114) = true := c5
      (try (have c5b1 : decide (t115 = t114) = false := by simpa using c5))
      (try (have c5b2 : (t115 == t114) = false := by simpa using c5))
      (try (have c5b3 : ¬ (t115 = t114) := by simpa using c5))
      clear c5
      obtain rfl := Option.some.inj H
      go_enter Try.func6, Try.ntmps6
      go_wp2_with (first | ((with_reducible refine gate_callee (f := 20) rfl ?_); refine goesL_ (some 9) rfl rfl Try.func20 (by kernel_rfl) rfl #[.string a0] rfl (by (try simp only [List.map_toArray, List.map_cons, List.map_nil]); first | done | rfl | (simp only [List.length_drop, List.length_take]; rfl)) ?_; (with_reducible refine (spec_ValidName.calls k a0 t114 _ A3.out).mono ?_); rintro e w6 ⟨rfl, hb⟩; refine ⟨_, rfl, ?_⟩; have n0_ := Aside0.mk (below_step (by repeat (first | (with_reducible first | exact HB.out | apply below_alloc | apply pw_below_drewN | apply below_drew1) | exact HB.out)) hb); clear HB; have HB := n0_; clear n0_; (try clear hb); (try clear hb2); (try clear hk); (try clear hi)) | ((with_reducible refine gate_callee (f := 21) rfl ?_); refine goesL_ (some 11) rfl rfl Try.func21 (by kernel_rfl) rfl #[.string a0] rfl (by (try simp only [List.map_toArray, List.map_cons, List.map_nil]); first | done | rfl | (simp only [List.length_drop, List.length_take]; rfl)) ?_; (with_reducible refine (impl_ValidName.calls k a0 t115 _ A4.out).mono ?_); rintro e w7 ⟨rfl, hb⟩; refine ⟨_, rfl, ?_⟩; have n0_ := Aside0.mk (below_step (by repeat (first | (with_reducible first | exact HB.out | apply below_alloc | apply pw_below_drewN | apply below_drew1) | exact HB.out)) hb); clear HB; have HB := n0_; clear n0_; (try clear hb); (try clear hb2); (try clear hk); (try clear hi)))
      go_ret
      exact ⟨by first | rfl | (simp [errW_none, errW_some] <;> rfl) | (simp [*, errW_none, errW_some] <;> rfl), by repeat (first | (with_reducible first | exact HB.out | apply below_alloc | apply pw_below_drewN | apply below_drew1) | exact HB.out)⟩
    · rw [if_neg c5] at H
      have c5b0 : (t115 != t114) = false := by simpa using c5
      (try (have c5b1 : decide (t115 = t114) = true := by simpa using c5))
      (try (have c5b2 : (t115 == t114) = true := by simpa using c5))
      clear c5
      obtain rfl := Option.some.inj H
      go_enter Try.func6, Try.ntmps6
      go_wp2_with (first | ((with_reducible refine gate_callee (f := 20) rfl ?_); refine goesL_ (some 9) rfl rfl Try.func20 (by kernel_rfl) rfl #[.string a0] rfl (by (try simp only [List.map_toArray, List.map_cons, List.map_nil]); first | done | rfl | (simp only [List.length_drop, List.length_take]; rfl)) ?_; (with_reducible refine (spec_ValidName.calls k a0 t114 _ A3.out).mono ?_); rintro e w8 ⟨rfl, hb⟩; refine ⟨_, rfl, ?_⟩; have n0_ := Aside0.mk (below_step (by repeat (first | (with_reducible first | exact HB.out | apply below_alloc | apply pw_below_drewN | apply below_drew1) | exact HB.out)) hb); clear HB; have HB := n0_; clear n0_; (try clear hb); (try clear hb2); (try clear hk); (try clear hi)) | ((with_reducible refine gate_callee (f := 21) rfl ?_); refine goesL_ (some 11) rfl rfl Try.func21 (by kernel_rfl) rfl #[.string a0] rfl (by (try simp only [List.map_toArray, List.map_cons, List.map_nil]); first | done | rfl | (simp only [List.length_drop, List.length_take]; rfl)) ?_; (with_reducible refine (impl_ValidName.calls k a0 t115 _ A4.out).mono ?_); rintro e w9 ⟨rfl, hb⟩; refine ⟨_, rfl, ?_⟩; have n0_ := Aside0.mk (below_step (by repeat (first | (with_reducible first | exact HB.out | apply below_alloc | apply pw_below_drewN | apply below_drew1) | exact HB.out)) hb); clear HB; have HB := n0_; clear n0_; (try clear hb); (try clear hb2); (try clear hk); (try clear hi)))
      go_ret
      exact ⟨by first | rfl | (simp [errW_none, errW_some] <;> rfl) | (simp [*, errW_none, errW_some] <;> rfl), by repeat (first | (with_reducible first | exact HB.out | apply below_alloc | apply pw_below_drewN | apply below_drew1) | exact HB.out)⟩

/-- THE ONE PURE STATEMENT of laws_FnExactValidName: yours. -/
def laws_FnExactValidName.Pure : Prop := ∀ (a0 : ByteArray), a0.size ≤ 140737488351232 → ∃ k, laws_FnExactValidName.f k a0 = some true
theorem laws_FnExactValidName.walk (P : laws_FnExactValidName.Pure) (a0 : ByteArray) (w : World) (w0 : a0.size ≤ 140737488351232) :
    Calls Try.prog 6 #[.string a0] w fun e w' => e = .returned (.bool true) ∧ Below w.heap.size w w' := by
  obtain ⟨k, h⟩ := P a0 w0
  refine (laws_FnExactValidName.calls k a0 true w h).mono ?_
  rintro e w' ⟨rfl, hd⟩
  exact ⟨rfl, hd⟩

end Go.Proofs.Ytdkjidnagkcenaa.PFnExactValidName
