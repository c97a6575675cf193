-- written by a program of this session (wip/src/print2.py)
import Derived.Test.YtiiifeajcigigaaPFnExactEncodeDirx0
import Derived.Test.YtiiifeajcigigaaPFnExactEncodeDirx1
import Derived.Test.YtiiifeajcigigaaPFnExactEncodeDirx2
namespace Go.Proofs.Ytiiifeajcigigaa.PFnExactEncodeDir
open Go.RowKit Go.Proofs.YtiiifeajcigigaaW.PrintWords Go.Proofs.YtiiifeajcigigaaW.PrintLast Go.Proofs.YtiiifeajcigigaaW.PrintMore
attribute [local go_sem] max2_int min2_int max_two min_two max_three min_three max_four min_four   -- for this text's walks alone
set_option linter.unusedVariables false
set_option linter.unusedSimpArgs false

/-! ### spec_DirFind: function 59 -/
def spec_DirFind.l0 : Nat → List (S27) → ByteArray → Int → Int → Option (Int)
  | 0, _, _, _, _ => none
  | k + 1, x0, x1, x5, x6 => if x6 ≥ 0 then (if 0 ≤ x6 then (if x6 < (x0.length : Int) then (if ((rd_T27 x0 x6).f1).toList = x1.toList then (spec_DirFind.l0 k x0 x1 x6 (wrap64 (x6 - 1))) else (spec_DirFind.l0 k x0 x1 x5 (wrap64 (x6 - 1)))) else (none)) else (none)) else (some x5)
def spec_DirFind.f (k : Nat) (l0 : List (S27)) (a1 : ByteArray) : Option (Int) := spec_DirFind.l0 k l0 a1 (-1) (wrap64 ((l0.length : Int) - 1))
theorem spec_DirFind.mono_l : ∀ k, (∀ y0 y1 y2 y3, LeO (spec_DirFind.l0 k y0 y1 y2 y3) (spec_DirFind.l0 (k + 1) y0 y1 y2 y3))
  | 0 => fun _ _ _ _ r h => by simp [spec_DirFind.l0] at h
  | k + 1 => by
    have ih0 := spec_DirFind.mono_l k
    · intro y0 y1 y2 y3
      unfold spec_DirFind.l0
      repeat' first
      | (with_reducible exact ih0 _ _ _ _)
      | (with_reducible exact LeO.refl _)
      | (with_reducible exact LeO.none _)
      | (with_reducible refine LeO.ite ?_ ?_)
      | (with_reducible refine LeO.bind ?_ (fun _ => ?_))
      | exact ih0 _ _ _ _
      | exact LeO.none _
      | refine LeO.ite ?_ ?_
      | refine LeO.bind ?_ (fun _ => ?_)
theorem spec_DirFind.mono : ∀ a0 a1 k, LeO (spec_DirFind.f k a0 a1) (spec_DirFind.f (k + 1) a0 a1) := by
  intro a0 a1 k
  have ih0 := spec_DirFind.mono_l k
  unfold spec_DirFind.f
  repeat' first
      | (with_reducible exact ih0 _ _ _ _)
      | (with_reducible exact LeO.refl _)
      | (with_reducible exact LeO.none _)
      | (with_reducible refine LeO.ite ?_ ?_)
      | (with_reducible refine LeO.bind ?_ (fun _ => ?_))
      | exact ih0 _ _ _ _
      | exact LeO.none _
      | refine LeO.ite ?_ ?_
      | refine LeO.bind ?_ (fun _ => ?_)
set_option maxHeartbeats 8000000 in
set_option maxRecDepth 100000 in
theorem spec_DirFind.calls (k : Nat) (A0 : Option Addr) (c0 : Nat) (l0 : List (S27)) (a1 : ByteArray) (r : Int) (w : World) (hr0 : Kd.C k27 w A0 l0.length l0) (hc0 : l0.length ≤ c0) (h : spec_DirFind.f k l0 a1 = some r) :
    Calls Try.prog 59 #[.slice A0 l0.length c0, .string a1] w fun e w' => e = .returned (.int .i64 r) ∧ Drawn0 w w' := by
  have HR0 := Aside0.mk hr0
  have HC0 := Aside0.mk hc0
  clear hr0 hc0
  have H : (spec_DirFind.l0 k l0 a1 (-1) (wrap64 ((l0.length : Int) - 1))) = some r := h
  clear h
  have H' := Aside0.mk H
  clear H
  go_enter Try.func59, Try.ntmps59
  go_wp2
  go_loopg [5, 6] k (fun kq v5 v6 w' => ∃ (x5_1 : Int) (x6_1 : Int), v5 = .int .i64 x5_1 ∧ v6 = .int .i64 x6_1 ∧ Aside0 (spec_DirFind.l0 kq l0 a1 x5_1 x6_1 = some r) ∧ Aside0 (kq ≤ k) ∧ Drawn0 w w')
  case atStart => exact ⟨((-1)), (wrap64 ((l0.length : Int) - 1)), (by first | rfl | (simp; done) | (simp [*]; done)), (by first | rfl | (simp; done) | (simp [*]; done)), H', ⟨Nat.le_refl _⟩, by repeat (first | exact Drawn0.refl _ | apply Drawn0.step)⟩
  case round =>
    clear H'
    try clear p2
    obtain ⟨x5_1, x6_1, rfl, rfl, HA, HK1, ⟨m1, rfl⟩⟩ := hrel
    cases gk with
    | zero => exact absurd HA.out (by simp [spec_DirFind.l0])
    | succ k1 =>
      have H := HA.out
      clear HA
      simp only [spec_DirFind.l0] at H
      by_cases c3 : x6_1 ≥ 0
      · rw [if_pos c3] at H
        have c3b0 : decide (0 ≤ x6_1) = true := decide_eq_true c3
        clear c3
        by_cases c4 : 0 ≤ x6_1
        · rw [if_pos c4] at H
          have c4b0 : decide (0 ≤ x6_1) = true := decide_eq_true c4
          clear c4
          by_cases c5 : x6_1 < (l0.length : Int)
          · rw [if_pos c5] at H
            have c5b0 : decide (x6_1 < (l0.length : Int)) = true := decide_eq_true c5
            clear c5
            by_cases c6 : ((rd_T27 l0 x6_1).f1).toList = a1.toList
            · rw [if_pos c6] at H
              have c6b0 : (((rd_T27 l0 x6_1).f1).toList == a1.toList) = true := beq_iff_eq.mpr c6
              have c6b1 : (((rd_T27 l0 x6_1).f1).toList != a1.toList) = false := bne_eq_false_iff_eq.mpr c6
              clear c6
              have H' := Aside0.mk H
              clear H
              have p176 : 0 ≤ (x6_1 : Int) := of_decide_eq_true (by first | (with_reducible assumption) | assumption)
              have q176 : x6_1 < (l0.length : Int) := of_decide_eq_true (by first | (with_reducible assumption) | assumption)
              obtain ⟨ad176, e176, hx176_0, hx176_1⟩ := at_T27 HR0.out x6_1 p176 q176
              cases e176
              replace p176 := eq_true p176
              replace q176 := eq_true q176
              go_wp2
              go_roundg k1
              case measure => have := HK1.out; omega
              case rel => exact ⟨(x6_1), (wrap64 (x6_1 - 1)), (by first | rfl | (simp; done) | (simp [*]; done)), (by first | rfl | (simp; done) | (simp [*]; done)), H', ⟨by have := HK1.out; omega⟩, by repeat (first | exact Drawn0.refl _ | apply Drawn0.step)⟩
            · rw [if_neg c6] at H
              have c6b0 : (((rd_T27 l0 x6_1).f1).toList == a1.toList) = false := beq_eq_false_iff_ne.mpr c6
              have c6b1 : (((rd_T27 l0 x6_1).f1).toList != a1.toList) = true := bne_iff_ne.mpr c6
              have H' := Aside0.mk H
              clear H
              have p176 : 0 ≤ (x6_1 : Int) := of_decide_eq_true (by first | (with_reducible assumption) | assumption)
              have q176 : x6_1 < (l0.length : Int) := of_decide_eq_true (by first | (with_reducible assumption) | assumption)
              obtain ⟨ad176, e176, hx176_0, hx176_1⟩ := at_T27 HR0.out x6_1 p176 q176
              cases e176
              replace p176 := eq_true p176
              replace q176 := eq_true q176
              go_wp2
              go_roundg k1
              case measure => have := HK1.out; omega
              case rel => exact ⟨(x5_1), (wrap64 (x6_1 - 1)), (by first | rfl | (simp; done) | (simp [*]; done)), (by first | rfl | (simp; done) | (simp [*]; done)), H', ⟨by have := HK1.out; omega⟩, by repeat (first | exact Drawn0.refl _ | apply Drawn0.step)⟩
          · rw [if_neg c5] at H
            exact absurd H (by simp)
        · rw [if_neg c4] at H
          exact absurd H (by simp)
      · rw [if_neg c3] at H
        have c3b0 : decide (0 ≤ x6_1) = false := decide_eq_false c3
        clear c3
        obtain rfl := Option.some.inj H
        go_wp2
        go_ret
        exact ⟨by first | rfl | (simp; done) | (simp [*]; done), by repeat (first | exact Drawn0.refl _ | apply Drawn0.step)⟩

/-! ### spec_EncodeDir: function 22 -/
def spec_EncodeDir.l0 : Nat → List (S27) → List Int → Int → Option (List Int)
  | 0, _, _, _ => none
  | k + 1, x0, x3, x4 => if x4 < (x0.length : Int) then (if 0 ≤ x4 then ((spec_EncodeEntry.f k ((rd_T27 x0 x4).f0) ((rd_T27 x0 x4).f1)).bind fun t181 => (if (t181.length : Int) = 0 then (some (([] : List Int))) else ((spec_DirFind.f k x0 ((rd_T27 x0 x4).f1)).bind fun t188 => (if t188 = x4 then (if x3.length + t181.length < 140737488355328 then (spec_EncodeDir.l0 k x0 (x3 ++ t181) (wrap64 (x4 + 1))) else (none)) else (some (([] : List Int))))))) else (none)) else (some x3)
def spec_EncodeDir.f (k : Nat) (l0 : List (S27)) : Option (List Int) := (some (([] : List Int) : List Int)).bind fun y177 => (if (l0.length : Int) > 160 then (some y177) else (spec_EncodeDir.l0 k l0 y177 0))
theorem spec_EncodeDir.mono_l : ∀ k, (∀ y0 y1 y2, LeO (spec_EncodeDir.l0 k y0 y1 y2) (spec_EncodeDir.l0 (k + 1) y0 y1 y2))
  | 0 => fun _ _ _ r h => by simp [spec_EncodeDir.l0] at h
  | k + 1 => by
    have ih0 := spec_EncodeDir.mono_l k
    · intro y0 y1 y2
      unfold spec_EncodeDir.l0
      repeat' first
      | (with_reducible exact ih0 _ _ _)
      | (with_reducible exact spec_DirFind.mono _ _ _)
      | (with_reducible exact spec_EncodeEntry.mono _ _ _)
      | (with_reducible exact LeO.refl _)
      | (with_reducible exact LeO.none _)
      | (with_reducible refine LeO.ite ?_ ?_)
      | (with_reducible refine LeO.bind ?_ (fun _ => ?_))
      | exact ih0 _ _ _
      | exact spec_DirFind.mono _ _ _
      | exact spec_EncodeEntry.mono _ _ _
      | exact LeO.none _
      | refine LeO.ite ?_ ?_
      | refine LeO.bind ?_ (fun _ => ?_)
theorem spec_EncodeDir.mono : ∀ a0 k, LeO (spec_EncodeDir.f k a0) (spec_EncodeDir.f (k + 1) a0) := by
  intro a0 k
  have ih0 := spec_EncodeDir.mono_l k
  unfold spec_EncodeDir.f
  repeat' first
      | (with_reducible exact ih0 _ _ _)
      | (with_reducible exact spec_DirFind.mono _ _ _)
      | (with_reducible exact spec_EncodeEntry.mono _ _ _)
      | (with_reducible exact LeO.refl _)
      | (with_reducible exact LeO.none _)
      | (with_reducible refine LeO.ite ?_ ?_)
      | (with_reducible refine LeO.bind ?_ (fun _ => ?_))
      | exact ih0 _ _ _
      | exact spec_DirFind.mono _ _ _
      | exact spec_EncodeEntry.mono _ _ _
      | exact LeO.none _
      | refine LeO.ite ?_ ?_
      | refine LeO.bind ?_ (fun _ => ?_)
set_option maxHeartbeats 8000000 in
set_option maxRecDepth 100000 in
theorem spec_EncodeDir.calls (k : Nat) (A0 : Option Addr) (c0 : Nat) (l0 : List (S27)) (r : List Int) (w : World) (hr0 : Kd.C k27 w A0 l0.length l0) (hc0 : l0.length ≤ c0) (h : spec_EncodeDir.f k l0 = some r) :
    Calls Try.prog 22 #[.slice A0 l0.length c0] w fun e w' => ∃ v0_ : Value, e = .returned (v0_) ∧ Kd.R (Kd.int .u8) 5 w' w.heap.size (fun _ => True) v0_ r ∧ Below w.heap.size w w' := by
  have hu27 := Try.underlying27
  have HR0 := Aside0.mk hr0
  have HC0 := Aside0.mk hc0
  clear hr0 hc0
  have HB := Aside0.mk (Below.refl w.heap.size w)
  have H : ((some (([] : List Int) : List Int)).bind fun y177 => (if (l0.length : Int) > 160 then (some y177) else (spec_EncodeDir.l0 k l0 y177 0))) = some r := h
  clear h
  obtain ⟨y177, hy177⟩ : ∃ y_ : List Int, y_ = (([] : List Int)) := ⟨_, rfl⟩
  replace H : (if (l0.length : Int) > 160 then (some y177) else (spec_EncodeDir.l0 k l0 y177 0)) = some r := by first | (rw [hy177]; with_reducible exact H) | (have H2_ := (Option.bind_some _ _).symm.trans H; rw [hy177]; with_reducible exact H2_) | (have H2_ := (Option.bind_some _ _).symm.trans H; with_reducible exact H2_) | with_reducible exact H | (rw [hy177]; exact H) | exact H
  have Ny177 := Aside0.mk hy177
  clear hy177
  by_cases c2 : (l0.length : Int) > 160
  · rw [if_pos c2] at H
    have c2b0 : decide (160 < (l0.length : Int)) = true := decide_eq_true c2
    have c2b1 : decide (160 < l0.length) = true := decide_eq_true (by omega)
    clear c2
    obtain rfl := Option.some.inj H
    go_enter Try.func22, Try.ntmps22
    go_wp2_with (first | ((with_reducible refine gate_dst (N := 6) rfl ?_); refine Kd.R_lit (Kd.int .u8) _ 5 ?hg (N := 6) ?hd (xs := ([] : List Int)) (inner := []) (ok := fun _ => True) (okp := fun _ => True) ?hr ?hp (fun _ hk => hk) trivial (Below.refl _ _) (Nat.le_refl _) (by simp) ?_; (case hd => rfl); (case hg => rfl); (case hr => first | (go_simp; done) | (go_simp; rfl)); (case hp => exact (Reps.none _ _)); intro v178 w3 ho4 hb hg_ hnew_; clear hg_ hnew_; (first | rw [← Ny177.out] at ho4 | (simp only [Int.reduceToNat] at ho4; rw [← Ny177.out] at ho4)); have n0_ := Aside0.mk (Kd.R_lower ho4 (below_size (by repeat (first | (with_reducible first | exact HB.out | apply below_alloc | apply pw_below_drewN | apply below_drew1) | exact HB.out)))); have n1_ := Aside0.mk (below_step (by repeat (first | (with_reducible first | exact HB.out | apply below_alloc | apply pw_below_drewN | apply below_drew1) | exact HB.out)) hb); clear HB; have HO179 := n0_; have HB := n1_; clear n0_ n1_; clear hb ho4))
    go_ret
    exact ⟨_, by first | rfl | (simp [errW_none, errW_some] <;> rfl) | (simp [*, errW_none, errW_some] <;> rfl), by (with_reducible repeat (first | apply Kd.R_alloc | apply Kd.R_drewN | apply Kd.R_drew)); exact HO179.out, by repeat (first | (with_reducible first | exact HB.out | apply below_alloc | apply pw_below_drewN | apply below_drew1) | exact HB.out)⟩
  · rw [if_neg c2] at H
    have c2b0 : decide (160 < (l0.length : Int)) = false := decide_eq_false c2
    have c2b1 : decide (160 < l0.length) = false := decide_eq_false (by omega)
    clear c2
    have H' := Aside0.mk H
    clear H
    go_enter Try.func22, Try.ntmps22
    go_wp2_with (first | ((with_reducible refine gate_dst (N := 6) rfl ?_); refine Kd.R_lit (Kd.int .u8) _ 5 ?hg (N := 6) ?hd (xs := ([] : List Int)) (inner := []) (ok := fun _ => True) (okp := fun _ => True) ?hr ?hp (fun _ hk => hk) trivial (Below.refl _ _) (Nat.le_refl _) (by simp) ?_; (case hd => rfl); (case hg => rfl); (case hr => first | (go_simp; done) | (go_simp; rfl)); (case hp => exact (Reps.none _ _)); intro v178 w5 ho6 hb hg_ hnew_; clear hg_ hnew_; (first | rw [← Ny177.out] at ho6 | (simp only [Int.reduceToNat] at ho6; rw [← Ny177.out] at ho6)); have n0_ := Aside0.mk (Kd.R_lower ho6 (below_size (by repeat (first | (with_reducible first | exact HB.out | apply below_alloc | apply pw_below_drewN | apply below_drew1) | exact HB.out)))); have n1_ := Aside0.mk (below_step (by repeat (first | (with_reducible first | exact HB.out | apply below_alloc | apply pw_below_drewN | apply below_drew1) | exact HB.out)) hb); clear HB; have HO179 := n0_; have HB := n1_; clear n0_ n1_; clear hb ho6))
    go_loopg [3, 4] k (fun kq v3 v4 w' => ∃ (x3_1 : List Int) (x4_1 : Int), v4 = .int .i64 x4_1 ∧ Aside0 (spec_EncodeDir.l0 kq l0 x3_1 x4_1 = some r) ∧ Aside0 (kq ≤ k) ∧ Aside0 (Kd.R (Kd.int .u8) 5 w' w.heap.size (fun _ => True) v3 x3_1) ∧ Aside0 (Below w.heap.size w w'))
    case atStart => exact ⟨(y177), (0), (by first | rfl | (simp; done) | (simp [*]; done)), H', ⟨Nat.le_refl _⟩, ⟨by (with_reducible repeat (first | apply Kd.R_alloc | apply Kd.R_drewN | apply Kd.R_drew)); exact HO179.out⟩, ⟨by repeat (first | (with_reducible first | exact HB.out | apply below_alloc | apply pw_below_drewN | apply below_drew1) | exact HB.out)⟩⟩
    case round =>
      clear H'
      try clear c2
      try clear c2b0
      try clear c2b1
      try clear p2
      obtain ⟨x3_1, x4_1, rfl, HA, HK1, HO_3, HB⟩ := hrel
      cases gk with
      | zero => exact absurd HA.out (by simp [spec_EncodeDir.l0])
      | succ k1 =>
        have H := HA.out
        clear HA
        simp only [spec_EncodeDir.l0] at H
        by_cases c7 : x4_1 < (l0.length : Int)
        · rw [if_pos c7] at H
          have c7b0 : decide (x4_1 < (l0.length : Int)) = true := decide_eq_true c7
          clear c7
          by_cases c8 : 0 ≤ x4_1
          · rw [if_pos c8] at H
            have c8b0 : decide (0 ≤ x4_1) = true := decide_eq_true c8
            clear c8
            replace H := Option.bind_eq_some_iff.mp H
            obtain ⟨t181, A90, H⟩ := H
            replace H : (if (t181.length : Int) = 0 then (some (([] : List Int))) else ((spec_DirFind.f k1 l0 ((rd_T27 l0 x4_1).f1)).bind fun t188 => (if t188 = x4_1 then (if x3_1.length + t181.length < 140737488355328 then (spec_EncodeDir.l0 k1 l0 (x3_1 ++ t181) (wrap64 (x4_1 + 1))) else (none)) else (some (([] : List Int)))))) = some r := H
            have A9 := Aside0.mk A90
            clear A90
            by_cases c10 : (t181.length : Int) = 0
            · rw [if_pos c10] at H
              have c10b0 : ((t181.length : Int) == 0) = true := beq_iff_eq.mpr c10
              have c10b1 : ((t181.length : Int) != 0) = false := bne_eq_false_iff_eq.mpr c10
              clear c10
              obtain ⟨y184, hy184⟩ : ∃ y_ : List Int, y_ = (([] : List Int)) := ⟨_, rfl⟩
              replace H : (some y184) = some r := by first | (rw [hy184]; with_reducible exact H) | (have H2_ := (Option.bind_some _ _).symm.trans H; rw [hy184]; with_reducible exact H2_) | (have H2_ := (Option.bind_some _ _).symm.trans H; with_reducible exact H2_) | with_reducible exact H | (rw [hy184]; exact H) | exact H
              have Ny184 := Aside0.mk hy184
              clear hy184
              obtain rfl := Option.some.inj H
              have p180 : 0 ≤ (x4_1 : Int) := of_decide_eq_true (by first | (with_reducible assumption) | assumption)
              have q180 : x4_1 < (l0.length : Int) := of_decide_eq_true (by first | (with_reducible assumption) | assumption)
              obtain ⟨ad180, e180, hx180_0, hx180_1⟩ := at_T27 HR0.out x4_1 p180 q180
              cases e180
              replace hx180_0 := (HB.out.cell (World.block_lt_of_cell? w _ hx180_0)).trans hx180_0
              replace hx180_1 := (HB.out.cell (World.block_lt_of_cell? w _ hx180_1)).trans hx180_1
              replace p180 := eq_true p180
              replace q180 := eq_true q180
              go_wp2_with (first | ((with_reducible refine gate_callee (f := 11) rfl ?_); refine goesL_ (some 21) rfl rfl Try.func11 (by kernel_rfl) rfl #[.agg #[.int .i64 ((rd_T27 l0 x4_1).f0), .string ((rd_T27 l0 x4_1).f1)]] rfl (by (try simp only [List.map_toArray, List.map_cons, List.map_nil]); first | done | rfl | (simp only [List.length_drop, List.length_take]; rfl)) ?_; (with_reducible refine (spec_EncodeEntry.calls k1 ((rd_T27 l0 x4_1).f0) ((rd_T27 l0 x4_1).f1) t181 _ A9.out).mono ?_); rintro e w11 ⟨v182, rfl, ho0, hb⟩; refine ⟨_, rfl, ?_⟩; have n0_ := Aside0.mk (Kd.R_elder' (by (with_reducible repeat (first | apply Kd.R_alloc | apply Kd.R_drewN | apply Kd.R_drew)); exact HO_3.out) (Kd.R_base ho0) hb); have n1_ := Aside0.mk (Kd.R_lower (Kd.R_new' ho0 (Kd.R_lt (by (with_reducible repeat (first | apply Kd.R_alloc | apply Kd.R_drewN | apply Kd.R_drew)); exact HO_3.out))) (below_size (by repeat (first | (with_reducible first | exact HB.out | apply below_alloc | apply pw_below_drewN | apply below_drew1) | exact HB.out)))); have n2_ := Aside0.mk (below_step (by repeat (first | (with_reducible first | exact HB.out | apply below_alloc | apply pw_below_drewN | apply below_drew1) | exact HB.out)) hb); clear HO_3; clear HB; have HO_3 := n0_; have HO183 := n1_; have HB := n2_; clear n0_ n1_ n2_; (try clear hb); (try clear hb2); (try clear hk); (try clear hi); (try clear ho0); obtain ⟨Ao12, co12, eo12⟩ := Kd.R_slice HO183.out; subst eo12) | ((with_reducible refine gate_dst (N := 36) rfl ?_); refine Kd.R_lit (Kd.int .u8) _ 5 ?hg (N := 36) ?hd (xs := ([] : List Int)) (inner := []) (ok := fun _ => True) (okp := fun _ => True) ?hr ?hp (fun _ hk => hk) trivial (Below.refl _ _) (Nat.le_refl _) (by simp) ?_; (case hd => rfl); (case hg => rfl); (case hr => first | (go_simp; done) | (go_simp; rfl)); (case hp => exact (Reps.none _ _)); intro v185 w13 ho14 hb hg_ hnew_; clear hg_ hnew_; (first | rw [← Ny184.out] at ho14 | (simp only [Int.reduceToNat] at ho14; rw [← Ny184.out] at ho14)); have n0_ := Aside0.mk (Kd.R_elder' (by (with_reducible repeat (first | apply Kd.R_alloc | apply Kd.R_drewN | apply Kd.R_drew)); exact HO_3.out) (Kd.R_base ho14) hb); have n1_ := Aside0.mk (Kd.R_elder' (by (with_reducible repeat (first | apply Kd.R_alloc | apply Kd.R_drewN | apply Kd.R_drew)); exact HO183.out) (Kd.R_base ho14) hb); have n2_ := Aside0.mk (Kd.R_lower (Kd.R_new' (Kd.R_new' ho14 (Kd.R_lt (by (with_reducible repeat (first | apply Kd.R_alloc | apply Kd.R_drewN | apply Kd.R_drew)); exact HO_3.out))) (Kd.R_lt (by (with_reducible repeat (first | apply Kd.R_alloc | apply Kd.R_drewN | apply Kd.R_drew)); exact HO183.out))) (below_size (by repeat (first | (with_reducible first | exact HB.out | apply below_alloc | apply pw_below_drewN | apply below_drew1) | exact HB.out)))); have n3_ := Aside0.mk (below_step (by repeat (first | (with_reducible first | exact HB.out | apply below_alloc | apply pw_below_drewN | apply below_drew1) | exact HB.out)) hb); clear HO_3; clear HO183; clear HB; have HO_3 := n0_; have HO183 := n1_; have HO186 := n2_; have HB := n3_; clear n0_ n1_ n2_ n3_; clear hb ho14))
              go_ret
              exact ⟨_, by first | rfl | (simp [errW_none, errW_some] <;> rfl) | (simp [*, errW_none, errW_some] <;> rfl), by (with_reducible repeat (first | apply Kd.R_alloc | apply Kd.R_drewN | apply Kd.R_drew)); exact Kd.R_mono HO186.out (fun _ hk => trivial), by repeat (first | (with_reducible first | exact HB.out | apply below_alloc | apply pw_below_drewN | apply below_drew1) | exact HB.out)⟩
            · rw [if_neg c10] at H
              have c10b0 : ((t181.length : Int) == 0) = false := beq_eq_false_iff_ne.mpr c10
              have c10b1 : ((t181.length : Int) != 0) = true := bne_iff_ne.mpr c10
              have c10b2 : ¬ (t181 = []) := fun h_ => c10 (by rw [h_]; rfl)
              replace H := Option.bind_eq_some_iff.mp H
              obtain ⟨t188, A150, H⟩ := H
              replace H : (if t188 = x4_1 then (if x3_1.length + t181.length < 140737488355328 then (spec_EncodeDir.l0 k1 l0 (x3_1 ++ t181) (wrap64 (x4_1 + 1))) else (none)) else (some (([] : List Int)))) = some r := H
              have A15 := Aside0.mk A150
              clear A150
              by_cases c16 : t188 = x4_1
              · rw [if_pos c16] at H
                have c16b0 : (t188 == x4_1) = true := beq_iff_eq.mpr c16
                have c16b1 : (t188 != x4_1) = false := bne_eq_false_iff_eq.mpr c16
                clear c16
                by_cases c17 : x3_1.length + t181.length < 140737488355328
                · rw [if_pos c17] at H
                  have LMc17 := Aside0.mk c17
                  clear c17
                  obtain ⟨y189, hy189⟩ : ∃ y_ : List Int, y_ = (x3_1 ++ t181) := ⟨_, rfl⟩
                  replace H : (spec_EncodeDir.l0 k1 l0 y189 (wrap64 (x4_1 + 1))) = some r := by first | (rw [hy189]; with_reducible exact H) | (have H2_ := (Option.bind_some _ _).symm.trans H; rw [hy189]; with_reducible exact H2_) | (have H2_ := (Option.bind_some _ _).symm.trans H; with_reducible exact H2_) | with_reducible exact H | (rw [hy189]; exact H) | exact H
                  have Ny189 := Aside0.mk hy189
                  clear hy189
                  have H' := Aside0.mk H
                  clear H
                  have p180 : 0 ≤ (x4_1 : Int) := of_decide_eq_true (by first | (with_reducible assumption) | assumption)
                  have q180 : x4_1 < (l0.length : Int) := of_decide_eq_true (by first | (with_reducible assumption) | assumption)
                  obtain ⟨ad180, e180, hx180_0, hx180_1⟩ := at_T27 HR0.out x4_1 p180 q180
                  cases e180
                  replace hx180_0 := (HB.out.cell (World.block_lt_of_cell? w _ hx180_0)).trans hx180_0
                  replace hx180_1 := (HB.out.cell (World.block_lt_of_cell? w _ hx180_1)).trans hx180_1
                  replace p180 := eq_true p180
                  replace q180 := eq_true q180
                  go_wp2_with (first | ((with_reducible refine gate_callee (f := 11) rfl ?_); refine goesL_ (some 21) rfl rfl Try.func11 (by kernel_rfl) rfl #[.agg #[.int .i64 ((rd_T27 l0 x4_1).f0), .string ((rd_T27 l0 x4_1).f1)]] rfl (by (try simp only [List.map_toArray, List.map_cons, List.map_nil]); first | done | rfl | (simp only [List.length_drop, List.length_take]; rfl)) ?_; (with_reducible refine (spec_EncodeEntry.calls k1 ((rd_T27 l0 x4_1).f0) ((rd_T27 l0 x4_1).f1) t181 _ A9.out).mono ?_); rintro e w18 ⟨v182, rfl, ho0, hb⟩; refine ⟨_, rfl, ?_⟩; have n0_ := Aside0.mk (Kd.R_elder' (by (with_reducible repeat (first | apply Kd.R_alloc | apply Kd.R_drewN | apply Kd.R_drew)); exact HO_3.out) (Kd.R_base ho0) hb); have n1_ := Aside0.mk (Kd.R_lower (Kd.R_new' ho0 (Kd.R_lt (by (with_reducible repeat (first | apply Kd.R_alloc | apply Kd.R_drewN | apply Kd.R_drew)); exact HO_3.out))) (below_size (by repeat (first | (with_reducible first | exact HB.out | apply below_alloc | apply pw_below_drewN | apply below_drew1) | exact HB.out)))); have n2_ := Aside0.mk (below_step (by repeat (first | (with_reducible first | exact HB.out | apply below_alloc | apply pw_below_drewN | apply below_drew1) | exact HB.out)) hb); clear HO_3; clear HB; have HO_3 := n0_; have HO183 := n1_; have HB := n2_; clear n0_ n1_ n2_; (try clear hb); (try clear hb2); (try clear hk); (try clear hi); (try clear ho0); obtain ⟨Ao19, co19, eo19⟩ := Kd.R_slice HO183.out; subst eo19; have p187 : 0 ≤ (x4_1 : Int) := of_decide_eq_true (by first | (with_reducible assumption) | assumption); have q187 : x4_1 < (l0.length : Int) := of_decide_eq_true (by first | (with_reducible assumption) | assumption); obtain ⟨ad187, e187, hx187_0, hx187_1⟩ := at_T27 HR0.out x4_1 p187 q187; obtain rfl : ad180 = ad187 := (by injection e187); replace hx187_0 := (HB.out.cell (World.block_lt_of_cell? w _ hx187_0)).trans hx187_0; replace hx187_1 := (HB.out.cell (World.block_lt_of_cell? w _ hx187_1)).trans hx187_1; replace p187 := eq_true p187; replace q187 := eq_true q187) | (go_at_call 59; (with_reducible refine (spec_DirFind.calls k1 _ _ l0 ((rd_T27 l0 x4_1).f1) t188 _ ?side1 ?side2 A15.out).mono ?_); (case side1 => repeat (first | exact (Kd.C_below HR0.out HB.out) | (with_reducible refine Kd.C_alloc ?_ _) | (with_reducible refine Kd.C_drewN ?_ _) | (with_reducible refine Kd.C_drew ?_))); (case side2 => exact HC0.out); rintro e w' ⟨rfl, ⟨nd, rfl⟩⟩) | ((with_reducible refine gate_builtin (b := .append) (xs := #[.tmp 37, .tmp 38]) rfl ?_); at_builtin; refine Kd.R_append_rows (Kd.int .u8) (w0 := w) w.heap.size rfl (.tmp 37) (.tmp 38) 25 5 (.int .u8 0) 1 rfl Try.underlying25 info5 rfl (by decide) (by omega) u3 x3_1 t181 _ _ _ (fun k_ => some k_ ≠ (.slice Ao19 t181.length co19 : Value).ownBlock) (fun _ => False) rfl rfl ?aO ?aR (fun _ _ h => h) (fun _ h => h.elim) ?aF ?aB ?aS ?aL ?_; (case aR => repeat (first | exact (Kd.R_reads' HO183.out).2.2 | (with_reducible refine Kd.C_alloc ?_ _) | (with_reducible refine Kd.C_drewN ?_ _) | (with_reducible refine Kd.C_drew ?_))); (case aB => exact (by repeat (first | (with_reducible first | exact HB.out | apply below_alloc | apply pw_below_drewN | apply below_drew1) | exact HB.out))); (case aF => exact (fun k_ hk => Kd.fresh' (Kd.R_lt (by (with_reducible repeat (first | apply Kd.R_alloc | apply Kd.R_drewN | apply Kd.R_drew)); exact HO183.out)) k_ hk)); (case aO => exact (by (with_reducible repeat (first | apply Kd.R_alloc | apply Kd.R_drewN | apply Kd.R_drew)); exact Kd.R_mono HO_3.out (fun _ hk => hk.2))); (case aS => exact (below_size (by repeat (first | (with_reducible first | exact HB.out | apply below_alloc | apply pw_below_drewN | apply below_drew1) | exact HB.out)))); (case aL => have := LMc17.out; omega); intro v190 w20 ho hb hg hat; rw [← Ny189.out] at ho; have n0_ := Aside0.mk (Kd.R_after (ok := (fun _ => True)) (by (with_reducible repeat (first | apply Kd.R_alloc | apply Kd.R_drewN | apply Kd.R_drew)); exact HO183.out) hg hat); have n1_ := Aside0.mk (hb); have n2_ := Aside0.mk (ho); clear HO183; clear HB; clear HO_3; have HO183 := n0_; have HB := n1_; have HO191 := n2_; clear n0_ n1_ n2_; clear ho hb hg hat))
                  go_roundg k1
                  case measure => have := HK1.out; omega
                  case rel => exact ⟨(y189), (wrap64 (x4_1 + 1)), (by first | rfl | (simp; done) | (simp [*]; done)), H', ⟨by have := HK1.out; omega⟩, ⟨by (with_reducible repeat (first | apply Kd.R_alloc | apply Kd.R_drewN | apply Kd.R_drew)); exact Kd.R_mono HO191.out (fun _ hk => trivial)⟩, ⟨by repeat (first | (with_reducible first | exact HB.out | apply below_alloc | apply pw_below_drewN | apply below_drew1) | exact HB.out)⟩⟩
                · rw [if_neg c17] at H
                  exact absurd H (by simp)
              · rw [if_neg c16] at H
                have c16b0 : (t188 == x4_1) = false := beq_eq_false_iff_ne.mpr c16
                have c16b1 : (t188 != x4_1) = true := bne_iff_ne.mpr c16
                obtain ⟨y192, hy192⟩ : ∃ y_ : List Int, y_ = (([] : List Int)) := ⟨_, rfl⟩
                replace H : (some y192) = some r := by first | (rw [hy192]; with_reducible exact H) | (have H2_ := (Option.bind_some _ _).symm.trans H; rw [hy192]; with_reducible exact H2_) | (have H2_ := (Option.bind_some _ _).symm.trans H; with_reducible exact H2_) | with_reducible exact H | (rw [hy192]; exact H) | exact H
                have Ny192 := Aside0.mk hy192
                clear hy192
                obtain rfl := Option.some.inj H
                have p180 : 0 ≤ (x4_1 : Int) := of_decide_eq_true (by first | (with_reducible assumption) | assumption)
                have q180 : x4_1 < (l0.length : Int) := of_decide_eq_true (by first | (with_reducible assumption) | assumption)
                obtain ⟨ad180, e180, hx180_0, hx180_1⟩ := at_T27 HR0.out x4_1 p180 q180
                cases e180
                replace hx180_0 := (HB.out.cell (World.block_lt_of_cell? w _ hx180_0)).trans hx180_0
                replace hx180_1 := (HB.out.cell (World.block_lt_of_cell? w _ hx180_1)).trans hx180_1
                replace p180 := eq_true p180
                replace q180 := eq_true q180
                go_wp2_with (first | ((with_reducible refine gate_callee (f := 11) rfl ?_); refine goesL_ (some 21) rfl rfl Try.func11 (by kernel_rfl) rfl #[.agg #[.int .i64 ((rd_T27 l0 x4_1).f0), .string ((rd_T27 l0 x4_1).f1)]] rfl (by (try simp only [List.map_toArray, List.map_cons, List.map_nil]); first | done | rfl | (simp only [List.length_drop, List.length_take]; rfl)) ?_; (with_reducible refine (spec_EncodeEntry.calls k1 ((rd_T27 l0 x4_1).f0) ((rd_T27 l0 x4_1).f1) t181 _ A9.out).mono ?_); rintro e w21 ⟨v182, rfl, ho0, hb⟩; refine ⟨_, rfl, ?_⟩; have n0_ := Aside0.mk (Kd.R_elder' (by (with_reducible repeat (first | apply Kd.R_alloc | apply Kd.R_drewN | apply Kd.R_drew)); exact HO_3.out) (Kd.R_base ho0) hb); have n1_ := Aside0.mk (Kd.R_lower (Kd.R_new' ho0 (Kd.R_lt (by (with_reducible repeat (first | apply Kd.R_alloc | apply Kd.R_drewN | apply Kd.R_drew)); exact HO_3.out))) (below_size (by repeat (first | (with_reducible first | exact HB.out | apply below_alloc | apply pw_below_drewN | apply below_drew1) | exact HB.out)))); have n2_ := Aside0.mk (below_step (by repeat (first | (with_reducible first | exact HB.out | apply below_alloc | apply pw_below_drewN | apply below_drew1) | exact HB.out)) hb); clear HO_3; clear HB; have HO_3 := n0_; have HO183 := n1_; have HB := n2_; clear n0_ n1_ n2_; (try clear hb); (try clear hb2); (try clear hk); (try clear hi); (try clear ho0); obtain ⟨Ao22, co22, eo22⟩ := Kd.R_slice HO183.out; subst eo22; have p187 : 0 ≤ (x4_1 : Int) := of_decide_eq_true (by first | (with_reducible assumption) | assumption); have q187 : x4_1 < (l0.length : Int) := of_decide_eq_true (by first | (with_reducible assumption) | assumption); obtain ⟨ad187, e187, hx187_0, hx187_1⟩ := at_T27 HR0.out x4_1 p187 q187; obtain rfl : ad180 = ad187 := (by injection e187); replace hx187_0 := (HB.out.cell (World.block_lt_of_cell? w _ hx187_0)).trans hx187_0; replace hx187_1 := (HB.out.cell (World.block_lt_of_cell? w _ hx187_1)).trans hx187_1; replace p187 := eq_true p187; replace q187 := eq_true q187) | (go_at_call 59; (with_reducible refine (spec_DirFind.calls k1 _ _ l0 ((rd_T27 l0 x4_1).f1) t188 _ ?side1 ?side2 A15.out).mono ?_); (case side1 => repeat (first | exact (Kd.C_below HR0.out HB.out) | (with_reducible refine Kd.C_alloc ?_ _) | (with_reducible refine Kd.C_drewN ?_ _) | (with_reducible refine Kd.C_drew ?_))); (case side2 => exact HC0.out); rintro e w' ⟨rfl, ⟨nd, rfl⟩⟩) | ((with_reducible refine gate_dst (N := 36) rfl ?_); refine Kd.R_lit (Kd.int .u8) _ 5 ?hg (N := 36) ?hd (xs := ([] : List Int)) (inner := []) (ok := fun _ => True) (okp := fun _ => True) ?hr ?hp (fun _ hk => hk) trivial (Below.refl _ _) (Nat.le_refl _) (by simp) ?_; (case hd => rfl); (case hg => rfl); (case hr => first | (go_simp; done) | (go_simp; rfl)); (case hp => exact (Reps.none _ _)); intro v193 w23 ho24 hb hg_ hnew_; clear hg_ hnew_; (first | rw [← Ny192.out] at ho24 | (simp only [Int.reduceToNat] at ho24; rw [← Ny192.out] at ho24)); have n0_ := Aside0.mk (Kd.R_elder' (by (with_reducible repeat (first | apply Kd.R_alloc | apply Kd.R_drewN | apply Kd.R_drew)); exact HO_3.out) (Kd.R_base ho24) hb); have n1_ := Aside0.mk (Kd.R_elder' (by (with_reducible repeat (first | apply Kd.R_alloc | apply Kd.R_drewN | apply Kd.R_drew)); exact HO183.out) (Kd.R_base ho24) hb); have n2_ := Aside0.mk (Kd.R_lower (Kd.R_new' (Kd.R_new' ho24 (Kd.R_lt (by (with_reducible repeat (first | apply Kd.R_alloc | apply Kd.R_drewN | apply Kd.R_drew)); exact HO_3.out))) (Kd.R_lt (by (with_reducible repeat (first | apply Kd.R_alloc | apply Kd.R_drewN | apply Kd.R_drew)); exact HO183.out))) (below_size (by repeat (first | (with_reducible first | exact HB.out | apply below_alloc | apply pw_below_drewN | apply below_drew1) | exact HB.out)))); have n3_ := Aside0.mk (below_step (by repeat (first | (with_reducible first | exact HB.out | apply below_alloc | apply pw_below_drewN | apply below_drew1) | exact HB.out)) hb); clear HO_3; clear HO183; clear HB; have HO_3 := n0_; have HO183 := n1_; have HO194 := n2_; have HB := n3_; clear n0_ n1_ n2_ n3_; clear hb ho24))
                go_ret
                exact ⟨_, by first | rfl | (simp [errW_none, errW_some] <;> rfl) | (simp [*, errW_none, errW_some] <;> rfl), by (with_reducible repeat (first | apply Kd.R_alloc | apply Kd.R_drewN | apply Kd.R_drew)); exact Kd.R_mono HO194.out (fun _ hk => trivial), by repeat (first | (with_reducible first | exact HB.out | apply below_alloc | apply pw_below_drewN | apply below_drew1) | exact HB.out)⟩
          · rw [if_neg c8] at H
            exact absurd H (by simp)
        · rw [if_neg c7] at H
          have c7b0 : decide (x4_1 < (l0.length : Int)) = false := decide_eq_false c7
          clear c7
          obtain rfl := Option.some.inj H
          go_wp2
          go_ret
          exact ⟨_, by first | rfl | (simp [errW_none, errW_some] <;> rfl) | (simp [*, errW_none, errW_some] <;> rfl), by (with_reducible repeat (first | apply Kd.R_alloc | apply Kd.R_drewN | apply Kd.R_drew)); exact HO_3.out, by repeat (first | (with_reducible first | exact HB.out | apply below_alloc | apply pw_below_drewN | apply below_drew1) | exact HB.out)⟩

/-! ### laws_toEntry: function 12 -/
def laws_toEntry.f (a0_0 : Int) (a0_1 : ByteArray) : Option (Int × ByteArray) := some (a0_0, a0_1)
set_option maxHeartbeats 8000000 in
set_option maxRecDepth 100000 in
theorem laws_toEntry.calls (a0_0 : Int) (a0_1 : ByteArray) (r1 : Int) (r2 : ByteArray) (w : World) (h : laws_toEntry.f a0_0 a0_1 = some (r1, r2)) :
    Calls Try.prog 12 #[.agg #[.int .i64 a0_0, .string a0_1]] w fun e w' => e = .returned (.agg #[.int .i64 r1, .string r2]) ∧ Below w.heap.size w w' := by
  have hu23 := Try.underlying23
  have hu27 := Try.underlying27
  have HB := Aside0.mk (Below.refl w.heap.size w)
  have H : (some (a0_0, a0_1)) = some (r1, r2) := h
  clear h
  simp only [Option.some.injEq, Prod.mk.injEq] at H
  obtain ⟨rfl, rfl⟩ := H
  go_enter Try.func12, Try.ntmps12
  go_wp2_with (first | ((with_reducible refine gate_dst (N := 1) rfl ?_); refine box_event ?hg (N := 1) ?hd (cs := #[.int .i64 a0_0, .string a0_1]) (t := 23) ?hr ?_; (case hd => rfl); (case hg => rfl); (case hr => first | (go_simp; done) | (go_simp; rfl)); intro gb195 hg w2 hbox hb; have n0_ := Aside0.mk (below_step (by repeat (first | (with_reducible first | exact HB.out | apply below_alloc | apply pw_below_drewN | apply below_drew1) | exact HB.out)) hb); have n1_ := Aside0.mk (hbox); have n2_ := Aside0.mk ((by rw [hg]; exact (below_size (by repeat (first | (with_reducible first | exact HB.out | apply below_alloc | apply pw_below_drewN | apply below_drew1) | exact HB.out))) : w.heap.size ≤ gb195)); have n3_ := Aside0.mk ((by rw [hg]; exact (below_size (by repeat (first | (with_reducible first | exact HB.out | apply below_alloc | apply pw_below_drewN | apply below_drew1) | exact HB.out))) : w.heap.size ≤ gb195)); clear HB; have HB := n0_; have BK195 := n1_; have GW195 := n2_; have GE195 := n3_; clear n0_ n1_ n2_ n3_; clear hb hbox hg) | ((with_reducible refine gate_dst (N := 2) rfl ?_); refine box_event ?hg (N := 2) ?hd (cs := #[.int .i64 0, .string (⟨#[]⟩ : ByteArray)]) (t := 27) ?hr ?_; (case hd => rfl); (case hg => rfl); (case hr => first | (go_simp; done) | (go_simp; rfl)); intro gb196 hg w3 hbox hb; have n0_ := Aside0.mk (blk_below (g := gb195) (o := .cells #[.int .i64 a0_0, .string a0_1] 23 (0, 0)) (by (with_reducible repeat (first | refine blk_drewN ?_ _ | refine blk_drew ?_ | refine blk_alloc ?_ _)); exact BK195.out) hb); have n1_ := Aside0.mk (below_step (by repeat (first | (with_reducible first | exact HB.out | apply below_alloc | apply pw_below_drewN | apply below_drew1 | refine below_set ?_ GE195.out) | exact HB.out)) hb); have n2_ := Aside0.mk (hbox); have n3_ := Aside0.mk ((by rw [hg]; exact (below_size (by repeat (first | (with_reducible first | exact HB.out | apply below_alloc | apply pw_below_drewN | apply below_drew1 | refine below_set ?_ GE195.out) | exact HB.out))) : w.heap.size ≤ gb196)); have n4_ := Aside0.mk ((by rw [hg]; exact (below_size (by repeat (first | (with_reducible first | exact HB.out | apply below_alloc | apply pw_below_drewN | apply below_drew1 | refine below_set ?_ GE195.out) | exact HB.out))) : w.heap.size ≤ gb196)); have n5_ := Aside0.mk ((by rw [hg]; exact Nat.ne_of_lt (blk_lt (g := gb195) (o := .cells #[.int .i64 a0_0, .string a0_1] 23 (0, 0)) (by (with_reducible repeat (first | refine blk_drewN ?_ _ | refine blk_drew ?_ | refine blk_alloc ?_ _)); exact BK195.out)) : gb195 ≠ gb196)); have n6_ := Aside0.mk ((by rw [hg]; exact Nat.ne_of_gt (blk_lt (g := gb195) (o := .cells #[.int .i64 a0_0, .string a0_1] 23 (0, 0)) (by (with_reducible repeat (first | refine blk_drewN ?_ _ | refine blk_drew ?_ | refine blk_alloc ?_ _)); exact BK195.out)) : gb196 ≠ gb195)); clear BK195; clear HB; have BK195 := n0_; have HB := n1_; have BK196 := n2_; have GW196 := n3_; have GE196 := n4_; have NB195_196 := n5_; have NB196_195 := n6_; clear n0_ n1_ n2_ n3_ n4_ n5_ n6_; clear hb hbox hg) | ((with_reducible refine gate_dst (N := 3) rfl ?_); refine box_event ?hg (N := 3) ?hd (cs := #[.int .i64 0, .string (⟨#[]⟩ : ByteArray)]) (t := 27) ?hr ?_; (case hd => rfl); (case hg => rfl); (case hr => first | (go_simp; done) | (go_simp; rfl)); intro gb197 hg w4 hbox hb; have n0_ := Aside0.mk (blk_below (g := gb195) (o := .cells #[.int .i64 a0_0, .string a0_1] 23 (0, 0)) (by (with_reducible repeat (first | refine blk_drewN ?_ _ | refine blk_drew ?_ | refine blk_alloc ?_ _)); exact BK195.out) hb); have n1_ := Aside0.mk (blk_below (g := gb196) (o := .cells #[.int .i64 0, .string (⟨#[]⟩ : ByteArray)] 27 (0, 0)) (by (with_reducible repeat (first | refine blk_drewN ?_ _ | refine blk_drew ?_ | refine blk_alloc ?_ _)); exact BK196.out) hb); have n2_ := Aside0.mk (below_step (by repeat (first | (with_reducible first | exact HB.out | apply below_alloc | apply pw_below_drewN | apply below_drew1 | refine below_set ?_ GE195.out | refine below_set ?_ GE196.out) | exact HB.out)) hb); have n3_ := Aside0.mk (hbox); have n4_ := Aside0.mk ((by rw [hg]; exact (below_size (by repeat (first | (with_reducible first | exact HB.out | apply below_alloc | apply pw_below_drewN | apply below_drew1 | refine below_set ?_ GE195.out | refine below_set ?_ GE196.out) | exact HB.out))) : w.heap.size ≤ gb197)); have n5_ := Aside0.mk ((by rw [hg]; exact (below_size (by repeat (first | (with_reducible first | exact HB.out | apply below_alloc | apply pw_below_drewN | apply below_drew1 | refine below_set ?_ GE195.out | refine below_set ?_ GE196.out) | exact HB.out))) : w.heap.size ≤ gb197)); have n6_ := Aside0.mk ((by rw [hg]; exact Nat.ne_of_lt (blk_lt (g := gb195) (o := .cells #[.int .i64 a0_0, .string a0_1] 23 (0, 0)) (by (with_reducible repeat (first | refine blk_drewN ?_ _ | refine blk_drew ?_ | refine blk_alloc ?_ _)); exact BK195.out)) : gb195 ≠ gb197)); have n7_ := Aside0.mk ((by rw [hg]; exact Nat.ne_of_gt (blk_lt (g := gb195) (o := .cells #[.int .i64 a0_0, .string a0_1] 23 (0, 0)) (by (with_reducible repeat (first | refine blk_drewN ?_ _ | refine blk_drew ?_ | refine blk_alloc ?_ _)); exact BK195.out)) : gb197 ≠ gb195)); have n8_ := Aside0.mk ((by rw [hg]; exact Nat.ne_of_lt (blk_lt (g := gb196) (o := .cells #[.int .i64 0, .string (⟨#[]⟩ : ByteArray)] 27 (0, 0)) (by (with_reducible repeat (first | refine blk_drewN ?_ _ | refine blk_drew ?_ | refine blk_alloc ?_ _)); exact BK196.out)) : gb196 ≠ gb197)); have n9_ := Aside0.mk ((by rw [hg]; exact Nat.ne_of_gt (blk_lt (g := gb196) (o := .cells #[.int .i64 0, .string (⟨#[]⟩ : ByteArray)] 27 (0, 0)) (by (with_reducible repeat (first | refine blk_drewN ?_ _ | refine blk_drew ?_ | refine blk_alloc ?_ _)); exact BK196.out)) : gb197 ≠ gb196)); clear BK195; clear BK196; clear HB; have BK195 := n0_; have BK196 := n1_; have HB := n2_; have BK197 := n3_; have GW197 := n4_; have GE197 := n5_; have NB195_197 := n6_; have NB197_195 := n7_; have NB196_197 := n8_; have NB197_196 := n9_; clear n0_ n1_ n2_ n3_ n4_ n5_ n6_ n7_ n8_ n9_; clear hb hbox hg; have hnb5 := NB195_196.out; have hnc5 := NB196_195.out; have hnb6 := NB195_197.out; have hnc6 := NB197_195.out; have hcz7_0 : w4.cell? ⟨gb195, 0, none⟩ = some (.int .i64 a0_0) := (blk_cell BK195.out 0).trans rfl; have hcz7_1 : w4.cell? ⟨gb195, 1, none⟩ = some (.string a0_1) := (blk_cell BK195.out 1).trans rfl; have hfz7_0 := blk_frozen BK195.out 0; have hfz7_1 := blk_frozen BK195.out 1; have hnb8 := NB197_196.out; have hnc8 := NB196_197.out; have hcz9_0 : w4.cell? ⟨gb197, 0, none⟩ = some (.int .i64 0) := (blk_cell BK197.out 0).trans rfl; have hcz9_1 : w4.cell? ⟨gb197, 1, none⟩ = some (.string (⟨#[]⟩ : ByteArray)) := (blk_cell BK197.out 1).trans rfl; have hfz9_0 := blk_frozen BK197.out 0; have hfz9_1 := blk_frozen BK197.out 1; have hcz10_0 : w4.cell? ⟨gb196, 0, none⟩ = some (.int .i64 0) := (blk_cell BK196.out 0).trans rfl; have hcz10_1 : w4.cell? ⟨gb196, 1, none⟩ = some (.string (⟨#[]⟩ : ByteArray)) := (blk_cell BK196.out 1).trans rfl; have hfz10_0 := blk_frozen BK196.out 0; have hfz10_1 := blk_frozen BK196.out 1))
  refine bodyPost_ret (results_cell_row rfl _ _ gb196 27 #[.int .i64 a0_0, .string a0_1] (0, 0) _ rfl (by (with_reducible repeat (first | refine blk_drewN ?_ _ | refine blk_drew ?_ | refine blk_alloc ?_ _)); refine blk_put (cs := #[.int .i64 a0_0, .string (⟨#[]⟩ : ByteArray)]) ?_ 1 _ rfl; (with_reducible repeat (first | refine blk_drewN ?_ _ | refine blk_drew ?_ | refine blk_alloc ?_ _)); refine blk_put (cs := #[.int .i64 0, .string (⟨#[]⟩ : ByteArray)]) ?_ 0 _ rfl; (with_reducible repeat (first | refine blk_drewN ?_ _ | refine blk_drew ?_ | refine blk_alloc ?_ _)); refine blk_far ?_ NB196_197.out _; (with_reducible repeat (first | refine blk_drewN ?_ _ | refine blk_drew ?_ | refine blk_alloc ?_ _)); refine blk_far ?_ NB196_197.out _; (with_reducible repeat (first | refine blk_drewN ?_ _ | refine blk_drew ?_ | refine blk_alloc ?_ _)); exact BK196.out) Try.underlying27 rfl (by kernel_rfl)) rfl ?_
  exact ⟨by first | rfl | (simp [errW_none, errW_some] <;> rfl) | (simp [*, errW_none, errW_some] <;> rfl), by repeat (first | (with_reducible first | exact HB.out | apply below_alloc | apply pw_below_drewN | apply below_drew1 | refine below_set ?_ GE195.out | refine below_set ?_ GE196.out | refine below_set ?_ GE197.out) | exact HB.out)⟩

/-! ### laws_toEntryS: function 23 -/
def laws_toEntryS.l0 : Nat → List (S23) → List (S27) → Int → Option ((List (S27)))
  | 0, _, _, _ => none
  | k + 1, x0, x3, x4 => if x4 < (x0.length : Int) then (if 0 ≤ x4 then ((laws_toEntry.f ((rd_T23 x0 x4).f0) ((rd_T23 x0 x4).f1)).bind fun bt202 => (if x4 < (x3.length : Int) then (laws_toEntryS.l0 k x0 (x3.set (x4 : Int).toNat (⟨bt202.1, bt202.2⟩ : S27)) (wrap64 (x4 + 1))) else (none))) else (none)) else (some x3)
def laws_toEntryS.f (k : Nat) (l0 : List (S23)) : Option ((List (S27))) := if 0 ≤ (l0.length : Int) then (if ((l0.length : Int) : Int).toNat ≤ 11728124029610 then (laws_toEntryS.l0 k l0 (List.replicate ((l0.length : Int) : Int).toNat z27) 0) else (none)) else (none)
theorem laws_toEntryS.mono_l : ∀ k, (∀ y0 y1 y2, LeO (laws_toEntryS.l0 k y0 y1 y2) (laws_toEntryS.l0 (k + 1) y0 y1 y2))
  | 0 => fun _ _ _ r h => by simp [laws_toEntryS.l0] at h
  | k + 1 => by
    have ih0 := laws_toEntryS.mono_l k
    · intro y0 y1 y2
      unfold laws_toEntryS.l0
      repeat' first
      | (with_reducible exact ih0 _ _ _)
      | (with_reducible exact LeO.refl _)
      | (with_reducible exact LeO.none _)
      | (with_reducible refine LeO.ite ?_ ?_)
      | (with_reducible refine LeO.bind ?_ (fun _ => ?_))
      | exact ih0 _ _ _
      | exact LeO.none _
      | refine LeO.ite ?_ ?_
      | refine LeO.bind ?_ (fun _ => ?_)
theorem laws_toEntryS.mono : ∀ a0 k, LeO (laws_toEntryS.f k a0) (laws_toEntryS.f (k + 1) a0) := by
  intro a0 k
  have ih0 := laws_toEntryS.mono_l k
  unfold laws_toEntryS.f
  repeat' first
      | (with_reducible exact ih0 _ _ _)
      | (with_reducible exact LeO.refl _)
      | (with_reducible exact LeO.none _)
      | (with_reducible refine LeO.ite ?_ ?_)
      | (with_reducible refine LeO.bind ?_ (fun _ => ?_))
      | exact ih0 _ _ _
      | exact LeO.none _
      | refine LeO.ite ?_ ?_
      | refine LeO.bind ?_ (fun _ => ?_)
set_option maxHeartbeats 8000000 in
set_option maxRecDepth 100000 in
theorem laws_toEntryS.calls (k : Nat) (A0 : Option Addr) (c0 : Nat) (l0 : List (S23)) (r : List (S27)) (w : World) (hr0 : Kd.C k23 w A0 l0.length l0) (hc0 : l0.length ≤ c0) (h : laws_toEntryS.f k l0 = some r) :
    Calls Try.prog 23 #[.slice A0 l0.length c0] w fun e w' => ∃ v0_ : Value, e = .returned (v0_) ∧ Kd.R k27 27 w' w.heap.size (fun _ => True) v0_ r ∧ Below w.heap.size w w' := by
  have hu23 := Try.underlying23
  have hu27 := Try.underlying27
  have HR0 := Aside0.mk hr0
  have HC0 := Aside0.mk hc0
  clear hr0 hc0
  have HB := Aside0.mk (Below.refl w.heap.size w)
  have H : (if 0 ≤ (l0.length : Int) then (if ((l0.length : Int) : Int).toNat ≤ 11728124029610 then (laws_toEntryS.l0 k l0 (List.replicate ((l0.length : Int) : Int).toNat z27) 0) else (none)) else (none)) = some r := h
  clear h
  by_cases c2 : 0 ≤ (l0.length : Int)
  · rw [if_pos c2] at H
    have c2b0 := eq_true c2
    have c2b1 : decide (0 ≤ (l0.length : Int)) = true := decide_eq_true c2
    clear c2
    by_cases c3 : ((l0.length : Int) : Int).toNat ≤ 11728124029610
    · rw [if_pos c3] at H
      have c3b0 := eq_true c3
      have c3b1 : decide (((l0.length : Int) : Int).toNat ≤ 11728124029610) = true := decide_eq_true c3
      clear c3
      obtain ⟨y198, hy198⟩ : ∃ y_ : List (S27), y_ = (List.replicate ((l0.length : Int) : Int).toNat z27) := ⟨_, rfl⟩
      replace H : (laws_toEntryS.l0 k l0 y198 0) = some r := by first | (rw [hy198]; with_reducible exact H) | (have H2_ := (Option.bind_some _ _).symm.trans H; rw [hy198]; with_reducible exact H2_) | (have H2_ := (Option.bind_some _ _).symm.trans H; with_reducible exact H2_) | with_reducible exact H | (rw [hy198]; exact H) | exact H
      have Ny198 := Aside0.mk hy198
      clear hy198
      have H' := Aside0.mk H
      clear H
      go_enter Try.func23, Try.ntmps23
      go_wp2_with (first | ((with_reducible refine gate_dst (N := 7) rfl ?_); refine Kd.R_make k27 _ 27 rfl (N := 7) rfl 41 _ _ rfl (l0.length : Int) rfl rfl Try.underlying41 (.agg #[(.int .i64 0), (.string ⟨#[]⟩)]) 24 info27 rfl (by decide) (by omega) z27 (ok := fun _ => True) (okp := fun _ => True) (k27_mkM _ _ _ z27 ) (fun _ hk => hk) trivial (of_decide_eq_true (by first | (with_reducible assumption) | assumption)) (Nat.le_trans (Nat.mul_le_mul_right _ (of_decide_eq_true (by first | (with_reducible assumption) | assumption) : (l0.length : Int).toNat ≤ 11728124029610)) (by omega)) (Below.refl _ _) (Nat.le_refl _) ?_; intro v199 w4 ho5 hb hg_ hnew_; clear hg_ hnew_; (first | rw [← Ny198.out] at ho5 | (simp only [Int.reduceToNat] at ho5; rw [← Ny198.out] at ho5)); have n0_ := Aside0.mk (Kd.R_lower ho5 (below_size (by repeat (first | (with_reducible first | exact HB.out | apply below_alloc | apply pw_below_drewN | apply below_drew1) | exact HB.out)))); have n1_ := Aside0.mk (below_step (by repeat (first | (with_reducible first | exact HB.out | apply below_alloc | apply pw_below_drewN | apply below_drew1) | exact HB.out)) hb); clear HB; have HO200 := n0_; have HB := n1_; clear n0_ n1_; clear hb ho5))
      go_loopg [4] k (fun kq v4 w' => ∃ (x3_1 : List (S27)) (x4_1 : Int), v4 = .int .i64 x4_1 ∧ Aside0 (laws_toEntryS.l0 kq l0 x3_1 x4_1 = some r) ∧ Aside0 (kq ≤ k) ∧ Aside0 (Kd.R k27 27 w' w.heap.size (fun _ => True) v199 x3_1) ∧ Aside0 (Below w.heap.size w w'))
      case atStart => exact ⟨(y198), (0), (by first | rfl | (simp; done) | (simp [*]; done)), H', ⟨Nat.le_refl _⟩, ⟨by (with_reducible repeat (first | apply Kd.R_alloc | apply Kd.R_drewN | apply Kd.R_drew)); exact HO200.out⟩, ⟨by repeat (first | (with_reducible first | exact HB.out | apply below_alloc | apply pw_below_drewN | apply below_drew1) | exact HB.out)⟩⟩
      case round =>
        clear H'
        try clear c2
        try clear c2b0
        try clear c2b1
        try clear p2
        try clear c3
        try clear c3b0
        try clear c3b1
        obtain ⟨x3_1, x4_1, rfl, HA, HK1, HO_3, HB⟩ := hrel
        cases gk with
        | zero => exact absurd HA.out (by simp [laws_toEntryS.l0])
        | succ k1 =>
          have H := HA.out
          clear HA
          simp only [laws_toEntryS.l0] at H
          by_cases c6 : x4_1 < (l0.length : Int)
          · rw [if_pos c6] at H
            have c6b0 : decide (x4_1 < (l0.length : Int)) = true := decide_eq_true c6
            clear c6
            by_cases c7 : 0 ≤ x4_1
            · rw [if_pos c7] at H
              have c7b0 : decide (0 ≤ x4_1) = true := decide_eq_true c7
              clear c7
              replace H := Option.bind_eq_some_iff.mp H
              obtain ⟨⟨t202, t203⟩, A80, H⟩ := H
              replace H : (if x4_1 < (x3_1.length : Int) then (laws_toEntryS.l0 k1 l0 (x3_1.set (x4_1 : Int).toNat (⟨t202, t203⟩ : S27)) (wrap64 (x4_1 + 1))) else (none)) = some r := H
              have A8 := Aside0.mk A80
              clear A80
              by_cases c9 : x4_1 < (x3_1.length : Int)
              · rw [if_pos c9] at H
                have c9b0 : decide (x4_1 < (x3_1.length : Int)) = true := decide_eq_true c9
                clear c9
                obtain ⟨y204, hy204⟩ : ∃ y_ : List (S27), y_ = (x3_1.set (x4_1 : Int).toNat (⟨t202, t203⟩ : S27)) := ⟨_, rfl⟩
                replace H : (laws_toEntryS.l0 k1 l0 y204 (wrap64 (x4_1 + 1))) = some r := by first | (rw [hy204]; with_reducible exact H) | (have H2_ := (Option.bind_some _ _).symm.trans H; rw [hy204]; with_reducible exact H2_) | (have H2_ := (Option.bind_some _ _).symm.trans H; with_reducible exact H2_) | with_reducible exact H | (rw [hy204]; exact H) | exact H
                have Ny204 := Aside0.mk hy204
                clear hy204
                have H' := Aside0.mk H
                clear H
                have p201 : 0 ≤ (x4_1 : Int) := of_decide_eq_true (by first | (with_reducible assumption) | assumption)
                have q201 : x4_1 < (l0.length : Int) := of_decide_eq_true (by first | (with_reducible assumption) | assumption)
                obtain ⟨ad201, e201, hx201_0, hx201_1⟩ := at_T23 HR0.out x4_1 p201 q201
                cases e201
                replace hx201_0 := (HB.out.cell (World.block_lt_of_cell? w _ hx201_0)).trans hx201_0
                replace hx201_1 := (HB.out.cell (World.block_lt_of_cell? w _ hx201_1)).trans hx201_1
                replace p201 := eq_true p201
                replace q201 := eq_true q201
                go_wp2_with (first | ((with_reducible refine gate_callee (f := 12) rfl ?_); refine goesL_ (some 20) rfl rfl Try.func12 (by kernel_rfl) rfl #[.agg #[.int .i64 ((rd_T23 l0 x4_1).f0), .string ((rd_T23 l0 x4_1).f1)]] rfl (by (try simp only [List.map_toArray, List.map_cons, List.map_nil]); first | done | rfl | (simp only [List.length_drop, List.length_take]; rfl)) ?_; (with_reducible refine (laws_toEntry.calls ((rd_T23 l0 x4_1).f0) ((rd_T23 l0 x4_1).f1) t202 t203 _ A8.out).mono ?_); rintro e w11 ⟨rfl, hb⟩; refine ⟨_, rfl, ?_⟩; have n0_ := Aside0.mk (Kd.R_below (by (with_reducible repeat (first | apply Kd.R_alloc | apply Kd.R_drewN | apply Kd.R_drew)); exact HO_3.out) hb); have n1_ := Aside0.mk (below_step (by repeat (first | (with_reducible first | exact HB.out | apply below_alloc | apply pw_below_drewN | apply below_drew1) | exact HB.out)) hb); clear HO_3; clear HB; have HO_3 := n0_; have HB := n1_; clear n0_ n1_; (try clear hb); (try clear hb2); (try clear hk); (try clear hi); have p10 : 0 ≤ (x4_1 : Int) := of_decide_eq_true (by first | (with_reducible assumption) | assumption); have q10 : (x4_1 : Int) < ((x3_1.length : Int) : Int) := of_decide_eq_true (by first | (with_reducible assumption) | assumption); obtain ⟨go10, co10, eo10, gb10, gl10, cl10, HG10⟩ := Kd.R_form HO_3.out (by omega); (first | cases eo10 | (injection eo10 with ea_ en_ ec_; (first | subst ea_ | (injection ea_ with ea_; subst ea_)); subst ec_; clear en_)); have GB10 := Aside0.mk gb10; have GG10 := Aside0.mk HG10; clear gb10 gl10 HG10; obtain ⟨ce10, hcl10, hM10, hcc10, hfr10⟩ := Kd.R_elem HO_3.out z27 (x4_1 : Int) p10 q10; obtain rfl := k27_openM hM10; have hx10_0 : w11.cell? ⟨go10, (x4_1 : Int).toNat * 2, none⟩ = some (.int .i64 ((rd_T27 x3_1 x4_1).f0)) := hcc10 0 _ rfl; have hx10_1 : w11.cell? ⟨go10, (x4_1 : Int).toNat * 2 + 1, none⟩ = some (.string ((rd_T27 x3_1 x4_1).f1)) := hcc10 1 _ rfl; have hf10_0 : w11.frozen? ⟨go10, (x4_1 : Int).toNat * 2, none⟩ = false := hfr10 0; have hf10_1 : w11.frozen? ⟨go10, (x4_1 : Int).toNat * 2 + 1, none⟩ = false := hfr10 1; clear hcl10 hcc10 hfr10 hM10; replace p10 := eq_true p10; replace q10 := eq_true q10; have HX12 := Aside0.mk (show Kd.R k27 27 w11 w.heap.size (fun _ => True) (.slice (some ⟨go10, 0, none⟩) x3_1.length co10) x3_1 from (by (with_reducible repeat (first | apply Kd.R_alloc | apply Kd.R_drewN | apply Kd.R_drew)); exact HO_3.out)); obtain ⟨ce12, hcl12, hM12, hcc12, hfr12⟩ := Kd.R_elem HX12.out z27 (x4_1 : Int) (of_decide_eq_true (by first | (with_reducible assumption) | assumption)) (by have h_ : (x4_1 : Int) < ((x3_1.length : Int) : Int) := of_decide_eq_true (by first | (with_reducible assumption) | assumption); first | exact h_ | (have e_ := (Kd.R_reads' HO_3.out).1; omega) | simpa using h_); obtain rfl := k27_openM hM12; have HP12 := Kd.R_seg HX12.out (x4_1 : Int) (of_decide_eq_true (by first | (with_reducible assumption) | assumption)) (by have h_ : (x4_1 : Int) < ((x3_1.length : Int) : Int) := of_decide_eq_true (by first | (with_reducible assumption) | assumption); first | exact h_ | (have e_ := (Kd.R_reads' HO_3.out).1; omega) | simpa using h_) (seg := [.int .i64 t202, .string t203]) (j := 0) hcl12 hcc12 (show 2 ≤ 2 from by decide) (x' := (⟨t202, t203⟩ : S27)) (k27_mkM _ _ _ (⟨t202, t203⟩ : S27) ) (fun _ hk => hk); have hx12_0 := hcc12 0 _ rfl; (try simp only [show (k27).sz = 2 from rfl, Nat.mul_one, Nat.add_zero] at hx12_0); have hf12_0 := hfr12 0; (try simp only [show (k27).sz = 2 from rfl, Nat.mul_one, Nat.add_zero] at hf12_0); have hx12_1 := hcc12 1 _ rfl; (try simp only [show (k27).sz = 2 from rfl, Nat.mul_one, Nat.add_zero] at hx12_1); have hf12_1 := hfr12 1; (try simp only [show (k27).sz = 2 from rfl, Nat.mul_one, Nat.add_zero] at hf12_1); clear hcl12 hcc12 hfr12 hM12) | ((with_reducible refine gate_store (t := 27) (p := 21) rfl ?_); refine store_event (t := 27) (p := 21) (v := ?vo_w13) (w1 := ((w11.setCell ⟨go10, (x4_1 : Int).toNat * 2, none⟩ (.int .i64 t202)).setCell ⟨go10, (x4_1 : Int).toNat * 2 + 1, none⟩ (.string t203))) ?hg ?ho ?hn ?hr ?_; (case ho => rfl); (case hg => rfl); (case hn => rfl); (case hr => first | (go_simp; done) | (go_simp; rfl)); intro w13 hw; have hg : w11.grownBy w13 (some go10) := (by rw [hw]; exact HP12.2); have hp_ : Kd.R k27 27 w13 w.heap.size (fun _ => True) (.slice (some ⟨go10, 0, none⟩) x3_1.length co10) y204 := (by rw [hw, Ny204.out]; exact HP12.1); clear HP12; have n0_ := Aside0.mk (hp_); have n1_ := Aside0.mk ((by rw [hw]; exact below_set (below_set (HB.out) GB10.out) GB10.out : Below w.heap.size w w13)); clear HO_3; clear HB; have HO_3 := n0_; have HB := n1_; clear n0_ n1_; clear hg hw hp_))
                go_roundg k1
                case measure => have := HK1.out; omega
                case rel => exact ⟨(y204), (wrap64 (x4_1 + 1)), (by first | rfl | (simp; done) | (simp [*]; done)), H', ⟨by have := HK1.out; omega⟩, ⟨by (with_reducible repeat (first | apply Kd.R_alloc | apply Kd.R_drewN | apply Kd.R_drew)); exact HO_3.out⟩, ⟨by repeat (first | (with_reducible first | exact HB.out | apply below_alloc | apply pw_below_drewN | apply below_drew1) | exact HB.out)⟩⟩
              · rw [if_neg c9] at H
                exact absurd H (by simp)
            · rw [if_neg c7] at H
              exact absurd H (by simp)
          · rw [if_neg c6] at H
            have c6b0 : decide (x4_1 < (l0.length : Int)) = false := decide_eq_false c6
            clear c6
            obtain rfl := Option.some.inj H
            go_wp2
            go_ret
            exact ⟨_, by first | rfl | (simp [errW_none, errW_some] <;> rfl) | (simp [*, errW_none, errW_some] <;> rfl), by (with_reducible repeat (first | apply Kd.R_alloc | apply Kd.R_drewN | apply Kd.R_drew)); exact HO_3.out, by repeat (first | (with_reducible first | exact HB.out | apply below_alloc | apply pw_below_drewN | apply below_drew1) | exact HB.out)⟩
    · rw [if_neg c3] at H
      exact absurd H (by simp)
  · rw [if_neg c2] at H
    exact absurd H (by simp)

/-! ### impl_in: function 51 -/
def impl_in.f (a0 : Int) (a1 : Int) (a2 : Int) : Option (Bool) := if a0 ≥ a1 then (some (decide (a0 ≤ a2))) else (some false)
set_option maxHeartbeats 8000000 in
set_option maxRecDepth 100000 in
theorem impl_in.calls (a0 : Int) (a1 : Int) (a2 : Int) (r : Bool) (w : World) (h : impl_in.f a0 a1 a2 = some r) :
    Calls Try.prog 51 #[.int .i64 a0, .int .i64 a1, .int .i64 a2] w fun e w' => e = .returned (.bool r) ∧ Drawn0 w w' := by
  have H : (if a0 ≥ a1 then (some (decide (a0 ≤ a2))) else (some false)) = some r := h
  clear h
  by_cases c4 : a0 ≥ a1
  · rw [if_pos c4] at H
    have c4b0 : decide (a1 ≤ a0) = true := decide_eq_true c4
    clear c4
    obtain rfl := Option.some.inj H
    go_enter Try.func51, Try.ntmps51
    go_wp2
    go_ret
    exact ⟨by first | rfl | (simp; done) | (simp [*]; done), by repeat (first | exact Drawn0.refl _ | apply Drawn0.step)⟩
  · rw [if_neg c4] at H
    have c4b0 : decide (a1 ≤ a0) = false := decide_eq_false c4
    clear c4
    obtain rfl := Option.some.inj H
    go_enter Try.func51, Try.ntmps51
    go_wp2
    go_ret
    exact ⟨by first | rfl | (simp; done) | (simp [*]; done), by repeat (first | exact Drawn0.refl _ | apply Drawn0.step)⟩

/-! ### impl_ValidName: function 52 -/
def impl_ValidName.f (k : Nat) (a0 : ByteArray) : Option (Bool) := spec_ValidName.f k a0
theorem impl_ValidName.mono : ∀ a0 k, LeO (impl_ValidName.f k a0) (impl_ValidName.f (k + 1) a0) :=spec_ValidName.mono

/-- Byte j is one of a name's. -/
def vnGood (s : ByteArray) (j : Nat) : Prop := 33 ≤ bt s (j : Int) ∧ bt s (j : Int) ≤ 126 ∧ bt s (j : Int) ≠ 47
def vnAll (s : ByteArray) : Prop := 1 ≤ s.size ∧ s.size ≤ 13 ∧ s.toList ≠ [46] ∧ s.toList ≠ [46, 46] ∧ ∀ j, j < s.size → vnGood s j
theorem vn_bytes (s : ByteArray) (hs : s.size ≤ 13) : ∀ (k i : Nat) (r : Bool), spec_l10Bytes.l0 k s (i : Int) = some r → (r = true ↔ ∀ j, i ≤ j → j < s.size → 33 ≤ bt s (j : Int) ∧ bt s (j : Int) ≤ 126) := by
  intro k
  induction k with
  | zero => intro i r h; simp [spec_l10Bytes.l0] at h
  | succ k ih =>
    intro i r h
    simp only [spec_l10Bytes.l0] at h
    by_cases h1 : (i : Int) < (s.size : Int)
    · rw [if_pos h1, if_pos (by omega)] at h
      by_cases h2 : bt s (i : Int) < 33
      · rw [if_pos h2] at h; cases h
        constructor
        · intro h; cases h
        · intro h; have := h i (Nat.le_refl _) (by omega); omega
      · rw [if_neg h2] at h
        by_cases h3 : bt s (i : Int) > 126
        · rw [if_pos h3] at h; cases h
          constructor
          · intro h; cases h
          · intro h; have := h i (Nat.le_refl _) (by omega); omega
        · rw [if_neg h3, show wrap64 ((i : Int) + 1) = ((i + 1 : Nat) : Int) by unfold wrap64; omega] at h
          rw [ih _ _ h]
          constructor
          · intro h4 j hj hl
            rcases Nat.lt_or_eq_of_le hj with h5 | h5
            · exact h4 j h5 hl
            · subst h5; omega
          · intro h4 j hj hl; exact h4 j (by omega) hl
    · rw [if_neg h1] at h; cases h
      exact ⟨fun _ j hj hl => by omega, fun _ => rfl⟩
theorem vn_cut (s : ByteArray) (hs : s.size ≤ 13) : ∀ (k i : Nat) (a : List ByteArray) (q : Int) (r : List ByteArray), spec_l10Cut.l0 k s 47 a q (i : Int) = some r → a.length + 1 ≤ r.length ∧ (r.length = a.length + 1 ↔ ∀ j, i ≤ j → j < s.size → bt s (j : Int) ≠ 47) := by
  intro k
  induction k with
  | zero => intro i a q r h; simp [spec_l10Cut.l0] at h
  | succ k ih =>
    intro i a q r h
    simp only [spec_l10Cut.l0] at h
    by_cases h1 : (i : Int) < (s.size : Int)
    · rw [if_pos h1, if_pos (by omega)] at h
      by_cases h2 : bt s (i : Int) = 47
      · rw [if_pos h2] at h
        split at h
        · split at h
          · split at h
            · split at h
              · rw [show wrap64 ((i : Int) + 1) = ((i + 1 : Nat) : Int) by unfold wrap64; omega] at h
                have h3 := (ih _ _ _ _ h).1
                rw [List.length_append] at h3
                simp at h3
                exact ⟨by omega, fun h4 => by omega, fun h4 => absurd h2 (h4 i (Nat.le_refl _) (by omega))⟩
              · cases h
            · cases h
          · cases h
        · cases h
      · rw [if_neg h2, show wrap64 ((i : Int) + 1) = ((i + 1 : Nat) : Int) by unfold wrap64; omega] at h
        have h3 := ih _ _ _ _ h
        refine ⟨h3.1, h3.2.trans ⟨fun h4 j hj hl => ?_, fun h4 j hj hl => h4 j (by omega) hl⟩⟩
        rcases Nat.lt_or_eq_of_le hj with h5 | h5
        · exact h4 j h5 hl
        · subst h5; exact h2
    · rw [if_neg h1] at h
      split at h
      · split at h
        · split at h
          · cases h
            have e : ∀ x : ByteArray, (a ++ [x]).length = a.length + 1 := fun x => by simp
            rw [e]
            exact ⟨Nat.le_refl _, fun _ j hj hl => absurd hl (by omega), fun _ => rfl⟩
          · cases h
        · cases h
      · cases h
theorem vn_of {k : Nat} {s : ByteArray} {r : Bool} (h : spec_ValidName.f k s = some r) : r = true ↔ vnAll s := by
  unfold spec_ValidName.f at h
  obtain ⟨t, h1, h⟩ := Option.bind_eq_some_iff.1 h
  unfold spec_l10Bytes.f at h1
  by_cases hs : s.size ≤ 13
  rotate_left
  · have : ¬ vnAll s := fun h => by have := h.2.1; omega
    by_cases ht : t = true
    · rw [if_pos ht] at h
      by_cases h2 : (s.size : Int) < 1
      · omega
      · rw [if_neg h2, if_pos (by omega)] at h; cases h; simp [this]
    · rw [if_neg ht] at h; cases h; simp [this]
  have hb := vn_bytes s hs k 0 t h1
  by_cases ht : t = true
  rotate_left
  · rw [if_neg ht] at h; cases h
    constructor
    · intro h; cases h
    · intro h; exact absurd (hb.2 fun j _ hl => ⟨(h.2.2.2.2 j hl).1, (h.2.2.2.2 j hl).2.1⟩) ht
  rw [if_pos ht] at h
  by_cases h2 : (s.size : Int) < 1
  · rw [if_pos h2] at h; cases h
    constructor
    · intro h; cases h
    · intro h; have := h.1; omega
  rw [if_neg h2, if_neg (by omega)] at h
  by_cases h3 : s.toList = [46]
  · rw [if_pos h3] at h; cases h
    exact ⟨fun h => (by cases h), fun h => absurd h3 h.2.2.1⟩
  rw [if_neg h3] at h
  by_cases h4 : s.toList = [46, 46]
  · rw [if_pos h4] at h; cases h
    exact ⟨fun h => (by cases h), fun h => absurd h4 h.2.2.2.1⟩
  rw [if_neg h4] at h
  obtain ⟨l, h5, h⟩ := Option.bind_eq_some_iff.1 h
  unfold spec_l10Cut.f at h5
  have hc := vn_cut s hs k 0 [] 0 l h5
  have hr : r = ((l.length : Int) == 1) := (Option.some.inj h).symm
  have hl : r = true ↔ l.length = 0 + 1 := by rw [hr, beq_iff_eq]; omega
  rw [hl]
  refine hc.2.trans ⟨fun h6 => ⟨by omega, hs, h3, h4, fun j hl => ?_⟩, fun h6 j _ hl => (h6.2.2.2.2 j hl).2.2⟩
  have := hb.1 ht j (Nat.zero_le _) hl
  exact ⟨this.1, this.2, h6 j (Nat.zero_le _) hl⟩
theorem vn_bt (s : ByteArray) (j : Nat) (h : j < s.size) : bt s (j : Int) = ((s[j]'h).toNat : Int) := by
  unfold bt; simp [h]
set_option maxHeartbeats 8000000 in
set_option maxRecDepth 100000 in
theorem impl_ValidName.calls (k : Nat) (a0 : ByteArray) (r : Bool) (w : World) (h : impl_ValidName.f k a0 = some r) :
    Calls Try.prog 52 #[.string a0] w fun e w' => e = .returned (.bool r) ∧ Below w.heap.size w w' := by
  have hv : r = true ↔ vnAll a0 := vn_of h
  clear h
  by_cases c1 : a0.size < 1
  · obtain rfl : r = false := Bool.eq_false_iff.2 fun e => by have := (hv.1 e).1; omega
    have c1b : decide ((a0.size : Int) < 1) = true := decide_eq_true (by omega)
    have c1c : decide (a0.size < 1) = true := decide_eq_true c1
    clear hv c1
    go_enter Try.func52, Try.ntmps52
    go_wp2
    go_ret
    exact ⟨rfl, Below.refl _ _⟩
  have c1b : decide ((a0.size : Int) < 1) = false := decide_eq_false (by omega)
  have c1c : decide (a0.size < 1) = false := decide_eq_false c1
  by_cases c2 : 13 < a0.size
  · obtain rfl : r = false := Bool.eq_false_iff.2 fun e => by have := (hv.1 e).2.1; omega
    have c2b : decide (13 < (a0.size : Int)) = true := decide_eq_true (by omega)
    have c2c : decide (13 < a0.size) = true := decide_eq_true c2
    clear hv c1 c2
    go_enter Try.func52, Try.ntmps52
    go_wp2
    go_ret
    exact ⟨rfl, Below.refl _ _⟩
  have c2b : decide (13 < (a0.size : Int)) = false := decide_eq_false (by omega)
  have c2c : decide (13 < a0.size) = false := decide_eq_false c2
  by_cases c3 : a0.toList = ([46] : List UInt8)
  · obtain rfl : r = false := Bool.eq_false_iff.2 fun e => (hv.1 e).2.2.1 c3
    have c3b : (a0.toList == ([46] : List UInt8)) = true := beq_iff_eq.mpr c3
    clear hv c1 c2 c3
    go_enter Try.func52, Try.ntmps52
    go_wp2
    go_ret
    exact ⟨rfl, Below.refl _ _⟩
  have c3b : (a0.toList == ([46] : List UInt8)) = false := beq_eq_false_iff_ne.mpr c3
  by_cases c4 : a0.toList = ([46, 46] : List UInt8)
  · obtain rfl : r = false := Bool.eq_false_iff.2 fun e => (hv.1 e).2.2.2.1 c4
    have c4b : (a0.toList == ([46, 46] : List UInt8)) = true := beq_iff_eq.mpr c4
    clear hv c1 c2 c3 c4
    go_enter Try.func52, Try.ntmps52
    go_wp2
    go_ret
    exact ⟨rfl, Below.refl _ _⟩
  have c4b : (a0.toList == ([46, 46] : List UInt8)) = false := beq_eq_false_iff_ne.mpr c4
  have HV : Hid (r = true ↔ ∀ j, j < a0.size → vnGood a0 j) := by
    refine hv.trans ⟨fun h => h.2.2.2.2, fun h => ⟨by omega, by omega, c3, c4, h⟩⟩
  clear hv c3 c4
  have hsz : a0.size ≤ 13 := by omega
  clear c1 c2
  go_enter Try.func52, Try.ntmps52
  go_wp2
  go_loopw [4] (fun _ wr => ∃ pos : Nat, wr = w.iter a0 pos ∧ pos ≤ a0.size ∧ Hid (∀ j, j < pos → vnGood a0 j)) (fun _ wr => a0.size - wr.iterPos w.heap.size)
  case atStart => exact ⟨0, rfl, Nat.zero_le _, fun j hj => absurd hj (Nat.not_lt_zero _)⟩
  case round =>
    obtain ⟨pos, rfl, hp, HG⟩ := hrel
    by_cases hlt : pos < a0.size
    · by_cases hg : vnGood a0 pos
      · have hb := vn_bt a0 pos hlt
        obtain ⟨g1, g2, g3⟩ := hg
        rw [hb] at g1 g2 g3
        have hnx : ∀ ty, (Instr.next (.pointer (some ⟨w.heap.size, 0, none⟩)) true ty).run Try.prog (w.iter a0 pos) = _ := fun ty => run_next_ascii w a0 pos ty hlt (by omega)
        have t1 : decide (((a0[pos]'hlt).toNat : Int) < 33) = false := decide_eq_false (by omega)
        have t2 : decide (126 < ((a0[pos]'hlt).toNat : Int)) = false := decide_eq_false (by omega)
        have t3 : (((a0[pos]'hlt).toNat : Int) == 47) = false := beq_eq_false_iff_ne.mpr g3
        have HG2 : Hid (∀ j, j < pos + 1 → vnGood a0 j) := fun j hj => by
          rcases Nat.lt_or_eq_of_le (Nat.le_of_lt_succ hj) with h5 | h5
          · exact HG.out j h5
          · subst h5; exact ⟨by omega, by omega, by rw [hb]; exact g3⟩
        clear hb g1 g2 g3 HG
        go_wp2
        go_roundw
        case rel => exact ⟨pos + 1, rfl, by omega, HG2⟩
        case measure => simp; omega
      · obtain rfl : r = false := Bool.eq_false_iff.2 fun e => hg (HV.out.1 e pos hlt)
        have hb := vn_bt a0 pos hlt
        by_cases ha : (a0[pos]'hlt).toNat < 128
        · have hnx : ∀ ty, (Instr.next (.pointer (some ⟨w.heap.size, 0, none⟩)) true ty).run Try.prog (w.iter a0 pos) = _ := fun ty => run_next_ascii w a0 pos ty hlt ha
          have hg' : ((a0[pos]'hlt).toNat : Int) < 33 ∨ 126 < ((a0[pos]'hlt).toNat : Int) ∨ ((a0[pos]'hlt).toNat : Int) = 47 := by
            unfold vnGood at hg; rw [hb] at hg; omega
          clear hb hg HV HG ha
          by_cases q1 : ((a0[pos]'hlt).toNat : Int) < 33
          · have t1 : decide (((a0[pos]'hlt).toNat : Int) < 33) = true := decide_eq_true q1
            clear hg' q1
            go_wp2
            go_ret
            exact ⟨rfl, (Below.refl _ _).alloc (Nat.le_refl _) _⟩
          have t1 : decide (((a0[pos]'hlt).toNat : Int) < 33) = false := decide_eq_false q1
          by_cases q2 : 126 < ((a0[pos]'hlt).toNat : Int)
          · have t2 : decide (126 < ((a0[pos]'hlt).toNat : Int)) = true := decide_eq_true q2
            clear hg' q1 q2
            go_wp2
            go_ret
            exact ⟨rfl, (Below.refl _ _).alloc (Nat.le_refl _) _⟩
          have t2 : decide (126 < ((a0[pos]'hlt).toNat : Int)) = false := decide_eq_false q2
          have t3 : (((a0[pos]'hlt).toNat : Int) == 47) = true := beq_iff_eq.mpr (by omega)
          clear hg' q1 q2
          go_wp2
          go_ret
          exact ⟨rfl, (Below.refl _ _).alloc (Nat.le_refl _) _⟩
        · have hd := decode_high a0 pos hlt (by omega)
          have hnx : ∀ ty, (Instr.next (.pointer (some ⟨w.heap.size, 0, none⟩)) true ty).run Try.prog (w.iter a0 pos) = _ := fun ty => run_next_any w a0 pos ty hlt
          have t1 : decide (((Utf8.decode a0 pos).1 : Int) < 33) = false := decide_eq_false (by omega)
          have t2 : decide (126 < ((Utf8.decode a0 pos).1 : Int)) = true := decide_eq_true (by omega)
          clear hb hg HV HG ha hd
          go_wp2
          go_ret
          exact ⟨rfl, (Below.refl _ _).alloc (Nat.le_refl _) _⟩
    · obtain rfl : pos = a0.size := by omega
      obtain rfl : r = true := HV.out.2 HG.out
      have hnx : ∀ ty, (Instr.next (.pointer (some ⟨w.heap.size, 0, none⟩)) true ty).run Try.prog (w.iter a0 a0.size) = _ := fun ty => run_next_end w a0 a0.size ty hlt
      clear HV HG
      go_wp2
      go_ret
      exact ⟨rfl, (Below.refl _ _).alloc (Nat.le_refl _) _⟩


end Go.Proofs.Ytiiifeajcigigaa.PFnExactEncodeDir
