-- written by a program of this session (wip/src/print2.py)
import Derived.Test.YtplefdkookhlhaaPFnExactDecodeInodex0
import Derived.Test.YtplefdkookhlhaaPFnExactDecodeInodex6
namespace Go.Proofs.Ytplefdkookhlhaa.PFnExactDecodeInode
open Go.RowKit Go.Proofs.YtplefdkookhlhaaW.PrintWords Go.Proofs.YtplefdkookhlhaaW.PrintLast Go.Proofs.YtplefdkookhlhaaW.PrintMore
attribute [local go_sem] max2_int min2_int max_two min_two max_three min_three max_four min_four   -- for this text's walks alone
set_option linter.unusedVariables false
set_option linter.unusedSimpArgs false

/-! ### impl_PutNumber: function 72 -/
mutual
def impl_PutNumber.j0 : Nat → Int → Int → Bool → Option (List Int)
  | 0, _, _, _ => none
  | k + 1, x0, x1, x27 => if x27 = true then (some ([] : List Int)) else (if 0 ≤ x1 then (if (x1 : Int).toNat ≤ 281474976710656 then ((some (List.replicate (x1 : Int).toNat 0 : List Int)).bind fun y214 => (impl_PutNumber.l0 k x0 x1 y214 (y214.length : Int) 0)) else (none)) else (none))
def impl_PutNumber.l0 : Nat → Int → Int → List Int → Int → Int → Option (List Int)
  | 0, _, _, _, _, _ => none
  | k + 1, x0, x1, x5, x31, x32 => if x32 < x31 then (if 0 ≤ (wrap64 (8 * (wrap64 ((wrap64 (x1 - 1)) - x32)))) then (if 0 ≤ x32 then (if x32 < (x5.length : Int) then (impl_PutNumber.l0 k x0 x1 (x5.set (x32 : Int).toNat ((shr .i64 x0 (wrap64 (8 * (wrap64 ((wrap64 (x1 - 1)) - x32))))) % 256)) x31 (wrap64 (x32 + 1))) else (none)) else (none)) else (none)) else (some x5)
end
def impl_PutNumber.f (k : Nat) (a0 : Int) (a1 : Int) : Option (List Int) := if a1 < 1 then (impl_PutNumber.j0 k a0 a1 true) else (if a1 > 8 then (impl_PutNumber.j0 k a0 a1 true) else (if a0 < 0 then (impl_PutNumber.j0 k a0 a1 true) else (if a1 < 8 then (if 0 ≤ (wrap64 (8 * a1)) then (impl_PutNumber.j0 k a0 a1 ((shr .i64 a0 (wrap64 (8 * a1))) != 0)) else (none)) else (impl_PutNumber.j0 k a0 a1 false))))
theorem impl_PutNumber.mono_l : ∀ k, (∀ y0 y1 y2, LeO (impl_PutNumber.j0 k y0 y1 y2) (impl_PutNumber.j0 (k + 1) y0 y1 y2)) ∧ (∀ y0 y1 y2 y3 y4, LeO (impl_PutNumber.l0 k y0 y1 y2 y3 y4) (impl_PutNumber.l0 (k + 1) y0 y1 y2 y3 y4))
  | 0 => ⟨fun _ _ _ r h => by simp [impl_PutNumber.j0] at h, fun _ _ _ _ _ r h => by simp [impl_PutNumber.l0] at h⟩
  | k + 1 => by
    obtain ⟨ih0, ih1⟩ := impl_PutNumber.mono_l k
    refine ⟨?_, ?_⟩
    · intro y0 y1 y2
      unfold impl_PutNumber.j0
      repeat' first
      | (with_reducible exact ih0 _ _ _)
      | (with_reducible exact ih1 _ _ _ _ _)
      | (with_reducible exact LeO.refl _)
      | (with_reducible exact LeO.none _)
      | (with_reducible refine LeO.ite ?_ ?_)
      | (with_reducible refine LeO.bind ?_ (fun _ => ?_))
      | exact ih0 _ _ _
      | exact ih1 _ _ _ _ _
      | exact LeO.none _
      | refine LeO.ite ?_ ?_
      | refine LeO.bind ?_ (fun _ => ?_)
    · intro y0 y1 y2 y3 y4
      unfold impl_PutNumber.l0
      repeat' first
      | (with_reducible exact ih0 _ _ _)
      | (with_reducible exact ih1 _ _ _ _ _)
      | (with_reducible exact LeO.refl _)
      | (with_reducible exact LeO.none _)
      | (with_reducible refine LeO.ite ?_ ?_)
      | (with_reducible refine LeO.bind ?_ (fun _ => ?_))
      | exact ih0 _ _ _
      | exact ih1 _ _ _ _ _
      | exact LeO.none _
      | refine LeO.ite ?_ ?_
      | refine LeO.bind ?_ (fun _ => ?_)
theorem impl_PutNumber.mono : ∀ a0 a1 k, LeO (impl_PutNumber.f k a0 a1) (impl_PutNumber.f (k + 1) a0 a1) := by
  intro a0 a1 k
  obtain ⟨ih0, ih1⟩ := impl_PutNumber.mono_l k
  unfold impl_PutNumber.f
  repeat' first
      | (with_reducible exact ih0 _ _ _)
      | (with_reducible exact ih1 _ _ _ _ _)
      | (with_reducible exact LeO.refl _)
      | (with_reducible exact LeO.none _)
      | (with_reducible refine LeO.ite ?_ ?_)
      | (with_reducible refine LeO.bind ?_ (fun _ => ?_))
      | exact ih0 _ _ _
      | exact ih1 _ _ _ _ _
      | exact LeO.none _
      | refine LeO.ite ?_ ?_
      | refine LeO.bind ?_ (fun _ => ?_)
set_option maxHeartbeats 8000000 in
set_option maxRecDepth 100000 in
theorem impl_PutNumber.calls (k : Nat) (a0 : Int) (a1 : Int) (r : List Int) (w : World) (h : impl_PutNumber.f k a0 a1 = some r) :
    Calls Try.prog 72 #[.int .i64 a0, .int .i64 a1] w fun e w' => ∃ v0_ : Value, e = .returned (v0_) ∧ Kd.R (Kd.int .u8) 5 w' w.heap.size (fun _ => True) v0_ r ∧ Below w.heap.size w w' := by
  have HB := Aside0.mk (Below.refl w.heap.size w)
  have H : (if a1 < 1 then (impl_PutNumber.j0 k a0 a1 true) else (if a1 > 8 then (impl_PutNumber.j0 k a0 a1 true) else (if a0 < 0 then (impl_PutNumber.j0 k a0 a1 true) else (if a1 < 8 then (if 0 ≤ (wrap64 (8 * a1)) then (impl_PutNumber.j0 k a0 a1 ((shr .i64 a0 (wrap64 (8 * a1))) != 0)) else (none)) else (impl_PutNumber.j0 k a0 a1 false))))) = some r := h
  clear h
  have HC3 := Aside0.mk H
  clear H
  go_enter Try.func72, Try.ntmps72
  go_upto_region 1 with (fail)
  go_cut [27] (fun v27 wc => ∃ (kq : Nat) (x27_2 : Bool), v27 = .bool x27_2 ∧ Aside0 (impl_PutNumber.j0 kq a0 a1 x27_2 = some r) ∧ Aside0 (kq ≤ k) ∧ Aside0 (Below w.heap.size w wc))
  case first =>
    have H := HC3.out
    clear HC3
    by_cases c4 : a1 < 1
    · rw [if_pos c4] at H
      have c4b0 : decide (a1 < 1) = true := decide_eq_true c4
      clear c4
      (first | rw [c4b0] | (simp only [i64_w, i32_w]; rw [c4b0]) | skip)
      have H' := Aside0.mk H
      clear H
      go_wp2
      go_meet
      case rel => exact ⟨_, (true), (by first | rfl | (simp; done) | (simp [*]; done)), H', ⟨by first | omega | exact Nat.le_refl _⟩, ⟨by repeat (first | (with_reducible first | exact HB.out | apply below_alloc | apply pw_below_drewN | apply below_drew1) | exact HB.out)⟩⟩
    · rw [if_neg c4] at H
      have c4b0 : decide (a1 < 1) = false := decide_eq_false c4
      clear c4
      (first | rw [c4b0] | (simp only [i64_w, i32_w]; rw [c4b0]) | skip)
      by_cases c5 : a1 > 8
      · rw [if_pos c5] at H
        have c5b0 : decide (8 < a1) = true := decide_eq_true c5
        clear c5
        have H' := Aside0.mk H
        clear H
        go_wp2
        go_meet
        case rel => exact ⟨_, (true), (by first | rfl | (simp; done) | (simp [*]; done)), H', ⟨by first | omega | exact Nat.le_refl _⟩, ⟨by repeat (first | (with_reducible first | exact HB.out | apply below_alloc | apply pw_below_drewN | apply below_drew1) | exact HB.out)⟩⟩
      · rw [if_neg c5] at H
        have c5b0 : decide (8 < a1) = false := decide_eq_false c5
        clear c5
        by_cases c6 : a0 < 0
        · rw [if_pos c6] at H
          have c6b0 : decide (a0 < 0) = true := decide_eq_true c6
          clear c6
          have H' := Aside0.mk H
          clear H
          go_wp2
          go_meet
          case rel => exact ⟨_, (true), (by first | rfl | (simp; done) | (simp [*]; done)), H', ⟨by first | omega | exact Nat.le_refl _⟩, ⟨by repeat (first | (with_reducible first | exact HB.out | apply below_alloc | apply pw_below_drewN | apply below_drew1) | exact HB.out)⟩⟩
        · rw [if_neg c6] at H
          have c6b0 : decide (a0 < 0) = false := decide_eq_false c6
          clear c6
          by_cases c7 : a1 < 8
          · rw [if_pos c7] at H
            have c7b0 : decide (a1 < 8) = true := decide_eq_true c7
            clear c7
            obtain ⟨ji8, hji8⟩ : ∃ j_ : Int, (wrap64 (8 * a1)) = j_ := ⟨_, rfl⟩
            replace H : (if 0 ≤ (ji8) then (impl_PutNumber.j0 k a0 a1 ((shr .i64 a0 (ji8)) != 0)) else (none)) = some r := by first | (rw [hji8] at H; exact H) | (simp only [hji8] at H ⊢; exact H)
            have hji8w : (IntKind.i64.wrap (8 * a1)) = ji8 := (i64_w _).trans hji8
            by_cases c9 : 0 ≤ (ji8)
            · rw [if_pos c9] at H
              have c9b0 := eq_true c9
              have c9b1 : decide (0 ≤ (ji8)) = true := decide_eq_true c9
              clear c9
              obtain ⟨ji10, hji10⟩ : ∃ j_ : Int, (shr .i64 a0 (ji8)) = j_ := ⟨_, rfl⟩
              replace H : (impl_PutNumber.j0 k a0 a1 ((ji10) != 0)) = some r := by first | (rw [hji10] at H; exact H) | (simp only [hji10] at H ⊢; exact H)
              have hji10_ : (a0 / 2 ^ min (ji8).toNat 64) = ji10 := hji10
              have hji10z : (ji8) ≤ 64 → (a0 / 2 ^ (ji8).toNat) = ji10 := shr_small hji10
              have H' := Aside0.mk H
              clear H
              go_wp2
              go_meet
              case rel => exact ⟨_, (((ji10) != 0)), (by first | rfl | (simp; done) | (simp only [← hji10] <;> (first | rfl | simp)) | (simp [*]; done)), H', ⟨by first | omega | exact Nat.le_refl _⟩, ⟨by repeat (first | (with_reducible first | exact HB.out | apply below_alloc | apply pw_below_drewN | apply below_drew1) | exact HB.out)⟩⟩
            · rw [if_neg c9] at H
              exact absurd H (by simp)
          · rw [if_neg c7] at H
            have c7b0 : decide (a1 < 8) = false := decide_eq_false c7
            clear c7
            have H' := Aside0.mk H
            clear H
            go_wp2
            go_meet
            case rel => exact ⟨_, (false), (by first | rfl | (simp; done) | (simp [*]; done)), H', ⟨by first | omega | exact Nat.le_refl _⟩, ⟨by repeat (first | (with_reducible first | exact HB.out | apply below_alloc | apply pw_below_drewN | apply below_drew1) | exact HB.out)⟩⟩
  case rest =>
    clear HC3
    try clear p2
    try clear c4
    try clear c4b0
    try clear c5
    try clear c5b0
    try clear c6
    try clear c6b0
    try clear p6
    try clear c7
    try clear c7b0
    try clear c9
    try clear c9b0
    try clear c9b1
    obtain ⟨kq, x27_2, rfl, HA, HJ2, HB⟩ := hcut
    cases kq with
    | zero => exact absurd HA.out (by simp [impl_PutNumber.j0])
    | succ kj2 =>
      have H := HA.out
      clear HA
      simp only [impl_PutNumber.j0] at H
      by_cases c11 : x27_2 = true
      · subst c11
        have H1 : (some ([] : List Int)) = some r := by rw [if_pos rfl] at H; exact H
        clear H
        have H := H1
        clear H1
        obtain rfl := Option.some.inj H
        go_wp2
        go_ret
        exact ⟨_, by first | rfl | (simp [errW_none, errW_some] <;> rfl) | (simp [*, errW_none, errW_some] <;> rfl), by first | exact Kd.R_nil _ _ _ _ _ | exact Kd.N_nil _ _ _ _ _ | exact Kd.V_nil _ _ _ _ _ | exact Kd.Q_nil _ _ _ _ _ | exact Kd.S_nil _ _ _ _ _, by repeat (first | (with_reducible first | exact HB.out | apply below_alloc | apply pw_below_drewN | apply below_drew1) | exact HB.out)⟩
      · replace c11 := Bool.eq_false_iff.mpr c11
        subst c11
        have H1 : (if 0 ≤ a1 then (if (a1 : Int).toNat ≤ 281474976710656 then ((some (List.replicate (a1 : Int).toNat 0 : List Int)).bind fun y214 => (impl_PutNumber.l0 kj2 a0 a1 y214 (y214.length : Int) 0)) else (none)) else (none)) = some r := by rw [if_neg (show ¬ (false = true) by decide)] at H; exact H
        clear H
        have H := H1
        clear H1
        by_cases c12 : 0 ≤ a1
        · rw [if_pos c12] at H
          have c12b0 := eq_true c12
          have c12b1 : decide (0 ≤ a1) = true := decide_eq_true c12
          clear c12
          by_cases c13 : (a1 : Int).toNat ≤ 281474976710656
          · rw [if_pos c13] at H
            have c13b0 := eq_true c13
            have c13b1 : decide ((a1 : Int).toNat ≤ 281474976710656) = true := decide_eq_true c13
            clear c13
            obtain ⟨y214, hy214⟩ : ∃ y_ : List Int, y_ = (List.replicate (a1 : Int).toNat 0) := ⟨_, rfl⟩
            replace H : (impl_PutNumber.l0 kj2 a0 a1 y214 (y214.length : Int) 0) = some r := by first | (rw [hy214]; with_reducible exact H) | (have H2_ := (Option.bind_some _ _).symm.trans H; rw [hy214]; with_reducible exact H2_) | (have H2_ := (Option.bind_some _ _).symm.trans H; with_reducible exact H2_) | with_reducible exact H | (rw [hy214]; exact H) | exact H
            have Ny214 := Aside0.mk hy214
            clear hy214
            have H' := Aside0.mk H
            clear H
            go_wp2_with (first | ((with_reducible refine gate_dst (N := 29) rfl ?_); refine Kd.R_make (Kd.int .u8) _ 5 rfl (N := 29) rfl 23 _ _ rfl a1 rfl rfl Try.underlying23 (.int .u8 0) 1 info5 rfl (by decide) (by omega) 0 (ok := fun _ => True) (okp := fun _ => True) rfl (fun _ hk => hk) trivial (of_decide_eq_true (by first | (with_reducible assumption) | assumption)) (Nat.le_trans (Nat.mul_le_mul_right _ (of_decide_eq_true (by first | (with_reducible assumption) | assumption) : a1.toNat ≤ 281474976710656)) (by omega)) (Below.refl _ _) (Nat.le_refl _) ?_; intro v215 w14 ho15 hb hg_ hnew_; clear hg_ hnew_; (first | rw [← Ny214.out] at ho15 | (simp only [Int.reduceToNat] at ho15; rw [← Ny214.out] at ho15)); have n0_ := Aside0.mk (Kd.R_lower ho15 (below_size (by repeat (first | (with_reducible first | exact HB.out | apply below_alloc | apply pw_below_drewN | apply below_drew1) | exact HB.out)))); have n1_ := Aside0.mk (below_step (by repeat (first | (with_reducible first | exact HB.out | apply below_alloc | apply pw_below_drewN | apply below_drew1) | exact HB.out)) hb); clear HB; have HO216 := n0_; have HB := n1_; clear n0_ n1_; clear hb ho15; obtain ⟨Ao16, co16, eo16⟩ := Kd.R_slice HO216.out; subst eo16))
            go_loopg [32] kj2 (fun kq v32 w' => ∃ (x5_2 : List Int) (x32_2 : Int), v32 = .int .i64 x32_2 ∧ Aside0 (impl_PutNumber.l0 kq a0 a1 x5_2 (y214.length : Int) x32_2 = some r) ∧ Aside0 (kq ≤ kj2) ∧ Aside0 (Kd.R (Kd.int .u8) 5 w' w.heap.size (fun _ => True) (.slice Ao16 y214.length co16) x5_2) ∧ Aside0 (Below w.heap.size w w'))
            case atStart => exact ⟨(y214), (0), (by first | rfl | (simp; done) | (simp [*]; done)), H', ⟨Nat.le_refl _⟩, ⟨by (with_reducible repeat (first | apply Kd.R_alloc | apply Kd.R_drewN | apply Kd.R_drew)); exact HO216.out⟩, ⟨by repeat (first | (with_reducible first | exact HB.out | apply below_alloc | apply pw_below_drewN | apply below_drew1) | exact HB.out)⟩⟩
            case round =>
              clear H'
              try clear c1
              try clear p2
              try clear c4
              try clear c4b0
              try clear c5
              try clear c5b0
              try clear c6
              try clear c6b0
              try clear p6
              try clear c7
              try clear c7b0
              try clear c9
              try clear c9b0
              try clear c9b1
              try clear c11
              try clear c12
              try clear c12b0
              try clear c12b1
              try clear c13
              try clear c13b0
              try clear c13b1
              try clear p2
              try clear p6
              obtain ⟨x5_2, x32_2, rfl, HA, HK2, HO_5, HB⟩ := hrel
              have hl5_2 := (Kd.R_reads' HO_5.out).1
              rw [hl5_2] at HO_5
              (try simp only [hl5_2])
              cases gk with
              | zero => exact absurd HA.out (by simp [impl_PutNumber.l0])
              | succ k2 =>
                have H := HA.out
                clear HA
                simp only [impl_PutNumber.l0] at H
                by_cases c17 : x32_2 < (y214.length : Int)
                · rw [if_pos c17] at H
                  have c17b0 : decide (x32_2 < (y214.length : Int)) = true := decide_eq_true c17
                  clear c17
                  obtain ⟨ji18, hji18⟩ : ∃ j_ : Int, (wrap64 (8 * (wrap64 ((wrap64 (a1 - 1)) - x32_2)))) = j_ := ⟨_, rfl⟩
                  replace H : (if 0 ≤ (ji18) then (if 0 ≤ x32_2 then (if x32_2 < (x5_2.length : Int) then (impl_PutNumber.l0 k2 a0 a1 (x5_2.set (x32_2 : Int).toNat ((shr .i64 a0 (ji18)) % 256)) (y214.length : Int) (wrap64 (x32_2 + 1))) else (none)) else (none)) else (none)) = some r := by first | (rw [hji18] at H; exact H) | (simp only [hji18] at H ⊢; exact H)
                  have hji18w : (IntKind.i64.wrap (8 * (wrap64 ((wrap64 (a1 - 1)) - x32_2)))) = ji18 := (i64_w _).trans hji18
                  by_cases c19 : 0 ≤ (ji18)
                  · rw [if_pos c19] at H
                    have c19b0 := eq_true c19
                    have c19b1 : decide (0 ≤ (ji18)) = true := decide_eq_true c19
                    clear c19
                    obtain ⟨ji20, hji20⟩ : ∃ j_ : Int, (shr .i64 a0 (ji18)) = j_ := ⟨_, rfl⟩
                    replace H : (if 0 ≤ x32_2 then (if x32_2 < (x5_2.length : Int) then (impl_PutNumber.l0 k2 a0 a1 (x5_2.set (x32_2 : Int).toNat ((ji20) % 256)) (y214.length : Int) (wrap64 (x32_2 + 1))) else (none)) else (none)) = some r := by first | (rw [hji20] at H; exact H) | (simp only [hji20] at H ⊢; exact H)
                    have hji20_ : (a0 / 2 ^ min (ji18).toNat 64) = ji20 := hji20
                    have hji20z : (ji18) ≤ 64 → (a0 / 2 ^ (ji18).toNat) = ji20 := shr_small hji20
                    by_cases c21 : 0 ≤ x32_2
                    · rw [if_pos c21] at H
                      have c21b0 : decide (0 ≤ x32_2) = true := decide_eq_true c21
                      clear c21
                      by_cases c22 : x32_2 < (x5_2.length : Int)
                      · rw [if_pos c22] at H
                        have c22b0 : decide (x32_2 < (x5_2.length : Int)) = true := decide_eq_true c22
                        clear c22
                        obtain ⟨y217, hy217⟩ : ∃ y_ : List Int, y_ = (x5_2.set (x32_2 : Int).toNat ((ji20) % 256)) := ⟨_, rfl⟩
                        replace H : (impl_PutNumber.l0 k2 a0 a1 y217 (y214.length : Int) (wrap64 (x32_2 + 1))) = some r := by first | (rw [hy217]; with_reducible exact H) | (have H2_ := (Option.bind_some _ _).symm.trans H; rw [hy217]; with_reducible exact H2_) | (have H2_ := (Option.bind_some _ _).symm.trans H; with_reducible exact H2_) | with_reducible exact H | (rw [hy217]; exact H) | exact H
                        have Ny217 := Aside0.mk hy217
                        clear hy217
                        have H' := Aside0.mk H
                        clear H
                        have p23 : 0 ≤ (x32_2 : Int) := of_decide_eq_true (by first | (with_reducible assumption) | assumption)
                        have q23 : (x32_2 : Int) < ((x5_2.length : Int) : Int) := of_decide_eq_true (by first | (with_reducible assumption) | assumption)
                        obtain ⟨go23, co23, eo23, gb23, gl23, cl23, HG23⟩ := Kd.R_form HO_5.out (by omega)
                        (first | cases eo23 | (injection eo23 with ea_ en_ ec_; (first | subst ea_ | (injection ea_ with ea_; subst ea_)); subst ec_; clear en_))
                        have GB23 := Aside0.mk gb23
                        have GG23 := Aside0.mk HG23
                        clear gb23 gl23 HG23
                        obtain ⟨hx23_0, hf23_0⟩ := Kd.R_celln 0 HO_5.out (x32_2 : Int) p23 q23
                        replace p23 := eq_true p23
                        replace q23 := eq_true q23
                        have HP24 := Kd.R_putg HO_5.out (x32_2 : Int) ((ji20) % 256)
                        go_wp2_with (first | ((with_reducible refine gate_store (t := 5) (p := 45) rfl ?_); refine store_event (t := 5) (p := 45) (v := ?vo_w25) (w1 := (wr.setCell ⟨go23, (x32_2 : Int).toNat, none⟩ (.int .u8 ((ji20) % 256)))) ?hg ?ho ?hn ?hr ?_; (case ho => rfl); (case hg => rfl); (case hn => rfl); (case hr => first | (go_simp; done) | (go_simp; rfl)); intro w25 hw; have hg : wr.grownBy w25 (some go23) := (by rw [hw]; exact HP24.2); have hp_ : Kd.R (Kd.int .u8) 5 w25 w.heap.size (fun _ => True) (.slice (some ⟨go23, 0, none⟩) x5_2.length co16) y217 := (by rw [hw, Ny217.out]; exact HP24.1); clear HP24; have n0_ := Aside0.mk (hp_); have n1_ := Aside0.mk ((by rw [hw]; exact below_set (HB.out) GB23.out : Below w.heap.size w w25)); clear HO_5; clear HB; have HO_5 := n0_; have HB := n1_; clear n0_ n1_; clear hg hw hp_))
                        (try simp only [← hl5_2])
                        go_roundg k2
                        case measure => have := HJ2.out; have := HK2.out; omega
                        case rel => exact ⟨(y217), (wrap64 (x32_2 + 1)), (by first | rfl | (simp; done) | (simp [*]; done)), H', ⟨by have := HJ2.out; have := HK2.out; omega⟩, ⟨by (try simp only [hl5_2]); (with_reducible repeat (first | apply Kd.R_alloc | apply Kd.R_drewN | apply Kd.R_drew)); exact HO_5.out⟩, ⟨by repeat (first | (with_reducible first | exact HB.out | apply below_alloc | apply pw_below_drewN | apply below_drew1) | exact HB.out)⟩⟩
                      · rw [if_neg c22] at H
                        exact absurd H (by simp)
                    · rw [if_neg c21] at H
                      exact absurd H (by simp)
                  · rw [if_neg c19] at H
                    exact absurd H (by simp)
                · rw [if_neg c17] at H
                  have c17b0 : decide (x32_2 < (y214.length : Int)) = false := decide_eq_false c17
                  have c17b2 : decide (x32_2 < (x5_2.length : Int)) = false := by rw [← hl5_2]; exact c17b0
                  clear c17
                  obtain rfl := Option.some.inj H
                  go_wp2
                  go_ret
                  exact ⟨_, by first | rfl | (simp [errW_none, errW_some] <;> rfl) | (simp [*, errW_none, errW_some] <;> rfl), by (with_reducible repeat (first | apply Kd.R_alloc | apply Kd.R_drewN | apply Kd.R_drew)); exact HO_5.out, by repeat (first | (with_reducible first | exact HB.out | apply below_alloc | apply pw_below_drewN | apply below_drew1) | exact HB.out)⟩
          · rw [if_neg c13] at H
            exact absurd H (by simp)
        · rw [if_neg c12] at H
          exact absurd H (by simp)

/-! ### impl_put: function 54 -/
section
open Go.Proofs.Ytplefdkookhlhaa.Cpy
/-- put: the number's bytes laid over the row from a place on. -/
def impl_put.f (k : Nat) (l0 : List Int) (a1 : Int) (a2 : Int) (a3 : Int) : Option (List Int) := (impl_PutNumber.f k a2 a3).bind fun t => if 0 ≤ a1 then (if a1 ≤ (l0.length : Int) then some (splice l0 a1.toNat (t.take (l0.length - a1.toNat))) else none) else none
theorem impl_put.mono : ∀ a0 a1 a2 a3 k, LeO (impl_put.f k a0 a1 a2 a3) (impl_put.f (k + 1) a0 a1 a2 a3) := fun _ _ a2 a3 k => LeO.bind (impl_PutNumber.mono a2 a3 k) (fun _ => LeO.refl _)
set_option maxHeartbeats 8000000 in
set_option maxRecDepth 100000 in
theorem impl_put.calls (k : Nat) (P0_ : Nat → Prop) (u9000_ : Value) (l0 : List Int) (a1 : Int) (a2 : Int) (a3 : Int) (r : List Int) (w0 w : World) (hB : Below w0.heap.size w0 w) (ho0 : Kd.R (Kd.int .u8) 5 w w0.heap.size P0_ u9000_ l0) (h : impl_put.f k l0 a1 a2 a3 = some r) :
    Calls Try.prog 54 #[u9000_, .int .i64 a1, .int .i64 a2, .int .i64 a3] w fun e w' => e = .returned (.tuple #[]) ∧ Kd.R (Kd.int .u8) 5 w' w0.heap.size (fun k_ => (P0_ k_ ∨ w.heap.size ≤ k_)) u9000_ r ∧ Below w0.heap.size w0 w' ∧ Kept w w' (fun k_ => P0_ k_) := by
  obtain ⟨t, A1, H⟩ := Option.bind_eq_some_iff.mp h
  clear h
  have C1 := Aside0.mk A1
  clear A1
  by_cases p1 : 0 ≤ a1
  rotate_left
  · rw [if_neg p1] at H; cases H
  rw [if_pos p1] at H
  by_cases p2 : a1 ≤ (l0.length : Int)
  rotate_left
  · rw [if_neg p2] at H; cases H
  rw [if_pos p2] at H
  obtain ⟨i, rfl⟩ := Int.eq_ofNat_of_zero_le p1
  have hin : i ≤ l0.length := by omega
  rw [Int.toNat_natCast] at H
  have HO := Aside0.mk ho0
  have HB := Aside0.mk hB
  have hsz : w0.heap.size ≤ w.heap.size := hB.size
  have HS := Aside0.mk hsz
  have own := Kd.own_of_R (enc := Value.int .u8) ho0
  have hok := ho0.1
  clear ho0 hB hsz p1 p2
  by_cases hm : t.length = 0 ∨ l0.length - i = 0
  · have hr : r = l0 := by
      have e0 : t.take (l0.length - i) = [] := by
        rcases hm with h | h
        · rw [List.eq_nil_of_length_eq_zero h]; simp
        · rw [h]; simp
      rw [← Option.some.inj H, e0]; simp [splice]
    clear H
    subst hr
    obtain ⟨A, c, hv, hlc, hC⟩ := Kd.R_reads HO.out
    obtain ⟨i0, hi, hzz⟩ := Option.map_eq_some_iff.1 info5
    simp only [Prod.mk.injEq] at hzz
    obtain ⟨A', hsl, _⟩ := print_cut_of (Value.int .u8) (0 : Int) 23 5 .i64 Try.underlying23 hi hzz.2.1 A r.length c i hin
    subst hv
    have hmin : Nat.min t.length (r.length - i) = 0 := by
      have : Nat.min t.length (r.length - i) ≤ t.length := Nat.min_le_left _ _
      have : Nat.min t.length (r.length - i) ≤ r.length - i := Nat.min_le_right _ _
      omega
    clear hC own hi hzz hin hok
    have HM := Aside0.mk hmin
    clear hmin hm hlc
    go_enter Try.func54, Try.ntmps54
    go_region_law (first
      | (refine goes_ Try.func72 (by kernel_rfl) rfl #[.int .i64 a2, .int .i64 a3] (by rfl) rfl rfl (by kernel_rfl) ?_; refine (impl_PutNumber.calls k a2 a3 t _ C1.out).mono ?_; rintro e w1 ⟨v0, rfl, hR, hb⟩; obtain ⟨At, ct, rfl, _, _⟩ := Kd.R_reads hR; have HR1 := Aside0.mk ((below_drew1 (Below.refl w.heap.size w)).trans hb); clear hR hb; refine ⟨_, rfl, ?_⟩)
      | (refine copy_no rfl (.tmp 10) (.tmp 13) 23 23 rfl 5 Try.underlying23 (by kernel_rfl) A' At (r.length - i) (c - i) t.length ct (by kernel_rfl) (by kernel_rfl) HM.out ?_))
    all_goals
      go_end0
      refine ⟨rfl, Kd.R_mono (Kd.R_below HO.out HR1.out) (fun k_ hk => .inl hk), ?_, Kept.of_below HR1.out _⟩
      exact HB.out.trans (HR1.out.mono HS.out)
  · have hm1 : 0 < t.length := by omega
    have hm2 : i < l0.length := by omega
    rcases own.2 with ⟨_, hn0⟩ | ⟨g, cap, cur, rfl, hbg, hcur, hnc, hcm, hcs, ht⟩
    · omega
    have hgs : g < w.heap.size := blk_lt hcur
    have hPg : P0_ g := hok g (by simp [Value.ownBlock])
    obtain ⟨i0, hi, hzz⟩ := Option.map_eq_some_iff.1 info5
    simp only [Prod.mk.injEq] at hzz
    have hsl : ∀ W : World, (Instr.slice 23 (.slice (some ⟨g, 0, none⟩) l0.length cap) (some (.int .i64 (i : Int))) none none).run Try.prog W = .ok (.slice (some ⟨g, i, none⟩) (l0.length - i) (cap - i)) W := by
      intro W
      have hel : Try.prog.elem 23 = 5 := by simp [Program.elem, Try.underlying23]
      have hu : Try.prog.underlying 23 = some (.slice (Try.prog.elem 23)) := by rw [hel]; exact Try.underlying23
      rw [run_slice_l W 23 (some ⟨g, 0, none⟩) l0.length cap hu .i64 (i : Int) (Int.natCast_nonneg _) (by omega), hel]
      have hne : ¬ cap = i := by omega
      by_cases hi0 : i = 0
      · subst hi0; simp [sizeOf, typeInfo, hi, hzz.2.1, sliced, Result.andThen, hne, Addr.add]
      · simp [sizeOf, typeInfo, hi, hzz.2.1, sliced, Result.andThen, hne, Addr.add, hi0]
    have HT := Aside0.mk (show 0 < t.length ∧ i < l0.length from ⟨hm1, hm2⟩)
    have HH := Aside0.mk H
    have HG := Aside0.mk (show g < w.heap.size ∧ P0_ g ∧ w0.heap.size ≤ g from ⟨hgs, hPg, hbg⟩)
    clear own hok hm hm1 hm2 hcur hnc hcm hcs ht hgs hPg hbg hi hzz hin H
    go_enter Try.func54, Try.ntmps54
    go_region_law (first
      | (refine goes_ Try.func72 (by kernel_rfl) rfl #[.int .i64 a2, .int .i64 a3] (by rfl) rfl rfl (by kernel_rfl) ?_; refine (impl_PutNumber.calls k a2 a3 t _ C1.out).mono ?_; rintro e w1 ⟨v0, rfl, hR, hb⟩; obtain ⟨At, ct, rfl, _, hC⟩ := Kd.R_reads hR; have HR1 := Aside0.mk ((below_drew1 (Below.refl w.heap.size w)).trans hb); clear hR hb; obtain ⟨ad, rfl, hsrc⟩ := src_cells hC (min t.length (l0.length - i)) (Nat.min_le_left _ _) (by have := HT.out; omega); have HSRC := Aside0.mk hsrc; obtain ⟨cur1, hcur1, hcs1, _, hown1⟩ := own_splice (Kd.own_of_R (enc := Value.int .u8) (Kd.R_below HO.out HR1.out)) i (nums .u8 (t.take (min t.length (l0.length - i)))) (by rw [nums_len, List.length_take]; have := HT.out; omega); have HC1 := Aside0.mk hcur1; have HC2 := Aside0.mk hcs1; have HC3 := Aside0.mk hown1; clear hsrc hcur1 hcs1 hown1 hC; refine ⟨_, rfl, ?_⟩)
      | (refine copy_at rfl (.tmp 10) (.tmp 13) 23 23 rfl 5 Try.underlying23 (by kernel_rfl) g i (l0.length - i) (cap - i) ad t.length ct (by kernel_rfl) (by kernel_rfl) cur1 5 HC1.out (nums .u8 (t.take (min t.length (l0.length - i)))) (by rw [nums_len, List.length_take]; exact Nat.min_eq_left (Nat.min_le_left _ _)) HSRC.out HC2.out (by intro v hv; simp only [nums, List.mem_map] at hv; obtain ⟨q, _, rfl⟩ := hv; rfl) ?_))
    all_goals
      go_end0
      have hr : nums .u8 r = splice (nums .u8 l0) i (nums .u8 (t.take (min t.length (l0.length - i)))) := by
        rw [nums_splice, ← Option.some.inj HH.out]
        congr 2
        rcases Nat.le_total t.length (l0.length - i) with h | h
        · rw [Nat.min_eq_left h, List.take_of_length_le (Nat.le_refl _), List.take_of_length_le h]
        · rw [Nat.min_eq_right h]
      have hrl : r.length = l0.length := by
        have h1 := congrArg List.length hr
        rw [nums_len, length_splice _ _ _ (by rw [nums_len, nums_len, List.length_take]; have := HT.out; omega), nums_len] at h1
        exact h1
      have key : ∀ W : World, W.ownsRow w0.heap.size 5 1 (.slice (some ⟨g, 0, none⟩) l0.length cap) l0.length (splice (encs (Value.int .u8) l0) i (nums .u8 (t.take (min t.length (l0.length - i))))) → W.ownsRow w0.heap.size 5 1 (.slice (some ⟨g, 0, none⟩) l0.length cap) r.length (encs (Value.int .u8) r) := fun W h => by
        have e : encs (Value.int .u8) r = splice (encs (Value.int .u8) l0) i (nums .u8 (t.take (min t.length (l0.length - i)))) := hr
        rw [hrl, e]; exact h
      have ho2 := key _ HC3.out
      refine ⟨rfl, Kd.R_of_own ho2 (fun k_ hk => .inl ?_), ?_, kept_setRow (Kept.of_below HR1.out _) g _ (.inl HG.out.2.1)⟩
      · simp [Value.ownBlock] at hk; subst hk; exact HG.out.2.1
      · exact below_setRow (HB.out.trans (HR1.out.mono HS.out)) HG.out.2.2 _
end


/-! ### impl_EncodeInode: function 41 -/
def impl_EncodeInode.l0 : Nat → List Int → List Int → Int → Int → Int → Int → Int → List Int → Int → Option (List Int)
  | 0, _, _, _, _, _, _, _, _, _ => none
  | k + 1, x3, x25, x26, x27, x219000, x219001, x219002, x219003, x219004 => if x27 < x26 then (if 0 ≤ x27 then (if x27 < (x25.length : Int) then ((impl_put.f k x3 (wrap64 (4 + (wrap64 (2 * x27)))) (rd x25 x27) 2).bind fun t227 => (impl_EncodeInode.l0 k t227 x25 x26 (wrap64 (x27 + 1)) x219000 x219001 x219002 x219003 x219004)) else (none)) else (none)) else ((impl_put.f k x3 20 x219004 2).bind fun t228 => (some t228))
def impl_EncodeInode.f (k : Nat) (a0_0 : Int) (a0_1 : Int) (a0_2 : Int) (l0_3 : List Int) (a0_4 : Int) : Option (List Int) := (impl_ValidInode.f k a0_0 a0_1 a0_2 l0_3 a0_4).bind fun t219 => (if t219 = true then (if 32 ≤ 281474976710656 then ((some (List.replicate 32 0 : List Int)).bind fun y220 => (if 0 < (y220.length : Int) then (if 1 < (y220.length : Int) then ((impl_put.f k ((y220.set (0 : Int).toNat ((a0_0) % 256)).set (1 : Int).toNat ((a0_1) % 256)) 2 a0_2 2).bind fun t225 => (impl_EncodeInode.l0 k t225 l0_3 (l0_3.length : Int) 0 a0_0 a0_1 a0_2 l0_3 a0_4)) else (none)) else (none))) else (none)) else (some ([] : List Int)))
theorem impl_EncodeInode.mono_l : ∀ k, (∀ y0 y1 y2 y3 y4 y5 y6 y7 y8, LeO (impl_EncodeInode.l0 k y0 y1 y2 y3 y4 y5 y6 y7 y8) (impl_EncodeInode.l0 (k + 1) y0 y1 y2 y3 y4 y5 y6 y7 y8))
  | 0 => fun _ _ _ _ _ _ _ _ _ r h => by simp [impl_EncodeInode.l0] at h
  | k + 1 => by
    have ih0 := impl_EncodeInode.mono_l k
    · intro y0 y1 y2 y3 y4 y5 y6 y7 y8
      unfold impl_EncodeInode.l0
      repeat' first
      | (with_reducible exact ih0 _ _ _ _ _ _ _ _ _)
      | (with_reducible exact impl_ValidInode.mono _ _ _ _ _ _)
      | (with_reducible exact impl_put.mono _ _ _ _ _)
      | (with_reducible exact LeO.refl _)
      | (with_reducible exact LeO.none _)
      | (with_reducible refine LeO.ite ?_ ?_)
      | (with_reducible refine LeO.bind ?_ (fun _ => ?_))
      | exact ih0 _ _ _ _ _ _ _ _ _
      | exact impl_ValidInode.mono _ _ _ _ _ _
      | exact impl_put.mono _ _ _ _ _
      | exact LeO.none _
      | refine LeO.ite ?_ ?_
      | refine LeO.bind ?_ (fun _ => ?_)
theorem impl_EncodeInode.mono : ∀ a0 a1 a2 a3 a4 k, LeO (impl_EncodeInode.f k a0 a1 a2 a3 a4) (impl_EncodeInode.f (k + 1) a0 a1 a2 a3 a4) := by
  intro a0 a1 a2 a3 a4 k
  have ih0 := impl_EncodeInode.mono_l k
  unfold impl_EncodeInode.f
  repeat' first
      | (with_reducible exact ih0 _ _ _ _ _ _ _ _ _)
      | (with_reducible exact impl_ValidInode.mono _ _ _ _ _ _)
      | (with_reducible exact impl_put.mono _ _ _ _ _)
      | (with_reducible exact LeO.refl _)
      | (with_reducible exact LeO.none _)
      | (with_reducible refine LeO.ite ?_ ?_)
      | (with_reducible refine LeO.bind ?_ (fun _ => ?_))
      | exact ih0 _ _ _ _ _ _ _ _ _
      | exact impl_ValidInode.mono _ _ _ _ _ _
      | exact impl_put.mono _ _ _ _ _
      | exact LeO.none _
      | refine LeO.ite ?_ ?_
      | refine LeO.bind ?_ (fun _ => ?_)
def impl_EncodeInode.T4 : Bool × List (List Nat × List Nat) := (true, [([], []), ([], []), ([], []), ([2], [2]), ([3], [3]), ([], []), ([5], [5]), ([6], [6]), ([0, 0, 2, 3, 4], [0]), ([8, 4, 0, 2, 3, 4], [4, 8]), ([1, 0, 1, 2, 3, 4, 5, 6, 7, 8, 9], [1]), ([10, 7, 9, 0, 1, 2, 3, 4, 5, 6, 7, 8, 9], [7, 10])])
def impl_EncodeInode.B4 : List Nat := [0, 0, 0, 4, 12, 0, 32, 96, 29, 285, 1023, 2047]
theorem impl_EncodeInode.tab4 : rtab .any (opsOf Try.f41 4) = impl_EncodeInode.T4 := by kernel_rfl
theorem impl_EncodeInode.bits4 : waitsOk impl_EncodeInode.T4.2 impl_EncodeInode.B4 = true := by kernel_rfl
set_option maxHeartbeats 8000000 in
set_option maxRecDepth 100000 in
theorem impl_EncodeInode.calls (k : Nat) (a0_0 : Int) (a0_1 : Int) (a0_2 : Int) (A0_3 : Option Addr) (c0_3 : Nat) (l0_3 : List Int) (a0_4 : Int) (r : List Int) (w : World) (hr0_3 : Kd.C (Kd.int .i64) w A0_3 l0_3.length l0_3) (hc0_3 : l0_3.length ≤ c0_3) (h : impl_EncodeInode.f k a0_0 a0_1 a0_2 l0_3 a0_4 = some r) :
    Calls Try.prog 41 #[.agg #[.int .i64 a0_0, .int .i64 a0_1, .int .i64 a0_2, .slice A0_3 l0_3.length c0_3, .int .i64 a0_4]] w fun e w' => ∃ v0_ : Value, e = .returned (v0_) ∧ Kd.R (Kd.int .u8) 5 w' w.heap.size (fun _ => True) v0_ r ∧ Below w.heap.size w w' := by
  have hu65 := Try.underlying65
  have HR0_3 := Aside0.mk hr0_3
  have HC0_3 := Aside0.mk hc0_3
  clear hr0_3 hc0_3
  have HB := Aside0.mk (Below.refl w.heap.size w)
  have H : ((impl_ValidInode.f k a0_0 a0_1 a0_2 l0_3 a0_4).bind fun t219 => (if t219 = true then (if 32 ≤ 281474976710656 then ((some (List.replicate 32 0 : List Int)).bind fun y220 => (if 0 < (y220.length : Int) then (if 1 < (y220.length : Int) then ((impl_put.f k ((y220.set (0 : Int).toNat ((a0_0) % 256)).set (1 : Int).toNat ((a0_1) % 256)) 2 a0_2 2).bind fun t225 => (impl_EncodeInode.l0 k t225 l0_3 (l0_3.length : Int) 0 a0_0 a0_1 a0_2 l0_3 a0_4)) else (none)) else (none))) else (none)) else (some ([] : List Int)))) = some r := h
  clear h
  replace H := Option.bind_eq_some_iff.mp H
  obtain ⟨t219, A20, H⟩ := H
  replace H : (if t219 = true then (if 32 ≤ 281474976710656 then ((some (List.replicate 32 0 : List Int)).bind fun y220 => (if 0 < (y220.length : Int) then (if 1 < (y220.length : Int) then ((impl_put.f k ((y220.set (0 : Int).toNat ((a0_0) % 256)).set (1 : Int).toNat ((a0_1) % 256)) 2 a0_2 2).bind fun t225 => (impl_EncodeInode.l0 k t225 l0_3 (l0_3.length : Int) 0 a0_0 a0_1 a0_2 l0_3 a0_4)) else (none)) else (none))) else (none)) else (some ([] : List Int))) = some r := H
  have A2 := Aside0.mk A20
  clear A20
  by_cases c3 : t219 = true
  · subst c3
    have H1 : (if 32 ≤ 281474976710656 then ((some (List.replicate 32 0 : List Int)).bind fun y220 => (if 0 < (y220.length : Int) then (if 1 < (y220.length : Int) then ((impl_put.f k ((y220.set (0 : Int).toNat ((a0_0) % 256)).set (1 : Int).toNat ((a0_1) % 256)) 2 a0_2 2).bind fun t225 => (impl_EncodeInode.l0 k t225 l0_3 (l0_3.length : Int) 0 a0_0 a0_1 a0_2 l0_3 a0_4)) else (none)) else (none))) else (none)) = some r := by rw [if_pos rfl] at H; exact H
    clear H
    have H := H1
    clear H1
    by_cases c4 : 32 ≤ 281474976710656
    · rw [if_pos c4] at H
      have c4b0 := eq_true c4
      have c4b1 : decide (32 ≤ 281474976710656) = true := decide_eq_true c4
      clear c4
      obtain ⟨y220, hy220⟩ : ∃ y_ : List Int, y_ = (List.replicate 32 0) := ⟨_, rfl⟩
      replace H : (if 0 < (y220.length : Int) then (if 1 < (y220.length : Int) then ((impl_put.f k ((y220.set (0 : Int).toNat ((a0_0) % 256)).set (1 : Int).toNat ((a0_1) % 256)) 2 a0_2 2).bind fun t225 => (impl_EncodeInode.l0 k t225 l0_3 (l0_3.length : Int) 0 a0_0 a0_1 a0_2 l0_3 a0_4)) else (none)) else (none)) = some r := by first | (rw [hy220]; with_reducible exact H) | (have H2_ := (Option.bind_some _ _).symm.trans H; rw [hy220]; with_reducible exact H2_) | (have H2_ := (Option.bind_some _ _).symm.trans H; with_reducible exact H2_) | with_reducible exact H | (rw [hy220]; exact H) | exact H
      have Ny220 := Aside0.mk hy220
      clear hy220
      by_cases c5 : 0 < (y220.length : Int)
      · rw [if_pos c5] at H
        have c5b0 : decide (0 < (y220.length : Int)) = true := decide_eq_true c5
        have c5b1 : decide (0 < y220.length) = true := decide_eq_true (by omega)
        clear c5
        obtain ⟨y223, hy223⟩ : ∃ y_ : List Int, y_ = (y220.set (0 : Int).toNat ((a0_0) % 256)) := ⟨_, rfl⟩
        replace H : (if 1 < (y220.length : Int) then ((impl_put.f k (y223.set (1 : Int).toNat ((a0_1) % 256)) 2 a0_2 2).bind fun t225 => (impl_EncodeInode.l0 k t225 l0_3 (l0_3.length : Int) 0 a0_0 a0_1 a0_2 l0_3 a0_4)) else (none)) = some r := by first | (rw [hy223]; with_reducible exact H) | (have H2_ := (Option.bind_some _ _).symm.trans H; rw [hy223]; with_reducible exact H2_) | (have H2_ := (Option.bind_some _ _).symm.trans H; with_reducible exact H2_) | with_reducible exact H | (rw [hy223]; exact H) | exact H
        have Ny223 := Aside0.mk hy223
        clear hy223
        by_cases c7 : 1 < (y220.length : Int)
        · rw [if_pos c7] at H
          have c7b0 : decide (1 < (y220.length : Int)) = true := decide_eq_true c7
          have c7b1 : decide (1 < y220.length) = true := decide_eq_true (by omega)
          clear c7
          obtain ⟨y224, hy224⟩ : ∃ y_ : List Int, y_ = (y223.set (1 : Int).toNat ((a0_1) % 256)) := ⟨_, rfl⟩
          replace H : ((impl_put.f k y224 2 a0_2 2).bind fun t225 => (impl_EncodeInode.l0 k t225 l0_3 (l0_3.length : Int) 0 a0_0 a0_1 a0_2 l0_3 a0_4)) = some r := by first | (rw [hy224]; with_reducible exact H) | (have H2_ := (Option.bind_some _ _).symm.trans H; rw [hy224]; with_reducible exact H2_) | (have H2_ := (Option.bind_some _ _).symm.trans H; with_reducible exact H2_) | with_reducible exact H | (rw [hy224]; exact H) | exact H
          have Ny224 := Aside0.mk hy224
          clear hy224
          replace H := Option.bind_eq_some_iff.mp H
          obtain ⟨t225, A90, H⟩ := H
          replace H : (impl_EncodeInode.l0 k t225 l0_3 (l0_3.length : Int) 0 a0_0 a0_1 a0_2 l0_3 a0_4) = some r := H
          have A9 := Aside0.mk A90
          clear A90
          have H' := Aside0.mk H
          clear H
          go_enter Try.func41, Try.ntmps41
          try go_wp2_with (first | ((with_reducible refine gate_dst (N := 1) rfl ?_); refine box_event ?hg (N := 1) ?hd (cs := #[.int .i64 a0_0, .int .i64 a0_1, .int .i64 a0_2, .slice A0_3 l0_3.length c0_3, .int .i64 a0_4]) (t := 65) ?hr ?_; (case hd => rfl); (case hg => rfl); (case hr => first | (go_simp; done) | (go_simp; rfl)); intro gb218 hg w10 hbox hb; have n0_ := Aside0.mk (below_step (by repeat (first | (with_reducible first | exact HB.out | apply below_alloc | apply pw_below_drewN | apply below_drew1) | exact HB.out)) hb); have n1_ := Aside0.mk (hbox); have n2_ := Aside0.mk ((by rw [hg]; exact (below_size (by repeat (first | (with_reducible first | exact HB.out | apply below_alloc | apply pw_below_drewN | apply below_drew1) | exact HB.out))) : w.heap.size ≤ gb218)); have n3_ := Aside0.mk ((by rw [hg]; exact (below_size (by repeat (first | (with_reducible first | exact HB.out | apply below_alloc | apply pw_below_drewN | apply below_drew1) | exact HB.out))) : w.heap.size ≤ gb218)); clear HB; have HB := n0_; have BK218 := n1_; have GW218 := n2_; have GE218 := n3_; clear n0_ n1_ n2_ n3_; clear hb hbox hg; have hcz11_0 : w10.cell? ⟨gb218, 0, none⟩ = some (.int .i64 a0_0) := (blk_cell BK218.out 0).trans rfl; have hcz11_1 : w10.cell? ⟨gb218, 1, none⟩ = some (.int .i64 a0_1) := (blk_cell BK218.out 1).trans rfl; have hcz11_2 : w10.cell? ⟨gb218, 2, none⟩ = some (.int .i64 a0_2) := (blk_cell BK218.out 2).trans rfl; have hcz11_3 : w10.cell? ⟨gb218, 3, none⟩ = some (.slice A0_3 l0_3.length c0_3) := (blk_cell BK218.out 3).trans rfl; have hcz11_4 : w10.cell? ⟨gb218, 4, none⟩ = some (.int .i64 a0_4) := (blk_cell BK218.out 4).trans rfl; have hfz11_0 := blk_frozen BK218.out 0; have hfz11_1 := blk_frozen BK218.out 1; have hfz11_2 := blk_frozen BK218.out 2; have hfz11_3 := blk_frozen BK218.out 3; have hfz11_4 := blk_frozen BK218.out 4) | ((with_reducible refine gate_callee (f := 50) rfl ?_); refine goesL_ (some 7) rfl rfl Try.func50 (by kernel_rfl) rfl #[.agg #[.int .i64 a0_0, .int .i64 a0_1, .int .i64 a0_2, .slice A0_3 l0_3.length c0_3, .int .i64 a0_4]] rfl (by (try simp only [List.map_toArray, List.map_cons, List.map_nil]); first | done | rfl | (simp only [List.length_drop, List.length_take]; rfl)) ?_; (with_reducible refine (impl_ValidInode.calls k a0_0 a0_1 a0_2 _ _ l0_3 a0_4 true _ ?side1 ?side2 A2.out).mono ?_); (case side1 => repeat (first | exact (Kd.C_below HR0_3.out HB.out) | (with_reducible refine Kd.C_alloc ?_ _) | (with_reducible refine Kd.C_drewN ?_ _) | (with_reducible refine Kd.C_drew ?_))); (case side2 => exact HC0_3.out); rintro e w12 ⟨rfl, hb⟩; refine ⟨_, rfl, ?_⟩; have n0_ := Aside0.mk (blk_below (g := gb218) (o := .cells #[.int .i64 a0_0, .int .i64 a0_1, .int .i64 a0_2, .slice A0_3 l0_3.length c0_3, .int .i64 a0_4] 65 (0, 0)) (by (with_reducible repeat (first | refine blk_drewN ?_ _ | refine blk_drew ?_ | refine blk_alloc ?_ _)); exact BK218.out) hb); have n1_ := Aside0.mk (below_step (by repeat (first | (with_reducible first | exact HB.out | apply below_alloc | apply pw_below_drewN | apply below_drew1 | refine below_set ?_ GE218.out) | exact HB.out)) hb); clear BK218; clear HB; have BK218 := n0_; have HB := n1_; clear n0_ n1_; (try clear hb); (try clear hb2); (try clear hk); (try clear hi)) | ((with_reducible refine gate_dst (N := 9) rfl ?_); refine Kd.R_make (Kd.int .u8) _ 5 rfl (N := 9) rfl 23 _ _ rfl 32 rfl rfl Try.underlying23 (.int .u8 0) 1 info5 rfl (by decide) (by omega) 0 (ok := fun _ => True) (okp := fun _ => True) rfl (fun _ hk => hk) trivial (by omega) (by omega) (Below.refl _ _) (Nat.le_refl _) ?_; intro v221 w13 ho14 hb hg_ hnew_; clear hg_ hnew_; (first | rw [← Ny220.out] at ho14 | (simp only [Int.reduceToNat] at ho14; rw [← Ny220.out] at ho14)); have n0_ := Aside0.mk (Kd.R_lower ho14 (below_size (by repeat (first | (with_reducible first | exact HB.out | apply below_alloc | apply pw_below_drewN | apply below_drew1 | refine below_set ?_ GE218.out) | exact HB.out)))); have n1_ := Aside0.mk (blk_below (g := gb218) (o := .cells #[.int .i64 a0_0, .int .i64 a0_1, .int .i64 a0_2, .slice A0_3 l0_3.length c0_3, .int .i64 a0_4] 65 (0, 0)) (by (with_reducible repeat (first | refine blk_drewN ?_ _ | refine blk_drew ?_ | refine blk_alloc ?_ _)); exact BK218.out) hb); have n2_ := Aside0.mk (below_step (by repeat (first | (with_reducible first | exact HB.out | apply below_alloc | apply pw_below_drewN | apply below_drew1 | refine below_set ?_ GE218.out) | exact HB.out)) hb); clear BK218; clear HB; have HO222 := n0_; have BK218 := n1_; have HB := n2_; clear n0_ n1_ n2_; clear hb ho14))
          have n0_ := Aside0.mk (Kd.R_drew HO222.out)
          have n1_ := Aside0.mk (blk_drew BK218.out)
          have n2_ := Aside0.mk (below_drew1 HB.out)
          clear HO222
          clear BK218
          clear HB
          have HO222 := n0_
          have BK218 := n1_
          have HB := n2_
          clear n0_ n1_ n2_
          have p6 : 0 ≤ (0 : Int) := (by omega)
          have q6 : (0 : Int) < ((y220.length : Int) : Int) := of_decide_eq_true (by first | (with_reducible assumption) | assumption)
          have qi6 : (0 < y220.length) = True := eq_true (by omega)
          obtain ⟨go6, co6, eo6, gb6, gl6, cl6, HG6⟩ := Kd.R_form HO222.out (by omega)
          (first | cases eo6 | (injection eo6 with ea_ en_ ec_; (first | subst ea_ | (injection ea_ with ea_; subst ea_)); subst ec_; clear en_))
          have GB6 := Aside0.mk gb6
          have GG6 := Aside0.mk HG6
          clear gb6 gl6 HG6
          obtain ⟨hx6_0, hf6_0⟩ := Kd.R_celln 0 HO222.out (0 : Int) p6 q6
          (try rw [show ((0 : Int)).toNat = 0 from rfl] at hx6_0)
          (try simp only [Nat.reduceMul, Nat.zero_mul, Nat.zero_add, Nat.reduceAdd] at hx6_0)
          (try rw [show ((0 : Int)).toNat = 0 from rfl] at hf6_0)
          (try simp only [Nat.reduceMul, Nat.zero_mul, Nat.zero_add, Nat.reduceAdd] at hf6_0)
          replace p6 := eq_true p6
          replace q6 := eq_true q6
          have HP16 := Kd.R_putn HO222.out (0 : Int) ((a0_0) % 256)
          rw [← Ny223.out] at HP16
          have HQ16 := Aside0.mk HP16
          clear HP16
          have p8 : 0 ≤ (1 : Int) := (by omega)
          have q8 : (1 : Int) < ((y220.length : Int) : Int) := of_decide_eq_true (by first | (with_reducible assumption) | assumption)
          have qi8 : (1 < y220.length) = True := eq_true (by omega)
          obtain ⟨hx8_0, hf8_0⟩ := Kd.R_celln 0 HQ16.out (1 : Int) p8 q8
          (have hz_ := (World.cell?_setCell_other _ _ _ _ (by simp)).symm.trans hx8_0; clear hx8_0; have hx8_0 := hz_; clear hz_)
          (try rw [World.frozen?_setCell] at hf8_0)
          (try rw [show ((1 : Int)).toNat = 1 from rfl] at hx8_0)
          (try simp only [Nat.reduceMul, Nat.zero_mul, Nat.zero_add, Nat.reduceAdd] at hx8_0)
          (try rw [show ((1 : Int)).toNat = 1 from rfl] at hf8_0)
          (try simp only [Nat.reduceMul, Nat.zero_mul, Nat.zero_add, Nat.reduceAdd] at hf8_0)
          replace p8 := eq_true p8
          replace q8 := eq_true q8
          have HP17 := Kd.R_putn HQ16.out (1 : Int) ((a0_1) % 256)
          rw [← Ny224.out] at HP17
          have HQ17 := Aside0.mk HP17
          clear HP17
          refine start_ (n := 12) (S := fun w' => w'.cell? ⟨gb218, 0, none⟩ = some (.int .i64 a0_0) ∧ w'.cell? ⟨gb218, 1, none⟩ = some (.int .i64 a0_1) ∧ w'.cell? ⟨gb218, 2, none⟩ = some (.int .i64 a0_2) ∧ w'.cell? ⟨gb218, 3, none⟩ = some (.slice A0_3 l0_3.length c0_3) ∧ w'.cell? ⟨gb218, 4, none⟩ = some (.int .i64 a0_4)) (ds := []) #[false, false, false, false, false, false, false, false, false, false, false, false] (by kernel_rfl) rfl rfl ⟨(blk_cell BK218.out 0).trans rfl, (blk_cell BK218.out 1).trans rfl, (blk_cell BK218.out 2).trans rfl, (blk_cell BK218.out 3).trans rfl, (blk_cell BK218.out 4).trans rfl⟩ (fun hHeld => ?_); refine with_tabW impl_EncodeInode.tab4 impl_EncodeInode.bits4 (fun HT_ HW_ => ?_)
          generalize w13.drew = w15 at HO222 BK218 HB GG6 HQ16 HQ17 hf6_0 hf8_0 hx6_0 hx8_0 hHeld ⊢
          refine pure_ (i := 0) (N := some 10) (v := ?_) (a' := ?_) #[true, false, false, false, false, false, false, false, false, false, false, false] rfl rfl (any_of HT_.out (by kernel_rfl)) (fun _ _ _ h => h) (Or.inl ⟨by rfl, ?_⟩) ?_ ?_
          rotate_left
          · intro w'
            go_simp
            with_reducible rfl
          rotate_left
          · simp only [Act.put, List.setIfInBounds_toArray, List.set_cons_zero, List.set_cons_succ, i64_w, i32_w, IntKind.wrap_u8]
            rfl
          refine pure_ (i := 1) (N := some 11) (v := ?_) (a' := ?_) #[true, true, false, false, false, false, false, false, false, false, false, false] rfl rfl (any_of HT_.out (by kernel_rfl)) (fun _ _ _ h => h) (Or.inl ⟨by rfl, ?_⟩) ?_ ?_
          rotate_left
          · intro w'
            go_simp
            with_reducible rfl
          rotate_left
          · simp only [Act.put, List.setIfInBounds_toArray, List.set_cons_zero, List.set_cons_succ, i64_w, i32_w, IntKind.wrap_u8]
            rfl
          refine pure_ (i := 2) (N := some 12) (v := ?_) (a' := ?_) #[true, true, true, false, false, false, false, false, false, false, false, false] rfl rfl (any_of HT_.out (by kernel_rfl)) (fun _ _ _ h => h) (Or.inl ⟨by rfl, ?_⟩) ?_ ?_
          rotate_left
          · intro w'
            go_simp
            with_reducible rfl
          rotate_left
          · simp only [Act.put, List.setIfInBounds_toArray, List.set_cons_zero, List.set_cons_succ, i64_w, i32_w, IntKind.wrap_u8]
            rfl
          refine pure_ (i := 5) (N := some 15) (v := ?_) (a' := ?_) #[true, true, true, false, false, true, false, false, false, false, false, false] rfl rfl (any_of HT_.out (by kernel_rfl)) (fun _ _ _ h => h) (Or.inl ⟨by rfl, ?_⟩) ?_ ?_
          rotate_left
          · intro w'
            go_simp
            with_reducible rfl
          rotate_left
          · simp only [Act.put, List.setIfInBounds_toArray, List.set_cons_zero, List.set_cons_succ, i64_w, i32_w, IntKind.wrap_u8]
            rfl
          refine take_ (i := 3) (N := some 13) (v := ?_) (a' := ?_) #[true, true, true, true, false, true, false, false, false, false, false, false] rfl rfl (take_ofW HT_.out HW_.out (by kernel_rfl)) (fun _ _ _ h => h) (Or.inl ⟨by rfl, ?_⟩) hHeld ?_ ?_
          rotate_left
          · rintro w' ⟨s0, s1, s2, s3, s4⟩
            go_simp
            with_reducible rfl
          rotate_left
          · simp only [Act.put, List.setIfInBounds_toArray, List.set_cons_zero, List.set_cons_succ, i64_w, i32_w, IntKind.wrap_u8]
            rfl
          refine pure_ (i := 4) (N := some 14) (v := ?_) (a' := ?_) #[true, true, true, true, true, true, false, false, false, false, false, false] rfl rfl (any_of HT_.out (by kernel_rfl)) (fun _ _ _ h => h) (Or.inl ⟨by rfl, ?_⟩) ?_ ?_
          rotate_left
          · intro w'
            go_simp
            with_reducible rfl
          rotate_left
          · simp only [Act.put, List.setIfInBounds_toArray, List.set_cons_zero, List.set_cons_succ, i64_w, i32_w, IntKind.wrap_u8]
            rfl
          refine pure_ (i := 8) (N := some 18) (v := ?_) (a' := ?_) #[true, true, true, true, true, true, false, false, true, false, false, false] rfl rfl (any_of HT_.out (by kernel_rfl)) (fun _ _ _ h => h) (Or.inl ⟨by rfl, ?_⟩) ?_ ?_
          rotate_left
          · intro w'
            go_simp
            with_reducible rfl
          rotate_left
          · simp only [Act.put, List.setIfInBounds_toArray, List.set_cons_zero, List.set_cons_succ, i64_w, i32_w, IntKind.wrap_u8]
            rfl
          refine take_ (i := 6) (N := some 16) (v := ?_) (a' := ?_) #[true, true, true, true, true, true, true, false, true, false, false, false] rfl rfl (take_ofW HT_.out HW_.out (by kernel_rfl)) (fun _ _ _ h => h) (Or.inl ⟨by rfl, ?_⟩) hHeld ?_ ?_
          rotate_left
          · rintro w' ⟨s0, s1, s2, s3, s4⟩
            go_simp
            with_reducible rfl
          rotate_left
          · simp only [Act.put, List.setIfInBounds_toArray, List.set_cons_zero, List.set_cons_succ, i64_w, i32_w, IntKind.wrap_u8]
            rfl
          refine pure_ (i := 7) (N := some 17) (v := ?_) (a' := ?_) #[true, true, true, true, true, true, true, true, true, false, false, false] rfl rfl (any_of HT_.out (by kernel_rfl)) (fun _ _ _ h => h) (Or.inl ⟨by rfl, ?_⟩) ?_ ?_
          rotate_left
          · intro w'
            go_simp
            with_reducible rfl
          rotate_left
          · simp only [Act.put, List.setIfInBounds_toArray, List.set_cons_zero, List.set_cons_succ, i64_w, i32_w, IntKind.wrap_u8]
            rfl
          refine one_ (i := 9) (N := none) #[true, true, true, true, true, true, true, true, true, true, false, false] rfl rfl (one_of HT_.out (by kernel_rfl)) (by decide) (fun K hK => ?_)
          refine skip_ (w1 := ?_) (by rfl) rfl ?_ ?_
          rotate_left
          · go_simp
            rfl
          refine hK.out _ _ ⟨((cell_far (p := ⟨go6, _, none⟩) (fun e_ => Kd.R_ne HO222.out BK218.out (by decide) (congrArg some e_)) _).trans (hHeld.1)), ((cell_far (p := ⟨go6, _, none⟩) (fun e_ => Kd.R_ne HO222.out BK218.out (by decide) (congrArg some e_)) _).trans (hHeld.2.1)), ((cell_far (p := ⟨go6, _, none⟩) (fun e_ => Kd.R_ne HO222.out BK218.out (by decide) (congrArg some e_)) _).trans (hHeld.2.2.1)), ((cell_far (p := ⟨go6, _, none⟩) (fun e_ => Kd.R_ne HO222.out BK218.out (by decide) (congrArg some e_)) _).trans (hHeld.2.2.2.1)), ((cell_far (p := ⟨go6, _, none⟩) (fun e_ => Kd.R_ne HO222.out BK218.out (by decide) (congrArg some e_)) _).trans (hHeld.2.2.2.2))⟩ (fun hHeld => ?_)
          clear hK K
          refine pure_ (i := 10) (N := some 19) (v := ?_) (a' := ?_) #[true, true, true, true, true, true, true, true, true, true, true, false] rfl rfl (any_of HT_.out (by kernel_rfl)) (fun _ _ _ h => h) (Or.inl ⟨by rfl, ?_⟩) ?_ ?_
          rotate_left
          · intro w'
            go_simp
            with_reducible rfl
          rotate_left
          · simp only [Act.put, List.setIfInBounds_toArray, List.set_cons_zero, List.set_cons_succ, i64_w, i32_w, IntKind.wrap_u8]
            rfl
          refine one_ (i := 11) (N := none) #[true, true, true, true, true, true, true, true, true, true, true, true] rfl rfl (one_of HT_.out (by kernel_rfl)) (by decide) (fun K hK => ?_)
          refine skip_ (w1 := ?_) (by rfl) rfl ?_ ?_
          rotate_left
          · go_simp
            rfl
          refine hK.out _ _ ⟨((cell_far (p := ⟨go6, _, none⟩) (fun e_ => Kd.R_ne HO222.out BK218.out (by decide) (congrArg some e_)) _).trans (hHeld.1)), ((cell_far (p := ⟨go6, _, none⟩) (fun e_ => Kd.R_ne HO222.out BK218.out (by decide) (congrArg some e_)) _).trans (hHeld.2.1)), ((cell_far (p := ⟨go6, _, none⟩) (fun e_ => Kd.R_ne HO222.out BK218.out (by decide) (congrArg some e_)) _).trans (hHeld.2.2.1)), ((cell_far (p := ⟨go6, _, none⟩) (fun e_ => Kd.R_ne HO222.out BK218.out (by decide) (congrArg some e_)) _).trans (hHeld.2.2.2.1)), ((cell_far (p := ⟨go6, _, none⟩) (fun e_ => Kd.R_ne HO222.out BK218.out (by decide) (congrArg some e_)) _).trans (hHeld.2.2.2.2))⟩ (fun hHeld => ?_)
          clear hK K
          refine done_ (done_of HT_.out (by kernel_rfl)) ?_
          have n0_ : Aside0 (Kd.R (Kd.int .u8) 5 ((w15.setCell ⟨go6, 0, none⟩ (.int .u8 ((a0_0) % 256))).setCell ⟨go6, 1, none⟩ (.int .u8 ((a0_1) % 256))) w.heap.size (fun _ => True) (.slice (some ⟨go6, 0, none⟩) y220.length co6) y224) := ⟨by (with_reducible repeat (first | apply Kd.R_alloc | apply Kd.R_drewN | apply Kd.R_drew)); exact HQ17.out⟩
          have n1_ : Aside0 (((w15.setCell ⟨go6, 0, none⟩ (.int .u8 ((a0_0) % 256))).setCell ⟨go6, 1, none⟩ (.int .u8 ((a0_1) % 256))).heap[gb218]? = some (.cells #[.int .i64 a0_0, .int .i64 a0_1, .int .i64 a0_2, .slice A0_3 l0_3.length c0_3, .int .i64 a0_4] 65 (0, 0))) := ⟨by (with_reducible repeat (first | refine blk_drewN ?_ _ | refine blk_drew ?_ | refine blk_alloc ?_ _)); refine blk_far ?_ (by have h_ := Kd.R_ne HO222.out BK218.out (by decide); intro e_; exact h_ (by rw [e_]; rfl)) _; (with_reducible repeat (first | refine blk_drewN ?_ _ | refine blk_drew ?_ | refine blk_alloc ?_ _)); refine blk_far ?_ (by have h_ := Kd.R_ne HO222.out BK218.out (by decide); intro e_; exact h_ (by rw [e_]; rfl)) _; (with_reducible repeat (first | refine blk_drewN ?_ _ | refine blk_drew ?_ | refine blk_alloc ?_ _)); exact BK218.out⟩
          have n2_ : Aside0 (Below w.heap.size w ((w15.setCell ⟨go6, 0, none⟩ (.int .u8 ((a0_0) % 256))).setCell ⟨go6, 1, none⟩ (.int .u8 ((a0_1) % 256)))) := ⟨by repeat (first | (with_reducible first | exact HB.out | apply below_alloc | apply pw_below_drewN | apply below_drew1 | refine below_set ?_ GB6.out | refine below_set ?_ GB6.out | refine below_set ?_ GE218.out) | exact HB.out)⟩
          (try clear HO222)
          (try clear BK218)
          (try clear HB)
          generalize ((w15.setCell ⟨go6, 0, none⟩ (.int .u8 ((a0_0) % 256))).setCell ⟨go6, 1, none⟩ (.int .u8 ((a0_1) % 256))) = w18 at n0_ n1_ n2_ ⊢
          have HO222 := n0_
          have BK218 := n1_
          have HB := n2_
          clear n0_ n1_ n2_
          have hcz19_0 : w18.cell? ⟨gb218, 0, none⟩ = some (.int .i64 a0_0) := (blk_cell BK218.out 0).trans rfl
          have hcz19_1 : w18.cell? ⟨gb218, 1, none⟩ = some (.int .i64 a0_1) := (blk_cell BK218.out 1).trans rfl
          have hcz19_2 : w18.cell? ⟨gb218, 2, none⟩ = some (.int .i64 a0_2) := (blk_cell BK218.out 2).trans rfl
          have hcz19_3 : w18.cell? ⟨gb218, 3, none⟩ = some (.slice A0_3 l0_3.length c0_3) := (blk_cell BK218.out 3).trans rfl
          have hcz19_4 : w18.cell? ⟨gb218, 4, none⟩ = some (.int .i64 a0_4) := (blk_cell BK218.out 4).trans rfl
          have hfz19_0 := blk_frozen BK218.out 0
          have hfz19_1 := blk_frozen BK218.out 1
          have hfz19_2 := blk_frozen BK218.out 2
          have hfz19_3 := blk_frozen BK218.out 3
          have hfz19_4 := blk_frozen BK218.out 4
          try go_wp2_with (first | ((with_reducible refine gate_callee (f := 54) rfl ?_); refine goesL_ (some 23) rfl rfl Try.func54 (by kernel_rfl) rfl #[.slice (some ⟨go6, 0, none⟩) y220.length co6, .int .i64 2, .int .i64 a0_2, .int .i64 2] rfl (by (try simp only [List.map_toArray, List.map_cons, List.map_nil]); first | done | rfl | (simp only [List.length_drop, List.length_take]; rfl)) ?_; (with_reducible refine (impl_put.calls k (fun k_ => some k_ = (.slice (some ⟨go6, 0, none⟩) y220.length co6 : Value).ownBlock) (.slice (some ⟨go6, 0, none⟩) y220.length co6) y224 2 a0_2 2 t225 w _ ?side1 ?side2 A9.out).mono ?_); (case side1 => repeat (first | (with_reducible first | exact HB.out | apply below_alloc | apply pw_below_drewN | apply below_drew1 | refine below_set ?_ GE218.out) | exact HB.out)); (case side2 => exact Kd.R_tight rfl HO222.out); rintro e w20 ⟨rfl, hy0, hb, hkp⟩; refine ⟨_, rfl, ?_⟩; have n0_ := Aside0.mk (blk_kept (by (with_reducible repeat (first | refine blk_drewN ?_ _ | refine blk_drew ?_ | refine blk_alloc ?_ _)); exact BK218.out) hkp (fun hs_ => (fun e_ => (Kd.R_ne HO222.out BK218.out (by decide)) e_) hs_)); have n1_ := Aside0.mk (Kd.R_reok rfl hy0 (fun k_ e_ => HO222.out.1 k_ e_)); have n2_ := Aside0.mk (hb); clear BK218; clear HO222; clear HB; have BK218 := n0_; have HO222 := n1_; have HB := n2_; clear n0_ n1_ n2_; (try clear hb); (try clear hkp); (try clear hy0); have hcz21_0 : w20.cell? ⟨gb218, 0, none⟩ = some (.int .i64 a0_0) := (blk_cell BK218.out 0).trans rfl; have hcz21_1 : w20.cell? ⟨gb218, 1, none⟩ = some (.int .i64 a0_1) := (blk_cell BK218.out 1).trans rfl; have hcz21_2 : w20.cell? ⟨gb218, 2, none⟩ = some (.int .i64 a0_2) := (blk_cell BK218.out 2).trans rfl; have hcz21_3 : w20.cell? ⟨gb218, 3, none⟩ = some (.slice A0_3 l0_3.length c0_3) := (blk_cell BK218.out 3).trans rfl; have hcz21_4 : w20.cell? ⟨gb218, 4, none⟩ = some (.int .i64 a0_4) := (blk_cell BK218.out 4).trans rfl; have hfz21_0 := blk_frozen BK218.out 0; have hfz21_1 := blk_frozen BK218.out 1; have hfz21_2 := blk_frozen BK218.out 2; have hfz21_3 := blk_frozen BK218.out 3; have hfz21_4 := blk_frozen BK218.out 4))
          go_loopg [27] k (fun kq v27 w' => ∃ (x3_1 : List Int) (x27_1 : Int), v27 = .int .i64 x27_1 ∧ Aside0 (impl_EncodeInode.l0 kq x3_1 l0_3 (l0_3.length : Int) x27_1 a0_0 a0_1 a0_2 l0_3 a0_4 = some r) ∧ Aside0 (kq ≤ k) ∧ Aside0 (Kd.R (Kd.int .u8) 5 w' w.heap.size (fun _ => True) (.slice (some ⟨go6, 0, none⟩) y220.length co6) x3_1) ∧ Aside0 (w'.heap[gb218]? = some (.cells #[.int .i64 a0_0, .int .i64 a0_1, .int .i64 a0_2, (.slice A0_3 l0_3.length c0_3), .int .i64 a0_4] 65 (0, 0))) ∧ Aside0 (Below w.heap.size w w'))
          case atStart => exact ⟨(t225), (0), (by first | rfl | (simp; done) | (simp [*]; done)), H', ⟨Nat.le_refl _⟩, ⟨by (with_reducible repeat (first | apply Kd.R_alloc | apply Kd.R_drewN | apply Kd.R_drew)); exact HO222.out⟩, ⟨by (with_reducible repeat (first | refine blk_drewN ?_ _ | refine blk_drew ?_ | refine blk_alloc ?_ _)); exact BK218.out⟩, ⟨by repeat (first | (with_reducible first | exact HB.out | apply below_alloc | apply pw_below_drewN | apply below_drew1 | refine below_set ?_ GE218.out) | exact HB.out)⟩⟩
          case round =>
            clear H'
            try clear p2
            try clear c3
            try clear c4
            try clear c4b0
            try clear c4b1
            try clear c5
            try clear c5b0
            try clear c5b1
            try clear p6
            try clear q6
            try clear hx6
            try clear qi6
            try clear hf6
            try clear c7
            try clear c7b0
            try clear c7b1
            try clear p8
            try clear q8
            try clear hx8
            try clear qi8
            try clear hf8
            try clear hcz11_0
            try clear hcz11_1
            try clear hcz11_2
            try clear hcz11_3
            try clear hcz11_4
            try clear hcz19_0
            try clear hcz19_1
            try clear hcz19_2
            try clear hcz19_3
            try clear hcz19_4
            try clear hcz21_0
            try clear hcz21_1
            try clear hcz21_2
            try clear hcz21_3
            try clear hcz21_4
            try clear hfz11_0
            try clear hfz11_1
            try clear hfz11_2
            try clear hfz11_3
            try clear hfz11_4
            try clear hfz19_0
            try clear hfz19_1
            try clear hfz19_2
            try clear hfz19_3
            try clear hfz19_4
            try clear hfz21_0
            try clear hfz21_1
            try clear hfz21_2
            try clear hfz21_3
            try clear hfz21_4
            try clear hx6_0
            try clear hx8_0
            try clear p6
            try clear p8
            try clear q6
            try clear q8
            obtain ⟨x3_1, x27_1, rfl, HA, HK1, HO_3, BK218, HB⟩ := hrel
            have hl3_1 := (Kd.R_reads' HO_3.out).1
            rw [hl3_1] at HO_3
            (try simp only [hl3_1])
            (try simp only [hl3_1] at BK218)
            cases gk with
            | zero => exact absurd HA.out (by simp [impl_EncodeInode.l0])
            | succ k1 =>
              have H := HA.out
              clear HA
              simp only [impl_EncodeInode.l0] at H
              by_cases c22 : x27_1 < (l0_3.length : Int)
              · rw [if_pos c22] at H
                have c22b0 : decide (x27_1 < (l0_3.length : Int)) = true := decide_eq_true c22
                clear c22
                by_cases c23 : 0 ≤ x27_1
                · rw [if_pos c23] at H
                  have c23b0 : decide (0 ≤ x27_1) = true := decide_eq_true c23
                  clear c23
                  by_cases c24 : x27_1 < (l0_3.length : Int)
                  · rw [if_pos c24] at H
                    have c24b0 : decide (x27_1 < (l0_3.length : Int)) = true := decide_eq_true c24
                    clear c24
                    replace H := Option.bind_eq_some_iff.mp H
                    obtain ⟨t227, A250, H⟩ := H
                    replace H : (impl_EncodeInode.l0 k1 t227 l0_3 (l0_3.length : Int) (wrap64 (x27_1 + 1)) a0_0 a0_1 a0_2 l0_3 a0_4) = some r := H
                    have A25 := Aside0.mk A250
                    clear A250
                    have H' := Aside0.mk H
                    clear H
                    have p226 : 0 ≤ (x27_1 : Int) := of_decide_eq_true (by first | (with_reducible assumption) | assumption)
                    have q226 : x27_1 < (l0_3.length : Int) := of_decide_eq_true (by first | (with_reducible assumption) | assumption)
                    obtain ⟨ad226, e226, hx226_0⟩ := Kd.at_int HR0_3.out x27_1 p226 q226
                    cases e226
                    replace hx226_0 := (HB.out.cell (World.block_lt_of_cell? w _ hx226_0)).trans hx226_0
                    replace p226 := eq_true p226
                    replace q226 := eq_true q226
                    go_wp2_with (first | ((with_reducible refine gate_callee (f := 54) rfl ?_); refine goesL_ (some 37) rfl rfl Try.func54 (by kernel_rfl) rfl #[.slice (some ⟨go6, 0, none⟩) x3_1.length co6, .int .i64 (wrap64 (4 + (wrap64 (2 * x27_1)))), .int .i64 (rd l0_3 x27_1), .int .i64 2] rfl (by (try simp only [List.map_toArray, List.map_cons, List.map_nil]); first | done | rfl | (simp only [List.length_drop, List.length_take]; rfl)) ?_; (with_reducible refine (impl_put.calls k1 (fun k_ => some k_ = (.slice (some ⟨go6, 0, none⟩) x3_1.length co6 : Value).ownBlock) (.slice (some ⟨go6, 0, none⟩) x3_1.length co6) x3_1 (wrap64 (4 + (wrap64 (2 * x27_1)))) (rd l0_3 x27_1) 2 t227 w _ ?side1 ?side2 A25.out).mono ?_); (case side1 => repeat (first | (with_reducible first | exact HB.out | apply below_alloc | apply pw_below_drewN | apply below_drew1 | refine below_set ?_ GE218.out) | exact HB.out)); (case side2 => exact Kd.R_tight rfl HO_3.out); rintro e w26 ⟨rfl, hy0, hb, hkp⟩; refine ⟨_, rfl, ?_⟩; have n0_ := Aside0.mk (Kd.R_reok rfl hy0 (fun k_ e_ => HO_3.out.1 k_ e_)); have n1_ := Aside0.mk (blk_kept (by (with_reducible repeat (first | refine blk_drewN ?_ _ | refine blk_drew ?_ | refine blk_alloc ?_ _)); exact BK218.out) hkp (fun hs_ => (fun e_ => (Kd.R_ne HO_3.out BK218.out (by decide)) e_) hs_)); have n2_ := Aside0.mk (hb); clear HO_3; clear BK218; clear HB; have HO_3 := n0_; have BK218 := n1_; have HB := n2_; clear n0_ n1_ n2_; (try clear hb); (try clear hkp); (try clear hy0)))
                    (try simp only [← hl3_1])
                    go_roundg k1
                    case measure => have := HK1.out; omega
                    case rel => exact ⟨(t227), (wrap64 (x27_1 + 1)), (by first | rfl | (simp; done) | (simp [*]; done)), H', ⟨by have := HK1.out; omega⟩, ⟨by (try simp only [hl3_1]); (with_reducible repeat (first | apply Kd.R_alloc | apply Kd.R_drewN | apply Kd.R_drew)); exact HO_3.out⟩, ⟨by (try simp only [hl3_1]); (with_reducible repeat (first | refine blk_drewN ?_ _ | refine blk_drew ?_ | refine blk_alloc ?_ _)); exact BK218.out⟩, ⟨by repeat (first | (with_reducible first | exact HB.out | apply below_alloc | apply pw_below_drewN | apply below_drew1 | refine below_set ?_ GE218.out) | exact HB.out)⟩⟩
                  · rw [if_neg c24] at H
                    exact absurd H (by simp)
                · rw [if_neg c23] at H
                  exact absurd H (by simp)
              · rw [if_neg c22] at H
                have c22b0 : decide (x27_1 < (l0_3.length : Int)) = false := decide_eq_false c22
                clear c22
                replace H := Option.bind_eq_some_iff.mp H
                obtain ⟨t228, A270, H⟩ := H
                replace H : (some t228) = some r := H
                have A27 := Aside0.mk A270
                clear A270
                obtain rfl := Option.some.inj H
                have hcz28_0 : wr.cell? ⟨gb218, 0, none⟩ = some (.int .i64 a0_0) := (blk_cell BK218.out 0).trans rfl
                have hcz28_1 : wr.cell? ⟨gb218, 1, none⟩ = some (.int .i64 a0_1) := (blk_cell BK218.out 1).trans rfl
                have hcz28_2 : wr.cell? ⟨gb218, 2, none⟩ = some (.int .i64 a0_2) := (blk_cell BK218.out 2).trans rfl
                have hcz28_3 : wr.cell? ⟨gb218, 3, none⟩ = some (.slice A0_3 l0_3.length c0_3) := (blk_cell BK218.out 3).trans rfl
                have hcz28_4 : wr.cell? ⟨gb218, 4, none⟩ = some (.int .i64 a0_4) := (blk_cell BK218.out 4).trans rfl
                have hfz28_0 := blk_frozen BK218.out 0
                have hfz28_1 := blk_frozen BK218.out 1
                have hfz28_2 := blk_frozen BK218.out 2
                have hfz28_3 := blk_frozen BK218.out 3
                have hfz28_4 := blk_frozen BK218.out 4
                go_wp2_with (first | ((with_reducible refine gate_callee (f := 54) rfl ?_); refine goesL_ (some 42) rfl rfl Try.func54 (by kernel_rfl) rfl #[.slice (some ⟨go6, 0, none⟩) x3_1.length co6, .int .i64 20, .int .i64 a0_4, .int .i64 2] rfl (by (try simp only [List.map_toArray, List.map_cons, List.map_nil]); first | done | rfl | (simp only [List.length_drop, List.length_take]; rfl)) ?_; (with_reducible refine (impl_put.calls k1 (fun k_ => some k_ = (.slice (some ⟨go6, 0, none⟩) x3_1.length co6 : Value).ownBlock) (.slice (some ⟨go6, 0, none⟩) x3_1.length co6) x3_1 20 a0_4 2 t228 w _ ?side1 ?side2 A27.out).mono ?_); (case side1 => repeat (first | (with_reducible first | exact HB.out | apply below_alloc | apply pw_below_drewN | apply below_drew1 | refine below_set ?_ GE218.out) | exact HB.out)); (case side2 => exact Kd.R_tight rfl HO_3.out); rintro e w29 ⟨rfl, hy0, hb, hkp⟩; refine ⟨_, rfl, ?_⟩; have n0_ := Aside0.mk (Kd.R_reok rfl hy0 (fun k_ e_ => HO_3.out.1 k_ e_)); have n1_ := Aside0.mk (blk_kept (by (with_reducible repeat (first | refine blk_drewN ?_ _ | refine blk_drew ?_ | refine blk_alloc ?_ _)); exact BK218.out) hkp (fun hs_ => (fun e_ => (Kd.R_ne HO_3.out BK218.out (by decide)) e_) hs_)); have n2_ := Aside0.mk (hb); clear HO_3; clear BK218; clear HB; have HO_3 := n0_; have BK218 := n1_; have HB := n2_; clear n0_ n1_ n2_; (try clear hb); (try clear hkp); (try clear hy0)))
                go_ret
                exact ⟨_, by first | rfl | (simp [errW_none, errW_some] <;> rfl) | (simp [*, errW_none, errW_some] <;> rfl), by (with_reducible repeat (first | apply Kd.R_alloc | apply Kd.R_drewN | apply Kd.R_drew)); exact HO_3.out, by repeat (first | (with_reducible first | exact HB.out | apply below_alloc | apply pw_below_drewN | apply below_drew1 | refine below_set ?_ GE218.out) | exact HB.out)⟩
        · rw [if_neg c7] at H
          exact absurd H (by simp)
      · rw [if_neg c5] at H
        exact absurd H (by simp)
    · rw [if_neg c4] at H
      exact absurd H (by simp)
  · replace c3 := Bool.eq_false_iff.mpr c3
    subst c3
    have H1 : (some ([] : List Int)) = some r := by rw [if_neg (show ¬ (false = true) by decide)] at H; exact H
    clear H
    have H := H1
    clear H1
    obtain rfl := Option.some.inj H
    go_enter Try.func41, Try.ntmps41
    go_wp2_with (first | ((with_reducible refine gate_dst (N := 1) rfl ?_); refine box_event ?hg (N := 1) ?hd (cs := #[.int .i64 a0_0, .int .i64 a0_1, .int .i64 a0_2, .slice A0_3 l0_3.length c0_3, .int .i64 a0_4]) (t := 65) ?hr ?_; (case hd => rfl); (case hg => rfl); (case hr => first | (go_simp; done) | (go_simp; rfl)); intro gb218 hg w30 hbox hb; have n0_ := Aside0.mk (below_step (by repeat (first | (with_reducible first | exact HB.out | apply below_alloc | apply pw_below_drewN | apply below_drew1) | exact HB.out)) hb); have n1_ := Aside0.mk (hbox); have n2_ := Aside0.mk ((by rw [hg]; exact (below_size (by repeat (first | (with_reducible first | exact HB.out | apply below_alloc | apply pw_below_drewN | apply below_drew1) | exact HB.out))) : w.heap.size ≤ gb218)); have n3_ := Aside0.mk ((by rw [hg]; exact (below_size (by repeat (first | (with_reducible first | exact HB.out | apply below_alloc | apply pw_below_drewN | apply below_drew1) | exact HB.out))) : w.heap.size ≤ gb218)); clear HB; have HB := n0_; have BK218 := n1_; have GW218 := n2_; have GE218 := n3_; clear n0_ n1_ n2_ n3_; clear hb hbox hg; have hcz31_0 : w30.cell? ⟨gb218, 0, none⟩ = some (.int .i64 a0_0) := (blk_cell BK218.out 0).trans rfl; have hcz31_1 : w30.cell? ⟨gb218, 1, none⟩ = some (.int .i64 a0_1) := (blk_cell BK218.out 1).trans rfl; have hcz31_2 : w30.cell? ⟨gb218, 2, none⟩ = some (.int .i64 a0_2) := (blk_cell BK218.out 2).trans rfl; have hcz31_3 : w30.cell? ⟨gb218, 3, none⟩ = some (.slice A0_3 l0_3.length c0_3) := (blk_cell BK218.out 3).trans rfl; have hcz31_4 : w30.cell? ⟨gb218, 4, none⟩ = some (.int .i64 a0_4) := (blk_cell BK218.out 4).trans rfl; have hfz31_0 := blk_frozen BK218.out 0; have hfz31_1 := blk_frozen BK218.out 1; have hfz31_2 := blk_frozen BK218.out 2; have hfz31_3 := blk_frozen BK218.out 3; have hfz31_4 := blk_frozen BK218.out 4) | ((with_reducible refine gate_callee (f := 50) rfl ?_); refine goesL_ (some 7) rfl rfl Try.func50 (by kernel_rfl) rfl #[.agg #[.int .i64 a0_0, .int .i64 a0_1, .int .i64 a0_2, .slice A0_3 l0_3.length c0_3, .int .i64 a0_4]] rfl (by (try simp only [List.map_toArray, List.map_cons, List.map_nil]); first | done | rfl | (simp only [List.length_drop, List.length_take]; rfl)) ?_; (with_reducible refine (impl_ValidInode.calls k a0_0 a0_1 a0_2 _ _ l0_3 a0_4 false _ ?side1 ?side2 A2.out).mono ?_); (case side1 => repeat (first | exact (Kd.C_below HR0_3.out HB.out) | (with_reducible refine Kd.C_alloc ?_ _) | (with_reducible refine Kd.C_drewN ?_ _) | (with_reducible refine Kd.C_drew ?_))); (case side2 => exact HC0_3.out); rintro e w32 ⟨rfl, hb⟩; refine ⟨_, rfl, ?_⟩; have n0_ := Aside0.mk (blk_below (g := gb218) (o := .cells #[.int .i64 a0_0, .int .i64 a0_1, .int .i64 a0_2, .slice A0_3 l0_3.length c0_3, .int .i64 a0_4] 65 (0, 0)) (by (with_reducible repeat (first | refine blk_drewN ?_ _ | refine blk_drew ?_ | refine blk_alloc ?_ _)); exact BK218.out) hb); have n1_ := Aside0.mk (below_step (by repeat (first | (with_reducible first | exact HB.out | apply below_alloc | apply pw_below_drewN | apply below_drew1 | refine below_set ?_ GE218.out) | exact HB.out)) hb); clear BK218; clear HB; have BK218 := n0_; have HB := n1_; clear n0_ n1_; (try clear hb); (try clear hb2); (try clear hk); (try clear hi)))
    go_ret
    exact ⟨_, by first | rfl | (simp [errW_none, errW_some] <;> rfl) | (simp [*, errW_none, errW_some] <;> rfl), by first | exact Kd.R_nil _ _ _ _ _ | exact Kd.N_nil _ _ _ _ _ | exact Kd.V_nil _ _ _ _ _ | exact Kd.Q_nil _ _ _ _ _ | exact Kd.S_nil _ _ _ _ _, by repeat (first | (with_reducible first | exact HB.out | apply below_alloc | apply pw_below_drewN | apply below_drew1 | refine below_set ?_ GE218.out) | exact HB.out)⟩

end Go.Proofs.Ytplefdkookhlhaa.PFnExactDecodeInode
