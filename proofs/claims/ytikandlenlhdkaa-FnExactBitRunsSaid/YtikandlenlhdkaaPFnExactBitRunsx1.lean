-- written by a program of this session (wip/src/print2.py)
import Derived.Test.YtikandlenlhdkaaPFnExactBitRunsx0
namespace Go.Proofs.Ytikandlenlhdkaa.PFnExactBitRuns
open Go.RowKit Go.Proofs.YtikandlenlhdkaaW.PrintWords Go.Proofs.YtikandlenlhdkaaW.PrintLast Go.Proofs.YtikandlenlhdkaaW.PrintMore
attribute [local go_sem] max2_int min2_int max_two min_two max_three min_three max_four min_four   -- for this text's walks alone
set_option linter.unusedVariables false
set_option linter.unusedSimpArgs false

/-! ### spec_BitGet: function 19 -/
mutual
def spec_BitGet.j0 : Nat → List Int → Int → Bool → Option (Bool)
  | 0, _, _, _ => none
  | k + 1, x0, x1, x20 => if x20 = true then (some false) else (if 0 ≤ (wrap64 (Int.tdiv x1 8)) then (if (wrap64 (Int.tdiv x1 8)) < (x0.length : Int) then (spec_BitGet.l0 k (rd x0 (wrap64 (Int.tdiv x1 8))) (Int.tmod x1 8)) else (none)) else (none))
def spec_BitGet.l0 : Nat → Int → Int → Option (Bool)
  | 0, _, _ => none
  | k + 1, x5, x6 => if x6 > 0 then (spec_BitGet.l0 k ((Int.tdiv x5 2) % 256) (wrap64 (x6 - 1))) else (some ((Int.tmod x5 2) == 1))
end
def spec_BitGet.f (k : Nat) (l0 : List Int) (a1 : Int) : Option (Bool) := if (l0.length : Int) > 2048 then (spec_BitGet.j0 k l0 a1 true) else (if a1 < 0 then (spec_BitGet.j0 k l0 a1 true) else (spec_BitGet.j0 k l0 a1 (decide (a1 ≥ (wrap64 (8 * (l0.length : Int)))))))
theorem spec_BitGet.mono_l : ∀ k, (∀ y0 y1 y2, LeO (spec_BitGet.j0 k y0 y1 y2) (spec_BitGet.j0 (k + 1) y0 y1 y2)) ∧ (∀ y0 y1, LeO (spec_BitGet.l0 k y0 y1) (spec_BitGet.l0 (k + 1) y0 y1))
  | 0 => ⟨fun _ _ _ r h => by simp [spec_BitGet.j0] at h, fun _ _ r h => by simp [spec_BitGet.l0] at h⟩
  | k + 1 => by
    obtain ⟨ih0, ih1⟩ := spec_BitGet.mono_l k
    refine ⟨?_, ?_⟩
    · intro y0 y1 y2
      unfold spec_BitGet.j0
      repeat' first
      | (with_reducible exact ih0 _ _ _)
      | (with_reducible exact ih1 _ _)
      | (with_reducible exact LeO.refl _)
      | (with_reducible exact LeO.none _)
      | (with_reducible refine LeO.ite ?_ ?_)
      | (with_reducible refine LeO.bind ?_ (fun _ => ?_))
      | exact ih0 _ _ _
      | exact ih1 _ _
      | exact LeO.none _
      | refine LeO.ite ?_ ?_
      | refine LeO.bind ?_ (fun _ => ?_)
    · intro y0 y1
      unfold spec_BitGet.l0
      repeat' first
      | (with_reducible exact ih0 _ _ _)
      | (with_reducible exact ih1 _ _)
      | (with_reducible exact LeO.refl _)
      | (with_reducible exact LeO.none _)
      | (with_reducible refine LeO.ite ?_ ?_)
      | (with_reducible refine LeO.bind ?_ (fun _ => ?_))
      | exact ih0 _ _ _
      | exact ih1 _ _
      | exact LeO.none _
      | refine LeO.ite ?_ ?_
      | refine LeO.bind ?_ (fun _ => ?_)
theorem spec_BitGet.mono : ∀ a0 a1 k, LeO (spec_BitGet.f k a0 a1) (spec_BitGet.f (k + 1) a0 a1) := by
  intro a0 a1 k
  obtain ⟨ih0, ih1⟩ := spec_BitGet.mono_l k
  unfold spec_BitGet.f
  repeat' first
      | (with_reducible exact ih0 _ _ _)
      | (with_reducible exact ih1 _ _)
      | (with_reducible exact LeO.refl _)
      | (with_reducible exact LeO.none _)
      | (with_reducible refine LeO.ite ?_ ?_)
      | (with_reducible refine LeO.bind ?_ (fun _ => ?_))
      | exact ih0 _ _ _
      | exact ih1 _ _
      | exact LeO.none _
      | refine LeO.ite ?_ ?_
      | refine LeO.bind ?_ (fun _ => ?_)
set_option maxHeartbeats 8000000 in
set_option maxRecDepth 100000 in
theorem spec_BitGet.calls (k : Nat) (A0 : Option Addr) (c0 : Nat) (l0 : List Int) (a1 : Int) (r : Bool) (w : World) (hr0 : Kd.C (Kd.int .u8) w A0 l0.length l0) (hc0 : l0.length ≤ c0) (h : spec_BitGet.f k l0 a1 = some r) :
    Calls Try.prog 19 #[.slice A0 l0.length c0, .int .i64 a1] w fun e w' => e = .returned (.bool r) ∧ Drawn0 w w' := by
  have HR0 := Aside0.mk hr0
  have HC0 := Aside0.mk hc0
  clear hr0 hc0
  have H : (if (l0.length : Int) > 2048 then (spec_BitGet.j0 k l0 a1 true) else (if a1 < 0 then (spec_BitGet.j0 k l0 a1 true) else (spec_BitGet.j0 k l0 a1 (decide (a1 ≥ (wrap64 (8 * (l0.length : Int)))))))) = some r := h
  clear h
  have HC3 := Aside0.mk H
  clear H
  go_enter Try.func19, Try.ntmps19
  go_upto_region 1 with (fail)
  go_cut [20] (fun v20 wc => ∃ (kq : Nat) (x20_2 : Bool), v20 = .bool x20_2 ∧ Aside0 (spec_BitGet.j0 kq l0 a1 x20_2 = some r) ∧ Aside0 (kq ≤ k) ∧ Drawn0 w wc)
  case first =>
    have H := HC3.out
    clear HC3
    by_cases c4 : (l0.length : Int) > 2048
    · rw [if_pos c4] at H
      have c4b0 : decide (2048 < (l0.length : Int)) = true := decide_eq_true c4
      have c4b1 : decide (2048 < l0.length) = true := decide_eq_true (by omega)
      clear c4
      (first | rw [c4b0] | (simp only [i64_w, i32_w]; rw [c4b0]) | skip)
      have H' := Aside0.mk H
      clear H
      go_wp2
      go_meet
      case rel => exact ⟨_, (true), (by first | rfl | (simp; done) | (simp [*]; done)), H', ⟨by first | omega | exact Nat.le_refl _⟩, by repeat (first | exact Drawn0.refl _ | apply Drawn0.step)⟩
    · rw [if_neg c4] at H
      have c4b0 : decide (2048 < (l0.length : Int)) = false := decide_eq_false c4
      have c4b1 : decide (2048 < l0.length) = false := decide_eq_false (by omega)
      clear c4
      (first | rw [c4b0] | (simp only [i64_w, i32_w]; rw [c4b0]) | skip)
      by_cases c5 : a1 < 0
      · rw [if_pos c5] at H
        have c5b0 : decide (a1 < 0) = true := decide_eq_true c5
        clear c5
        have H' := Aside0.mk H
        clear H
        go_wp2
        go_meet
        case rel => exact ⟨_, (true), (by first | rfl | (simp; done) | (simp [*]; done)), H', ⟨by first | omega | exact Nat.le_refl _⟩, by repeat (first | exact Drawn0.refl _ | apply Drawn0.step)⟩
      · rw [if_neg c5] at H
        have c5b0 : decide (a1 < 0) = false := decide_eq_false c5
        clear c5
        have H' := Aside0.mk H
        clear H
        go_wp2
        go_meet
        case rel => exact ⟨_, (decide (a1 ≥ (wrap64 (8 * (l0.length : Int))))), (by first | rfl | (simp; done) | (simp [*]; done)), H', ⟨by first | omega | exact Nat.le_refl _⟩, by repeat (first | exact Drawn0.refl _ | apply Drawn0.step)⟩
  case rest =>
    clear HC3
    try clear c1
    try clear p2
    try clear c4
    try clear c4b0
    try clear c4b1
    try clear c5
    try clear c5b0
    obtain ⟨kq, x20_2, rfl, HA, HJ2, ⟨mc2, rfl⟩⟩ := hcut
    cases kq with
    | zero => exact absurd HA.out (by simp [spec_BitGet.j0])
    | succ kj2 =>
      have H := HA.out
      clear HA
      simp only [spec_BitGet.j0] at H
      by_cases c6 : x20_2 = true
      · subst c6
        have H1 : (some false) = some r := by rw [if_pos rfl] at H; exact H
        clear H
        have H := H1
        clear H1
        obtain rfl := Option.some.inj H
        go_wp2
        go_ret
        exact ⟨by first | rfl | (simp; done) | (simp [*]; done), by repeat (first | exact Drawn0.refl _ | apply Drawn0.step)⟩
      · replace c6 := Bool.eq_false_iff.mpr c6
        subst c6
        have H1 : (if 0 ≤ (wrap64 (Int.tdiv a1 8)) then (if (wrap64 (Int.tdiv a1 8)) < (l0.length : Int) then (spec_BitGet.l0 kj2 (rd l0 (wrap64 (Int.tdiv a1 8))) (Int.tmod a1 8)) else (none)) else (none)) = some r := by rw [if_neg (show ¬ (false = true) by decide)] at H; exact H
        clear H
        have H := H1
        clear H1
        obtain ⟨ji7, hji7⟩ : ∃ j_ : Int, (wrap64 (Int.tdiv a1 8)) = j_ := ⟨_, rfl⟩
        replace H : (if 0 ≤ (ji7) then (if (ji7) < (l0.length : Int) then (spec_BitGet.l0 kj2 (rd l0 (ji7)) (Int.tmod a1 8)) else (none)) else (none)) = some r := by first | (rw [hji7] at H; exact H) | (simp only [hji7] at H ⊢; exact H)
        have hji7w : (IntKind.i64.wrap (Int.tdiv a1 8)) = ji7 := (i64_w _).trans hji7
        by_cases c8 : 0 ≤ (ji7)
        · rw [if_pos c8] at H
          have c8b0 : decide (0 ≤ (ji7)) = true := decide_eq_true c8
          clear c8
          by_cases c9 : (ji7) < (l0.length : Int)
          · rw [if_pos c9] at H
            have c9b0 : decide ((ji7) < (l0.length : Int)) = true := decide_eq_true c9
            clear c9
            have H' := Aside0.mk H
            clear H
            have p101 : 0 ≤ ((ji7) : Int) := of_decide_eq_true (by first | (with_reducible assumption) | assumption)
            have q101 : (ji7) < (l0.length : Int) := of_decide_eq_true (by first | (with_reducible assumption) | assumption)
            obtain ⟨ad101, e101, hx101_0⟩ := Kd.at_int HR0.out (ji7) p101 q101
            cases e101
            replace p101 := eq_true p101
            replace q101 := eq_true q101
            go_wp2
            go_loopg [5, 6] kj2 (fun kq v5 v6 w' => ∃ (x5_2 : Int) (x6_2 : Int), v5 = .int .u8 x5_2 ∧ v6 = .int .i64 x6_2 ∧ Aside0 (spec_BitGet.l0 kq x5_2 x6_2 = some r) ∧ Aside0 (kq ≤ kj2) ∧ Drawn0 w w')
            case atStart => exact ⟨(rd l0 (ji7)), (Int.tmod a1 8), (by first | rfl | (simp; done) | (simp only [← hji7] <;> (first | rfl | simp)) | (simp [*]; done)), (by first | rfl | (simp; done) | (simp [*]; done)), H', ⟨Nat.le_refl _⟩, by repeat (first | exact Drawn0.refl _ | apply Drawn0.step)⟩
            case round =>
              clear H'
              try clear c1
              try clear p1
              try clear q1
              try clear hx1
              try clear c2
              try clear p2
              try clear c4
              try clear c4b0
              try clear c4b1
              try clear c5
              try clear c5b0
              try clear c6
              try clear p6
              try clear c8
              try clear c8b0
              try clear c9
              try clear c9b0
              try clear hx101_0
              try clear p101
              try clear p2
              try clear q101
              obtain ⟨x5_2, x6_2, rfl, rfl, HA, HK2, ⟨m2, rfl⟩⟩ := hrel
              cases gk with
              | zero => exact absurd HA.out (by simp [spec_BitGet.l0])
              | succ k2 =>
                have H := HA.out
                clear HA
                simp only [spec_BitGet.l0] at H
                by_cases c10 : x6_2 > 0
                · rw [if_pos c10] at H
                  have c10b0 : decide (0 < x6_2) = true := decide_eq_true c10
                  clear c10
                  have H' := Aside0.mk H
                  clear H
                  go_wp2
                  go_roundg k2
                  case measure => have := HJ2.out; have := HK2.out; omega
                  case rel => exact ⟨((Int.tdiv x5_2 2) % 256), (wrap64 (x6_2 - 1)), (by first | rfl | (simp; done) | (simp [*]; done)), (by first | rfl | (simp; done) | (simp [*]; done)), H', ⟨by have := HJ2.out; have := HK2.out; omega⟩, by repeat (first | exact Drawn0.refl _ | apply Drawn0.step)⟩
                · rw [if_neg c10] at H
                  have c10b0 : decide (0 < x6_2) = false := decide_eq_false c10
                  clear c10
                  obtain rfl := Option.some.inj H
                  go_wp2
                  go_ret
                  exact ⟨by first | rfl | (simp; done) | (simp only [← hji7] <;> (first | rfl | simp)) | (simp [*]; done), by repeat (first | exact Drawn0.refl _ | apply Drawn0.step)⟩
          · rw [if_neg c9] at H
            exact absurd H (by simp)
        · rw [if_neg c8] at H
          exact absurd H (by simp)

/-! ### spec_l8Within: function 31 -/
def spec_l8Within.f (l0 : List Int) (a1 : Int) (a2 : Int) : Option (Int × Int) := if (l0.length : Int) > 2048 then (some (mx 0 a1, mn 0 a2)) else (some (mx 0 a1, mn (wrap64 (8 * (l0.length : Int))) a2))
set_option maxHeartbeats 8000000 in
set_option maxRecDepth 100000 in
theorem spec_l8Within.calls (A0 : Option Addr) (c0 : Nat) (l0 : List Int) (a1 : Int) (a2 : Int) (r1 : Int) (r2 : Int) (w : World) (hr0 : Kd.C (Kd.int .u8) w A0 l0.length l0) (hc0 : l0.length ≤ c0) (h : spec_l8Within.f l0 a1 a2 = some (r1, r2)) :
    Calls Try.prog 31 #[.slice A0 l0.length c0, .int .i64 a1, .int .i64 a2] w fun e w' => e = .returned (.tuple #[.int .i64 r1, .int .i64 r2]) ∧ Below w.heap.size w w' := by
  have HR0 := Aside0.mk hr0
  have HC0 := Aside0.mk hc0
  clear hr0 hc0
  have HB := Aside0.mk (Below.refl w.heap.size w)
  have H : (if (l0.length : Int) > 2048 then (some (mx 0 a1, mn 0 a2)) else (some (mx 0 a1, mn (wrap64 (8 * (l0.length : Int))) a2))) = some (r1, r2) := h
  clear h
  by_cases c4 : (l0.length : Int) > 2048
  · rw [if_pos c4] at H
    have c4b0 : decide (2048 < (l0.length : Int)) = true := decide_eq_true c4
    have c4b1 : decide (2048 < l0.length) = true := decide_eq_true (by omega)
    clear c4
    obtain ⟨ji5, hji5⟩ : ∃ j_ : Int, (mx 0 a1) = j_ := ⟨_, rfl⟩
    replace H : (some (ji5, mn 0 a2)) = some (r1, r2) := by first | (rw [hji5] at H; exact H) | (simp only [hji5] at H ⊢; exact H)
    (try (have hji5l : 0 ≤ ji5 := by (rw [← hji5]; unfold mx; (repeat' split) <;> omega)))
    (try (have hji5m : 0 ≤ ji5 := by omega))
    have hji5_ : (if 0 < a1 then a1 else 0) = ji5 := hji5
    obtain ⟨ji6, hji6⟩ : ∃ j_ : Int, (mn 0 a2) = j_ := ⟨_, rfl⟩
    replace H : (some (ji5, ji6)) = some (r1, r2) := by first | (rw [hji6] at H; exact H) | (simp only [hji6] at H ⊢; exact H)
    (try (have hji6h : ji6 ≤ 0 := by (rw [← hji6]; unfold mn; (repeat' split) <;> omega)))
    (try (have hji6g : ji6 ≤ 64 := by omega))
    have hji6_ : (if a2 < 0 then a2 else 0) = ji6 := hji6
    simp only [Option.some.injEq, Prod.mk.injEq] at H
    obtain ⟨rfl, rfl⟩ := H
    go_enter Try.func31, Try.ntmps31
    go_wp2
    go_ret2
    exact ⟨by first | rfl | (simp [errW_none, errW_some] <;> rfl) | (simp only [← hji5, ← hji6]; first | rfl | (simp [errW_none, errW_some] <;> rfl)) | (simp [*, errW_none, errW_some] <;> rfl), by repeat (first | (with_reducible first | exact HB.out | apply below_alloc | apply pw_below_drewN | apply below_drew1) | exact HB.out)⟩
  · rw [if_neg c4] at H
    have c4b0 : decide (2048 < (l0.length : Int)) = false := decide_eq_false c4
    have c4b1 : decide (2048 < l0.length) = false := decide_eq_false (by omega)
    clear c4
    obtain ⟨ji7, hji7⟩ : ∃ j_ : Int, (mx 0 a1) = j_ := ⟨_, rfl⟩
    replace H : (some (ji7, mn (wrap64 (8 * (l0.length : Int))) a2)) = some (r1, r2) := by first | (rw [hji7] at H; exact H) | (simp only [hji7] at H ⊢; exact H)
    (try (have hji7l : 0 ≤ ji7 := by (rw [← hji7]; unfold mx; (repeat' split) <;> omega)))
    (try (have hji7m : 0 ≤ ji7 := by omega))
    have hji7_ : (if 0 < a1 then a1 else 0) = ji7 := hji7
    obtain ⟨ji8, hji8⟩ : ∃ j_ : Int, (mn (wrap64 (8 * (l0.length : Int))) a2) = j_ := ⟨_, rfl⟩
    replace H : (some (ji7, ji8)) = some (r1, r2) := by first | (rw [hji8] at H; exact H) | (simp only [hji8] at H ⊢; exact H)
    have hji8_ : (if a2 < (wrap64 (8 * (l0.length : Int))) then a2 else (wrap64 (8 * (l0.length : Int)))) = ji8 := hji8
    simp only [Option.some.injEq, Prod.mk.injEq] at H
    obtain ⟨rfl, rfl⟩ := H
    go_enter Try.func31, Try.ntmps31
    go_wp2
    go_ret2
    exact ⟨by first | rfl | (simp [errW_none, errW_some] <;> rfl) | (simp only [← hji7, ← hji8]; first | rfl | (simp [errW_none, errW_some] <;> rfl)) | (simp [*, errW_none, errW_some] <;> rfl), by repeat (first | (with_reducible first | exact HB.out | apply below_alloc | apply pw_below_drewN | apply below_drew1) | exact HB.out)⟩

/-! ### spec_BitRuns: function 8 -/
def spec_BitRuns.l0 : Nat → List Int → Int → List (S35) → Int → Option ((List (S35)))
  | 0, _, _, _, _ => none
  | k + 1, x0, x8, x9, x10 => if x10 < x8 then ((spec_BitGet.f k x0 x10).bind fun t107 => (if t107 = true then (spec_BitRuns.l0 k x0 x8 x9 (wrap64 (x10 + 1))) else (if (x9.length : Int) > 0 then (if 0 ≤ (wrap64 ((x9.length : Int) - 1)) then (if (wrap64 ((x9.length : Int) - 1)) < (x9.length : Int) then (if (wrap64 (((rd_T35 x9 (wrap64 ((x9.length : Int) - 1))).f0) + ((rd_T35 x9 (wrap64 ((x9.length : Int) - 1))).f1))) = x10 then (spec_BitRuns.l0 k x0 x8 (x9.set ((wrap64 ((x9.length : Int) - 1)) : Int).toNat (⟨(rd_T35 x9 (wrap64 ((x9.length : Int) - 1))).f0, wrap64 (((rd_T35 x9 (wrap64 ((x9.length : Int) - 1))).f1) + 1)⟩ : S35)) (wrap64 (x10 + 1))) else (if x9.length < 8796093022208 then (spec_BitRuns.l0 k x0 x8 (x9 ++ [(⟨x10, 1⟩ : S35)]) (wrap64 (x10 + 1))) else (none))) else (none)) else (none)) else (if x9.length < 8796093022208 then (spec_BitRuns.l0 k x0 x8 (x9 ++ [(⟨x10, 1⟩ : S35)]) (wrap64 (x10 + 1))) else (none))))) else (some x9)
def spec_BitRuns.f (k : Nat) (l0 : List Int) (a1 : Int) (a2 : Int) : Option ((List (S35))) := (spec_l8Within.f l0 a1 a2).bind fun bt102 => (spec_BitRuns.l0 k l0 bt102.2 (([] : List (S35))) bt102.1)
theorem spec_BitRuns.mono_l : ∀ k, (∀ y0 y1 y2 y3, LeO (spec_BitRuns.l0 k y0 y1 y2 y3) (spec_BitRuns.l0 (k + 1) y0 y1 y2 y3))
  | 0 => fun _ _ _ _ r h => by simp [spec_BitRuns.l0] at h
  | k + 1 => by
    have ih0 := spec_BitRuns.mono_l k
    · intro y0 y1 y2 y3
      unfold spec_BitRuns.l0
      repeat' first
      | (with_reducible exact ih0 _ _ _ _)
      | (with_reducible exact spec_BitGet.mono _ _ _)
      | (with_reducible exact LeO.refl _)
      | (with_reducible exact LeO.none _)
      | (with_reducible refine LeO.ite ?_ ?_)
      | (with_reducible refine LeO.bind ?_ (fun _ => ?_))
      | exact ih0 _ _ _ _
      | exact spec_BitGet.mono _ _ _
      | exact LeO.none _
      | refine LeO.ite ?_ ?_
      | refine LeO.bind ?_ (fun _ => ?_)
theorem spec_BitRuns.mono : ∀ a0 a1 a2 k, LeO (spec_BitRuns.f k a0 a1 a2) (spec_BitRuns.f (k + 1) a0 a1 a2) := by
  intro a0 a1 a2 k
  have ih0 := spec_BitRuns.mono_l k
  unfold spec_BitRuns.f
  repeat' first
      | (with_reducible exact ih0 _ _ _ _)
      | (with_reducible exact spec_BitGet.mono _ _ _)
      | (with_reducible exact LeO.refl _)
      | (with_reducible exact LeO.none _)
      | (with_reducible refine LeO.ite ?_ ?_)
      | (with_reducible refine LeO.bind ?_ (fun _ => ?_))
      | exact ih0 _ _ _ _
      | exact spec_BitGet.mono _ _ _
      | exact LeO.none _
      | refine LeO.ite ?_ ?_
      | refine LeO.bind ?_ (fun _ => ?_)
set_option maxHeartbeats 8000000 in
set_option maxRecDepth 100000 in
theorem spec_BitRuns.calls (k : Nat) (A0 : Option Addr) (c0 : Nat) (l0 : List Int) (a1 : Int) (a2 : Int) (r : List (S35)) (w : World) (hr0 : Kd.C (Kd.int .u8) w A0 l0.length l0) (hc0 : l0.length ≤ c0) (h : spec_BitRuns.f k l0 a1 a2 = some r) :
    Calls Try.prog 8 #[.slice A0 l0.length c0, .int .i64 a1, .int .i64 a2] w fun e w' => ∃ v0_ : Value, e = .returned (v0_) ∧ Kd.R k35 35 w' w.heap.size (fun _ => True) v0_ r ∧ Below w.heap.size w w' := by
  have hu35 := Try.underlying35
  have HR0 := Aside0.mk hr0
  have HC0 := Aside0.mk hc0
  clear hr0 hc0
  have HB := Aside0.mk (Below.refl w.heap.size w)
  have H : ((spec_l8Within.f l0 a1 a2).bind fun bt102 => (spec_BitRuns.l0 k l0 bt102.2 (([] : List (S35))) bt102.1)) = some r := h
  clear h
  replace H := Option.bind_eq_some_iff.mp H
  obtain ⟨⟨t102, t103⟩, A40, H⟩ := H
  replace H : (spec_BitRuns.l0 k l0 t103 (([] : List (S35))) t102) = some r := H
  have A4 := Aside0.mk A40
  clear A40
  obtain ⟨y104, hy104⟩ : ∃ y_ : List (S35), y_ = (([] : List (S35))) := ⟨_, rfl⟩
  replace H : (spec_BitRuns.l0 k l0 t103 y104 t102) = some r := by first | (rw [hy104]; with_reducible exact H) | (have H2_ := (Option.bind_some _ _).symm.trans H; rw [hy104]; with_reducible exact H2_) | (have H2_ := (Option.bind_some _ _).symm.trans H; with_reducible exact H2_) | with_reducible exact H | (rw [hy104]; exact H) | exact H
  have Ny104 := Aside0.mk hy104
  clear hy104
  have H' := Aside0.mk H
  clear H
  go_enter Try.func8, Try.ntmps8
  go_wp2_with (first | (go_at_call 31; (with_reducible refine (spec_l8Within.calls _ _ l0 a1 a2 t102 t103 _ ?side1 ?side2 A4.out).mono ?_); (case side1 => repeat (first | exact HR0.out | (with_reducible refine Kd.C_alloc ?_ _) | (with_reducible refine Kd.C_drewN ?_ _) | (with_reducible refine Kd.C_drew ?_))); (case side2 => exact HC0.out); rintro e w5 ⟨rfl, hb⟩; have n0_ := Aside0.mk (below_step (by repeat (first | (with_reducible first | exact HB.out | apply below_alloc | apply pw_below_drewN | apply below_drew1) | exact HB.out)) hb); clear HB; have HB := n0_; clear n0_; (try clear hb); (try clear hb2); (try clear hk); (try clear hi)) | ((with_reducible refine gate_dst (N := 20) rfl ?_); refine Kd.R_lit k35 _ 35 ?hg (N := 20) ?hd (xs := ([] : List (S35))) (inner := []) (ok := fun _ => True) (okp := fun _ => True) ?hr ?hp (fun _ hk => hk) trivial (Below.refl _ _) (Nat.le_refl _) (by simp) ?_; (case hd => rfl); (case hg => rfl); (case hr => first | (go_simp; done) | (go_simp; rfl)); (case hp => exact (Reps.none _ _)); intro v105 w6 ho7 hb hg_ hnew_; clear hg_ hnew_; (first | rw [← Ny104.out] at ho7 | (simp only [Int.reduceToNat] at ho7; rw [← Ny104.out] at ho7)); have n0_ := Aside0.mk (Kd.R_lower ho7 (below_size (by repeat (first | (with_reducible first | exact HB.out | apply below_alloc | apply pw_below_drewN | apply below_drew1) | exact HB.out)))); have n1_ := Aside0.mk (below_step (by repeat (first | (with_reducible first | exact HB.out | apply below_alloc | apply pw_below_drewN | apply below_drew1) | exact HB.out)) hb); clear HB; have HO106 := n0_; have HB := n1_; clear n0_ n1_; clear hb ho7))
  repeat (go_quiet (first | (go_at_call 31; (with_reducible refine (spec_l8Within.calls _ _ l0 a1 a2 t102 t103 _ ?side1 ?side2 A4.out).mono ?_); (case side1 => repeat (first | exact HR0.out | (with_reducible refine Kd.C_alloc ?_ _) | (with_reducible refine Kd.C_drewN ?_ _) | (with_reducible refine Kd.C_drew ?_))); (case side2 => exact HC0.out); rintro e w5 ⟨rfl, hb⟩; have n0_ := Aside0.mk (below_step (by repeat (first | (with_reducible first | exact HB.out | apply below_alloc | apply pw_below_drewN | apply below_drew1) | exact HB.out)) hb); clear HB; have HB := n0_; clear n0_; (try clear hb); (try clear hb2); (try clear hk); (try clear hi)) | ((with_reducible refine gate_dst (N := 20) rfl ?_); refine Kd.R_lit k35 _ 35 ?hg (N := 20) ?hd (xs := ([] : List (S35))) (inner := []) (ok := fun _ => True) (okp := fun _ => True) ?hr ?hp (fun _ hk => hk) trivial (Below.refl _ _) (Nat.le_refl _) (by simp) ?_; (case hd => rfl); (case hg => rfl); (case hr => first | (go_simp; done) | (go_simp; rfl)); (case hp => exact (Reps.none _ _)); intro v105 w6 ho7 hb hg_ hnew_; clear hg_ hnew_; (first | rw [← Ny104.out] at ho7 | (simp only [Int.reduceToNat] at ho7; rw [← Ny104.out] at ho7)); have n0_ := Aside0.mk (Kd.R_lower ho7 (below_size (by repeat (first | (with_reducible first | exact HB.out | apply below_alloc | apply pw_below_drewN | apply below_drew1) | exact HB.out)))); have n1_ := Aside0.mk (below_step (by repeat (first | (with_reducible first | exact HB.out | apply below_alloc | apply pw_below_drewN | apply below_drew1) | exact HB.out)) hb); clear HB; have HO106 := n0_; have HB := n1_; clear n0_ n1_; clear hb ho7)); try go_wp2_with (first | (go_at_call 31; (with_reducible refine (spec_l8Within.calls _ _ l0 a1 a2 t102 t103 _ ?side1 ?side2 A4.out).mono ?_); (case side1 => repeat (first | exact HR0.out | (with_reducible refine Kd.C_alloc ?_ _) | (with_reducible refine Kd.C_drewN ?_ _) | (with_reducible refine Kd.C_drew ?_))); (case side2 => exact HC0.out); rintro e w5 ⟨rfl, hb⟩; have n0_ := Aside0.mk (below_step (by repeat (first | (with_reducible first | exact HB.out | apply below_alloc | apply pw_below_drewN | apply below_drew1) | exact HB.out)) hb); clear HB; have HB := n0_; clear n0_; (try clear hb); (try clear hb2); (try clear hk); (try clear hi)) | ((with_reducible refine gate_dst (N := 20) rfl ?_); refine Kd.R_lit k35 _ 35 ?hg (N := 20) ?hd (xs := ([] : List (S35))) (inner := []) (ok := fun _ => True) (okp := fun _ => True) ?hr ?hp (fun _ hk => hk) trivial (Below.refl _ _) (Nat.le_refl _) (by simp) ?_; (case hd => rfl); (case hg => rfl); (case hr => first | (go_simp; done) | (go_simp; rfl)); (case hp => exact (Reps.none _ _)); intro v105 w6 ho7 hb hg_ hnew_; clear hg_ hnew_; (first | rw [← Ny104.out] at ho7 | (simp only [Int.reduceToNat] at ho7; rw [← Ny104.out] at ho7)); have n0_ := Aside0.mk (Kd.R_lower ho7 (below_size (by repeat (first | (with_reducible first | exact HB.out | apply below_alloc | apply pw_below_drewN | apply below_drew1) | exact HB.out)))); have n1_ := Aside0.mk (below_step (by repeat (first | (with_reducible first | exact HB.out | apply below_alloc | apply pw_below_drewN | apply below_drew1) | exact HB.out)) hb); clear HB; have HO106 := n0_; have HB := n1_; clear n0_ n1_; clear hb ho7)))
  go_loopg [9, 10] k (fun kq v9 v10 w' => ∃ (x9_1 : List (S35)) (x10_1 : Int), v10 = .int .i64 x10_1 ∧ Aside0 (spec_BitRuns.l0 kq l0 t103 x9_1 x10_1 = some r) ∧ Aside0 (kq ≤ k) ∧ Aside0 (Kd.R k35 35 w' w.heap.size (fun _ => True) v9 x9_1) ∧ Aside0 (Below w.heap.size w w'))
  case atStart => exact ⟨(y104), (t102), (by first | rfl | (simp; done) | (simp [*]; done)), H', ⟨Nat.le_refl _⟩, ⟨by (with_reducible repeat (first | apply Kd.R_alloc | apply Kd.R_drewN | apply Kd.R_drew)); exact HO106.out⟩, ⟨by repeat (first | (with_reducible first | exact HB.out | apply below_alloc | apply pw_below_drewN | apply below_drew1) | exact HB.out)⟩⟩
  case round =>
    clear H'
    try clear p2
    obtain ⟨x9_1, x10_1, rfl, HA, HK1, HO_9, HB⟩ := hrel
    cases gk with
    | zero => exact absurd HA.out (by simp [spec_BitRuns.l0])
    | succ k1 =>
      have H := HA.out
      clear HA
      simp only [spec_BitRuns.l0] at H
      by_cases c8 : x10_1 < t103
      · rw [if_pos c8] at H
        have c8b0 : decide (x10_1 < t103) = true := decide_eq_true c8
        clear c8
        replace H := Option.bind_eq_some_iff.mp H
        obtain ⟨t107, A90, H⟩ := H
        replace H : (if t107 = true then (spec_BitRuns.l0 k1 l0 t103 x9_1 (wrap64 (x10_1 + 1))) else (if (x9_1.length : Int) > 0 then (if 0 ≤ (wrap64 ((x9_1.length : Int) - 1)) then (if (wrap64 ((x9_1.length : Int) - 1)) < (x9_1.length : Int) then (if (wrap64 (((rd_T35 x9_1 (wrap64 ((x9_1.length : Int) - 1))).f0) + ((rd_T35 x9_1 (wrap64 ((x9_1.length : Int) - 1))).f1))) = x10_1 then (spec_BitRuns.l0 k1 l0 t103 (x9_1.set ((wrap64 ((x9_1.length : Int) - 1)) : Int).toNat (⟨(rd_T35 x9_1 (wrap64 ((x9_1.length : Int) - 1))).f0, wrap64 (((rd_T35 x9_1 (wrap64 ((x9_1.length : Int) - 1))).f1) + 1)⟩ : S35)) (wrap64 (x10_1 + 1))) else (if x9_1.length < 8796093022208 then (spec_BitRuns.l0 k1 l0 t103 (x9_1 ++ [(⟨x10_1, 1⟩ : S35)]) (wrap64 (x10_1 + 1))) else (none))) else (none)) else (none)) else (if x9_1.length < 8796093022208 then (spec_BitRuns.l0 k1 l0 t103 (x9_1 ++ [(⟨x10_1, 1⟩ : S35)]) (wrap64 (x10_1 + 1))) else (none)))) = some r := H
        have A9 := Aside0.mk A90
        clear A90
        by_cases c10 : t107 = true
        · subst c10
          have H1 : (spec_BitRuns.l0 k1 l0 t103 x9_1 (wrap64 (x10_1 + 1))) = some r := by rw [if_pos rfl] at H; exact H
          clear H
          have H := H1
          clear H1
          have H' := Aside0.mk H
          clear H
          go_wp2_with (first | (go_at_call 19; (with_reducible refine (spec_BitGet.calls k1 _ _ l0 x10_1 true _ ?side1 ?side2 A9.out).mono ?_); (case side1 => repeat (first | exact (Kd.C_below HR0.out HB.out) | (with_reducible refine Kd.C_alloc ?_ _) | (with_reducible refine Kd.C_drewN ?_ _) | (with_reducible refine Kd.C_drew ?_))); (case side2 => exact HC0.out); rintro e w' ⟨rfl, ⟨nd, rfl⟩⟩; (try first | exact ⟨rfl, _, World.drewN_drewN _ _ _⟩ | exact ⟨rfl, _, Eq.trans (World.drewN_drewN _ _ _) (congrArg (World.drewN _) (Nat.add_assoc _ _ _))⟩); obtain ⟨Ao11, co11, eo11⟩ := Kd.R_slice HO_9.out; subst eo11))
          repeat (go_quiet (first | (go_at_call 19; (with_reducible refine (spec_BitGet.calls k1 _ _ l0 x10_1 true _ ?side1 ?side2 A9.out).mono ?_); (case side1 => repeat (first | exact (Kd.C_below HR0.out HB.out) | (with_reducible refine Kd.C_alloc ?_ _) | (with_reducible refine Kd.C_drewN ?_ _) | (with_reducible refine Kd.C_drew ?_))); (case side2 => exact HC0.out); rintro e w' ⟨rfl, ⟨nd, rfl⟩⟩; (try first | exact ⟨rfl, _, World.drewN_drewN _ _ _⟩ | exact ⟨rfl, _, Eq.trans (World.drewN_drewN _ _ _) (congrArg (World.drewN _) (Nat.add_assoc _ _ _))⟩); obtain ⟨Ao11, co11, eo11⟩ := Kd.R_slice HO_9.out; subst eo11)); try go_wp2_with (first | (go_at_call 19; (with_reducible refine (spec_BitGet.calls k1 _ _ l0 x10_1 true _ ?side1 ?side2 A9.out).mono ?_); (case side1 => repeat (first | exact (Kd.C_below HR0.out HB.out) | (with_reducible refine Kd.C_alloc ?_ _) | (with_reducible refine Kd.C_drewN ?_ _) | (with_reducible refine Kd.C_drew ?_))); (case side2 => exact HC0.out); rintro e w' ⟨rfl, ⟨nd, rfl⟩⟩; (try first | exact ⟨rfl, _, World.drewN_drewN _ _ _⟩ | exact ⟨rfl, _, Eq.trans (World.drewN_drewN _ _ _) (congrArg (World.drewN _) (Nat.add_assoc _ _ _))⟩); obtain ⟨Ao11, co11, eo11⟩ := Kd.R_slice HO_9.out; subst eo11)))
          go_roundg k1
          case measure => have := HK1.out; omega
          case rel => exact ⟨(x9_1), (wrap64 (x10_1 + 1)), (by first | rfl | (simp; done) | (simp [*]; done)), H', ⟨by have := HK1.out; omega⟩, ⟨by (with_reducible repeat (first | apply Kd.R_alloc | apply Kd.R_drewN | apply Kd.R_drew)); exact HO_9.out⟩, ⟨by repeat (first | (with_reducible first | exact HB.out | apply below_alloc | apply pw_below_drewN | apply below_drew1) | exact HB.out)⟩⟩
        · replace c10 := Bool.eq_false_iff.mpr c10
          subst c10
          have H1 : (if (x9_1.length : Int) > 0 then (if 0 ≤ (wrap64 ((x9_1.length : Int) - 1)) then (if (wrap64 ((x9_1.length : Int) - 1)) < (x9_1.length : Int) then (if (wrap64 (((rd_T35 x9_1 (wrap64 ((x9_1.length : Int) - 1))).f0) + ((rd_T35 x9_1 (wrap64 ((x9_1.length : Int) - 1))).f1))) = x10_1 then (spec_BitRuns.l0 k1 l0 t103 (x9_1.set ((wrap64 ((x9_1.length : Int) - 1)) : Int).toNat (⟨(rd_T35 x9_1 (wrap64 ((x9_1.length : Int) - 1))).f0, wrap64 (((rd_T35 x9_1 (wrap64 ((x9_1.length : Int) - 1))).f1) + 1)⟩ : S35)) (wrap64 (x10_1 + 1))) else (if x9_1.length < 8796093022208 then (spec_BitRuns.l0 k1 l0 t103 (x9_1 ++ [(⟨x10_1, 1⟩ : S35)]) (wrap64 (x10_1 + 1))) else (none))) else (none)) else (none)) else (if x9_1.length < 8796093022208 then (spec_BitRuns.l0 k1 l0 t103 (x9_1 ++ [(⟨x10_1, 1⟩ : S35)]) (wrap64 (x10_1 + 1))) else (none))) = some r := by rw [if_neg (show ¬ (false = true) by decide)] at H; exact H
          clear H
          have H := H1
          clear H1
          by_cases c12 : (x9_1.length : Int) > 0
          · rw [if_pos c12] at H
            have c12b0 : decide (0 < (x9_1.length : Int)) = true := decide_eq_true c12
            have c12b1 : decide (0 < x9_1.length) = true := decide_eq_true (by omega)
            clear c12
            obtain ⟨ji13, hji13⟩ : ∃ j_ : Int, (wrap64 ((x9_1.length : Int) - 1)) = j_ := ⟨_, rfl⟩
            replace H : (if 0 ≤ (ji13) then (if (ji13) < (x9_1.length : Int) then (if (wrap64 (((rd_T35 x9_1 (ji13)).f0) + ((rd_T35 x9_1 (ji13)).f1))) = x10_1 then (spec_BitRuns.l0 k1 l0 t103 (x9_1.set ((ji13) : Int).toNat (⟨(rd_T35 x9_1 (ji13)).f0, wrap64 (((rd_T35 x9_1 (ji13)).f1) + 1)⟩ : S35)) (wrap64 (x10_1 + 1))) else (if x9_1.length < 8796093022208 then (spec_BitRuns.l0 k1 l0 t103 (x9_1 ++ [(⟨x10_1, 1⟩ : S35)]) (wrap64 (x10_1 + 1))) else (none))) else (none)) else (none)) = some r := by first | (rw [hji13] at H; exact H) | (simp only [hji13] at H ⊢; exact H)
            (try rw [hji13] at A9)
            have hji13w : (IntKind.i64.wrap ((x9_1.length : Int) - 1)) = ji13 := (i64_w _).trans hji13
            by_cases c14 : 0 ≤ (ji13)
            · rw [if_pos c14] at H
              have c14b0 : decide (0 ≤ (ji13)) = true := decide_eq_true c14
              clear c14
              by_cases c15 : (ji13) < (x9_1.length : Int)
              · rw [if_pos c15] at H
                have c15b0 : decide ((ji13) < (x9_1.length : Int)) = true := decide_eq_true c15
                clear c15
                by_cases c16 : (wrap64 (((rd_T35 x9_1 (ji13)).f0) + ((rd_T35 x9_1 (ji13)).f1))) = x10_1
                · rw [if_pos c16] at H
                  have c16b0 : ((wrap64 (((rd_T35 x9_1 (ji13)).f0) + ((rd_T35 x9_1 (ji13)).f1))) == x10_1) = true := beq_iff_eq.mpr c16
                  have c16b1 : ((wrap64 (((rd_T35 x9_1 (ji13)).f0) + ((rd_T35 x9_1 (ji13)).f1))) != x10_1) = false := bne_eq_false_iff_eq.mpr c16
                  clear c16
                  obtain ⟨y111, hy111⟩ : ∃ y_ : List (S35), y_ = (x9_1.set ((ji13) : Int).toNat (⟨(rd_T35 x9_1 (ji13)).f0, wrap64 (((rd_T35 x9_1 (ji13)).f1) + 1)⟩ : S35)) := ⟨_, rfl⟩
                  replace H : (spec_BitRuns.l0 k1 l0 t103 y111 (wrap64 (x10_1 + 1))) = some r := by first | (rw [hy111]; with_reducible exact H) | (have H2_ := (Option.bind_some _ _).symm.trans H; rw [hy111]; with_reducible exact H2_) | (have H2_ := (Option.bind_some _ _).symm.trans H; with_reducible exact H2_) | with_reducible exact H | (rw [hy111]; exact H) | exact H
                  have Ny111 := Aside0.mk hy111
                  clear hy111
                  have H' := Aside0.mk H
                  clear H
                  go_wp2_with (first | (go_at_call 19; (with_reducible refine (spec_BitGet.calls k1 _ _ l0 x10_1 false _ ?side1 ?side2 A9.out).mono ?_); (case side1 => repeat (first | exact (Kd.C_below HR0.out HB.out) | (with_reducible refine Kd.C_alloc ?_ _) | (with_reducible refine Kd.C_drewN ?_ _) | (with_reducible refine Kd.C_drew ?_))); (case side2 => exact HC0.out); rintro e w' ⟨rfl, ⟨nd, rfl⟩⟩; (try first | exact ⟨rfl, _, World.drewN_drewN _ _ _⟩ | exact ⟨rfl, _, Eq.trans (World.drewN_drewN _ _ _) (congrArg (World.drewN _) (Nat.add_assoc _ _ _))⟩); obtain ⟨Ao18, co18, eo18⟩ := Kd.R_slice HO_9.out; subst eo18; have p108 : 0 ≤ ((ji13) : Int) := of_decide_eq_true (by first | (with_reducible assumption) | assumption); have q108 : (ji13) < (x9_1.length : Int) := of_decide_eq_true (by first | (with_reducible assumption) | assumption); obtain ⟨ad108, e108, hx108_0, hx108_1⟩ := at_T35 (Kd.R_reads' HO_9.out).2.2 (ji13) p108 q108; cases e108; replace p108 := eq_true p108; replace q108 := eq_true q108; have p109 : 0 ≤ ((ji13) : Int) := of_decide_eq_true (by first | (with_reducible assumption) | assumption); have q109 : (ji13) < (x9_1.length : Int) := of_decide_eq_true (by first | (with_reducible assumption) | assumption); obtain ⟨ad109, e109, hx109_0, hx109_1⟩ := at_T35 (Kd.R_reads' HO_9.out).2.2 (ji13) p109 q109; obtain rfl : ad108 = ad109 := (by injection e109); replace p109 := eq_true p109; replace q109 := eq_true q109; have p110 : 0 ≤ ((ji13) : Int) := of_decide_eq_true (by first | (with_reducible assumption) | assumption); have q110 : (ji13) < (x9_1.length : Int) := of_decide_eq_true (by first | (with_reducible assumption) | assumption); obtain ⟨ad110, e110, hx110_0, hx110_1⟩ := at_T35 (Kd.R_reads' HO_9.out).2.2 (ji13) p110 q110; obtain rfl : ad108 = ad110 := (by injection e110); replace p110 := eq_true p110; replace q110 := eq_true q110; have p17 : 0 ≤ ((ji13) : Int) := of_decide_eq_true (by first | (with_reducible assumption) | assumption); have q17 : ((ji13) : Int) < ((x9_1.length : Int) : Int) := of_decide_eq_true (by first | (with_reducible assumption) | assumption); obtain ⟨go17, co17, eo17, gb17, gl17, cl17, HG17⟩ := Kd.R_form HO_9.out (by omega); (first | cases eo17 | (injection eo17 with ea_ en_ ec_; (first | subst ea_ | (injection ea_ with ea_; subst ea_)); subst ec_; clear en_)); have GB17 := Aside0.mk gb17; have GG17 := Aside0.mk HG17; clear gb17 gl17 HG17; (first | simp only [add_plain] at hx108_0 | skip); (first | simp only [add_plain] at hx108_1 | skip); (first | simp only [add_plain] at hx109_0 | skip); (first | simp only [add_plain] at hx109_1 | skip); (first | simp only [add_plain] at hx110_0 | skip); (first | simp only [add_plain] at hx110_1 | skip); obtain ⟨ce17, hcl17, hM17, hcc17, hfr17⟩ := Kd.R_elem HO_9.out z35 ((ji13) : Int) p17 q17; obtain rfl := k35_openM hM17; have hx17_0 : wr.cell? ⟨go17, ((ji13) : Int).toNat * 2, none⟩ = some (.int .i64 ((rd_T35 x9_1 (ji13)).f0)) := hcc17 0 _ rfl; have hx17_1 : wr.cell? ⟨go17, ((ji13) : Int).toNat * 2 + 1, none⟩ = some (.int .i64 ((rd_T35 x9_1 (ji13)).f1)) := hcc17 1 _ rfl; have hf17_0 : wr.frozen? ⟨go17, ((ji13) : Int).toNat * 2, none⟩ = false := hfr17 0; have hf17_1 : wr.frozen? ⟨go17, ((ji13) : Int).toNat * 2 + 1, none⟩ = false := hfr17 1; clear hcl17 hcc17 hfr17 hM17; replace p17 := eq_true p17; replace q17 := eq_true q17; have HX19 := Aside0.mk (show Kd.R k35 35 wr w.heap.size (fun _ => True) (.slice (some ⟨go17, 0, none⟩) x9_1.length co18) x9_1 from (by (with_reducible repeat (first | apply Kd.R_alloc | apply Kd.R_drewN | apply Kd.R_drew)); exact HO_9.out)); obtain ⟨ce19, hcl19, hM19, hcc19, hfr19⟩ := Kd.R_elem HX19.out z35 ((ji13) : Int) (of_decide_eq_true (by first | (with_reducible assumption) | assumption)) (by have h_ : ((ji13) : Int) < ((x9_1.length : Int) : Int) := of_decide_eq_true (by first | (with_reducible assumption) | assumption); first | exact h_ | (have e_ := (Kd.R_reads' HO_9.out).1; omega) | simpa using h_); obtain rfl := k35_openM hM19; have HP19 := Kd.R_seg HX19.out ((ji13) : Int) (of_decide_eq_true (by first | (with_reducible assumption) | assumption)) (by have h_ : ((ji13) : Int) < ((x9_1.length : Int) : Int) := of_decide_eq_true (by first | (with_reducible assumption) | assumption); first | exact h_ | (have e_ := (Kd.R_reads' HO_9.out).1; omega) | simpa using h_) (seg := [.int .i64 (wrap64 (((rd_T35 x9_1 (ji13)).f1) + 1))]) (j := 1) hcl19 hcc19 (show 2 ≤ 2 from by decide) (x' := (⟨(rd_T35 x9_1 (ji13)).f0, wrap64 (((rd_T35 x9_1 (ji13)).f1) + 1)⟩ : S35)) (k35_mkM _ _ _ (⟨(rd_T35 x9_1 (ji13)).f0, wrap64 (((rd_T35 x9_1 (ji13)).f1) + 1)⟩ : S35) ) (fun _ hk => hk); have hx19_1 := hcc19 1 _ rfl; (try simp only [show (k35).sz = 2 from rfl, Nat.mul_one, Nat.add_zero] at hx19_1); have hf19_1 := hfr19 1; (try simp only [show (k35).sz = 2 from rfl, Nat.mul_one, Nat.add_zero] at hf19_1); clear hcl19 hcc19 hfr19 hM19) | ((with_reducible refine gate_store (t := 2) (p := 63) rfl ?_); (try (rw [drewN_self wr]; generalize hq_ : World.drewN wr _ = wr; have n0_ := Aside0.mk (Kd.R_at hq_ HO_9.out); have n1_ := Aside0.mk (below_at hq_ HB.out); clear hq_ HO_9 HB; have HO_9 := n0_; have HB := n1_; clear n0_ n1_; (try (have HX19 := Aside0.mk (show Kd.R k35 35 wr w.heap.size (fun _ => True) (.slice (some ⟨go17, 0, none⟩) x9_1.length co18) x9_1 from (by (with_reducible repeat (first | apply Kd.R_alloc | apply Kd.R_drewN | apply Kd.R_drew)); exact HO_9.out)))); (try (obtain ⟨ce19, hcl19, hM19, hcc19, hfr19⟩ := Kd.R_elem HX19.out z35 ((ji13) : Int) (of_decide_eq_true (by first | (with_reducible assumption) | assumption)) (by have h_ : ((ji13) : Int) < ((x9_1.length : Int) : Int) := of_decide_eq_true (by first | (with_reducible assumption) | assumption); first | exact h_ | (have e_ := (Kd.R_reads' HO_9.out).1; omega) | simpa using h_))); (try (obtain rfl := k35_openM hM19)); (try (have HP19 := Kd.R_seg HX19.out ((ji13) : Int) (of_decide_eq_true (by first | (with_reducible assumption) | assumption)) (by have h_ : ((ji13) : Int) < ((x9_1.length : Int) : Int) := of_decide_eq_true (by first | (with_reducible assumption) | assumption); first | exact h_ | (have e_ := (Kd.R_reads' HO_9.out).1; omega) | simpa using h_) (seg := [.int .i64 (wrap64 (((rd_T35 x9_1 (ji13)).f1) + 1))]) (j := 1) hcl19 hcc19 (show 2 ≤ 2 from by decide) (x' := (⟨(rd_T35 x9_1 (ji13)).f0, wrap64 (((rd_T35 x9_1 (ji13)).f1) + 1)⟩ : S35)) (k35_mkM _ _ _ (⟨(rd_T35 x9_1 (ji13)).f0, wrap64 (((rd_T35 x9_1 (ji13)).f1) + 1)⟩ : S35) ) (fun _ hk => hk))); (try (have hx19_1 := hcc19 1 _ rfl)); (try (try simp only [show (k35).sz = 2 from rfl, Nat.mul_one, Nat.add_zero] at hx19_1)); (try (have hf19_1 := hfr19 1)); (try (try simp only [show (k35).sz = 2 from rfl, Nat.mul_one, Nat.add_zero] at hf19_1)); (try (clear hcl19 hcc19 hfr19 hM19)))); refine store_event (t := 2) (p := 63) (v := ?vo_w20) (w1 := (wr.setCell ⟨go17, ((ji13) : Int).toNat * 2 + 1, none⟩ (.int .i64 (wrap64 (((rd_T35 x9_1 (ji13)).f1) + 1))))) ?hg ?ho ?hn ?hr ?_; (case ho => rfl); (case hg => rfl); (case hn => rfl); (case hr => first | (go_simp; done) | (go_simp; rfl)); intro w20 hw; have hg : wr.grownBy w20 (some go17) := (by rw [hw]; exact HP19.2); have hp_ : Kd.R k35 35 w20 w.heap.size (fun _ => True) (.slice (some ⟨go17, 0, none⟩) x9_1.length co18) y111 := (by rw [hw, Ny111.out]; exact HP19.1); clear HP19; have n0_ := Aside0.mk (hp_); have n1_ := Aside0.mk ((by rw [hw]; exact below_set (HB.out) GB17.out : Below w.heap.size w w20)); clear HO_9; clear HB; have HO_9 := n0_; have HB := n1_; clear n0_ n1_; clear hg hw hp_))
                  repeat (go_quiet (first | (go_at_call 19; (with_reducible refine (spec_BitGet.calls k1 _ _ l0 x10_1 false _ ?side1 ?side2 A9.out).mono ?_); (case side1 => repeat (first | exact (Kd.C_below HR0.out HB.out) | (with_reducible refine Kd.C_alloc ?_ _) | (with_reducible refine Kd.C_drewN ?_ _) | (with_reducible refine Kd.C_drew ?_))); (case side2 => exact HC0.out); rintro e w' ⟨rfl, ⟨nd, rfl⟩⟩; (try first | exact ⟨rfl, _, World.drewN_drewN _ _ _⟩ | exact ⟨rfl, _, Eq.trans (World.drewN_drewN _ _ _) (congrArg (World.drewN _) (Nat.add_assoc _ _ _))⟩); obtain ⟨Ao18, co18, eo18⟩ := Kd.R_slice HO_9.out; subst eo18; have p108 : 0 ≤ ((ji13) : Int) := of_decide_eq_true (by first | (with_reducible assumption) | assumption); have q108 : (ji13) < (x9_1.length : Int) := of_decide_eq_true (by first | (with_reducible assumption) | assumption); obtain ⟨ad108, e108, hx108_0, hx108_1⟩ := at_T35 (Kd.R_reads' HO_9.out).2.2 (ji13) p108 q108; cases e108; replace p108 := eq_true p108; replace q108 := eq_true q108; have p109 : 0 ≤ ((ji13) : Int) := of_decide_eq_true (by first | (with_reducible assumption) | assumption); have q109 : (ji13) < (x9_1.length : Int) := of_decide_eq_true (by first | (with_reducible assumption) | assumption); obtain ⟨ad109, e109, hx109_0, hx109_1⟩ := at_T35 (Kd.R_reads' HO_9.out).2.2 (ji13) p109 q109; obtain rfl : ad108 = ad109 := (by injection e109); replace p109 := eq_true p109; replace q109 := eq_true q109; have p110 : 0 ≤ ((ji13) : Int) := of_decide_eq_true (by first | (with_reducible assumption) | assumption); have q110 : (ji13) < (x9_1.length : Int) := of_decide_eq_true (by first | (with_reducible assumption) | assumption); obtain ⟨ad110, e110, hx110_0, hx110_1⟩ := at_T35 (Kd.R_reads' HO_9.out).2.2 (ji13) p110 q110; obtain rfl : ad108 = ad110 := (by injection e110); replace p110 := eq_true p110; replace q110 := eq_true q110; have p17 : 0 ≤ ((ji13) : Int) := of_decide_eq_true (by first | (with_reducible assumption) | assumption); have q17 : ((ji13) : Int) < ((x9_1.length : Int) : Int) := of_decide_eq_true (by first | (with_reducible assumption) | assumption); obtain ⟨go17, co17, eo17, gb17, gl17, cl17, HG17⟩ := Kd.R_form HO_9.out (by omega); (first | cases eo17 | (injection eo17 with ea_ en_ ec_; (first | subst ea_ | (injection ea_ with ea_; subst ea_)); subst ec_; clear en_)); have GB17 := Aside0.mk gb17; have GG17 := Aside0.mk HG17; clear gb17 gl17 HG17; (first | simp only [add_plain] at hx108_0 | skip); (first | simp only [add_plain] at hx108_1 | skip); (first | simp only [add_plain] at hx109_0 | skip); (first | simp only [add_plain] at hx109_1 | skip); (first | simp only [add_plain] at hx110_0 | skip); (first | simp only [add_plain] at hx110_1 | skip); obtain ⟨ce17, hcl17, hM17, hcc17, hfr17⟩ := Kd.R_elem HO_9.out z35 ((ji13) : Int) p17 q17; obtain rfl := k35_openM hM17; have hx17_0 : wr.cell? ⟨go17, ((ji13) : Int).toNat * 2, none⟩ = some (.int .i64 ((rd_T35 x9_1 (ji13)).f0)) := hcc17 0 _ rfl; have hx17_1 : wr.cell? ⟨go17, ((ji13) : Int).toNat * 2 + 1, none⟩ = some (.int .i64 ((rd_T35 x9_1 (ji13)).f1)) := hcc17 1 _ rfl; have hf17_0 : wr.frozen? ⟨go17, ((ji13) : Int).toNat * 2, none⟩ = false := hfr17 0; have hf17_1 : wr.frozen? ⟨go17, ((ji13) : Int).toNat * 2 + 1, none⟩ = false := hfr17 1; clear hcl17 hcc17 hfr17 hM17; replace p17 := eq_true p17; replace q17 := eq_true q17; have HX19 := Aside0.mk (show Kd.R k35 35 wr w.heap.size (fun _ => True) (.slice (some ⟨go17, 0, none⟩) x9_1.length co18) x9_1 from (by (with_reducible repeat (first | apply Kd.R_alloc | apply Kd.R_drewN | apply Kd.R_drew)); exact HO_9.out)); obtain ⟨ce19, hcl19, hM19, hcc19, hfr19⟩ := Kd.R_elem HX19.out z35 ((ji13) : Int) (of_decide_eq_true (by first | (with_reducible assumption) | assumption)) (by have h_ : ((ji13) : Int) < ((x9_1.length : Int) : Int) := of_decide_eq_true (by first | (with_reducible assumption) | assumption); first | exact h_ | (have e_ := (Kd.R_reads' HO_9.out).1; omega) | simpa using h_); obtain rfl := k35_openM hM19; have HP19 := Kd.R_seg HX19.out ((ji13) : Int) (of_decide_eq_true (by first | (with_reducible assumption) | assumption)) (by have h_ : ((ji13) : Int) < ((x9_1.length : Int) : Int) := of_decide_eq_true (by first | (with_reducible assumption) | assumption); first | exact h_ | (have e_ := (Kd.R_reads' HO_9.out).1; omega) | simpa using h_) (seg := [.int .i64 (wrap64 (((rd_T35 x9_1 (ji13)).f1) + 1))]) (j := 1) hcl19 hcc19 (show 2 ≤ 2 from by decide) (x' := (⟨(rd_T35 x9_1 (ji13)).f0, wrap64 (((rd_T35 x9_1 (ji13)).f1) + 1)⟩ : S35)) (k35_mkM _ _ _ (⟨(rd_T35 x9_1 (ji13)).f0, wrap64 (((rd_T35 x9_1 (ji13)).f1) + 1)⟩ : S35) ) (fun _ hk => hk); have hx19_1 := hcc19 1 _ rfl; (try simp only [show (k35).sz = 2 from rfl, Nat.mul_one, Nat.add_zero] at hx19_1); have hf19_1 := hfr19 1; (try simp only [show (k35).sz = 2 from rfl, Nat.mul_one, Nat.add_zero] at hf19_1); clear hcl19 hcc19 hfr19 hM19) | ((with_reducible refine gate_store (t := 2) (p := 63) rfl ?_); (try (rw [drewN_self wr]; generalize hq_ : World.drewN wr _ = wr; have n0_ := Aside0.mk (Kd.R_at hq_ HO_9.out); have n1_ := Aside0.mk (below_at hq_ HB.out); clear hq_ HO_9 HB; have HO_9 := n0_; have HB := n1_; clear n0_ n1_; (try (have HX19 := Aside0.mk (show Kd.R k35 35 wr w.heap.size (fun _ => True) (.slice (some ⟨go17, 0, none⟩) x9_1.length co18) x9_1 from (by (with_reducible repeat (first | apply Kd.R_alloc | apply Kd.R_drewN | apply Kd.R_drew)); exact HO_9.out)))); (try (obtain ⟨ce19, hcl19, hM19, hcc19, hfr19⟩ := Kd.R_elem HX19.out z35 ((ji13) : Int) (of_decide_eq_true (by first | (with_reducible assumption) | assumption)) (by have h_ : ((ji13) : Int) < ((x9_1.length : Int) : Int) := of_decide_eq_true (by first | (with_reducible assumption) | assumption); first | exact h_ | (have e_ := (Kd.R_reads' HO_9.out).1; omega) | simpa using h_))); (try (obtain rfl := k35_openM hM19)); (try (have HP19 := Kd.R_seg HX19.out ((ji13) : Int) (of_decide_eq_true (by first | (with_reducible assumption) | assumption)) (by have h_ : ((ji13) : Int) < ((x9_1.length : Int) : Int) := of_decide_eq_true (by first | (with_reducible assumption) | assumption); first | exact h_ | (have e_ := (Kd.R_reads' HO_9.out).1; omega) | simpa using h_) (seg := [.int .i64 (wrap64 (((rd_T35 x9_1 (ji13)).f1) + 1))]) (j := 1) hcl19 hcc19 (show 2 ≤ 2 from by decide) (x' := (⟨(rd_T35 x9_1 (ji13)).f0, wrap64 (((rd_T35 x9_1 (ji13)).f1) + 1)⟩ : S35)) (k35_mkM _ _ _ (⟨(rd_T35 x9_1 (ji13)).f0, wrap64 (((rd_T35 x9_1 (ji13)).f1) + 1)⟩ : S35) ) (fun _ hk => hk))); (try (have hx19_1 := hcc19 1 _ rfl)); (try (try simp only [show (k35).sz = 2 from rfl, Nat.mul_one, Nat.add_zero] at hx19_1)); (try (have hf19_1 := hfr19 1)); (try (try simp only [show (k35).sz = 2 from rfl, Nat.mul_one, Nat.add_zero] at hf19_1)); (try (clear hcl19 hcc19 hfr19 hM19)))); refine store_event (t := 2) (p := 63) (v := ?vo_w20) (w1 := (wr.setCell ⟨go17, ((ji13) : Int).toNat * 2 + 1, none⟩ (.int .i64 (wrap64 (((rd_T35 x9_1 (ji13)).f1) + 1))))) ?hg ?ho ?hn ?hr ?_; (case ho => rfl); (case hg => rfl); (case hn => rfl); (case hr => first | (go_simp; done) | (go_simp; rfl)); intro w20 hw; have hg : wr.grownBy w20 (some go17) := (by rw [hw]; exact HP19.2); have hp_ : Kd.R k35 35 w20 w.heap.size (fun _ => True) (.slice (some ⟨go17, 0, none⟩) x9_1.length co18) y111 := (by rw [hw, Ny111.out]; exact HP19.1); clear HP19; have n0_ := Aside0.mk (hp_); have n1_ := Aside0.mk ((by rw [hw]; exact below_set (HB.out) GB17.out : Below w.heap.size w w20)); clear HO_9; clear HB; have HO_9 := n0_; have HB := n1_; clear n0_ n1_; clear hg hw hp_)); try go_wp2_with (first | (go_at_call 19; (with_reducible refine (spec_BitGet.calls k1 _ _ l0 x10_1 false _ ?side1 ?side2 A9.out).mono ?_); (case side1 => repeat (first | exact (Kd.C_below HR0.out HB.out) | (with_reducible refine Kd.C_alloc ?_ _) | (with_reducible refine Kd.C_drewN ?_ _) | (with_reducible refine Kd.C_drew ?_))); (case side2 => exact HC0.out); rintro e w' ⟨rfl, ⟨nd, rfl⟩⟩; (try first | exact ⟨rfl, _, World.drewN_drewN _ _ _⟩ | exact ⟨rfl, _, Eq.trans (World.drewN_drewN _ _ _) (congrArg (World.drewN _) (Nat.add_assoc _ _ _))⟩); obtain ⟨Ao18, co18, eo18⟩ := Kd.R_slice HO_9.out; subst eo18; have p108 : 0 ≤ ((ji13) : Int) := of_decide_eq_true (by first | (with_reducible assumption) | assumption); have q108 : (ji13) < (x9_1.length : Int) := of_decide_eq_true (by first | (with_reducible assumption) | assumption); obtain ⟨ad108, e108, hx108_0, hx108_1⟩ := at_T35 (Kd.R_reads' HO_9.out).2.2 (ji13) p108 q108; cases e108; replace p108 := eq_true p108; replace q108 := eq_true q108; have p109 : 0 ≤ ((ji13) : Int) := of_decide_eq_true (by first | (with_reducible assumption) | assumption); have q109 : (ji13) < (x9_1.length : Int) := of_decide_eq_true (by first | (with_reducible assumption) | assumption); obtain ⟨ad109, e109, hx109_0, hx109_1⟩ := at_T35 (Kd.R_reads' HO_9.out).2.2 (ji13) p109 q109; obtain rfl : ad108 = ad109 := (by injection e109); replace p109 := eq_true p109; replace q109 := eq_true q109; have p110 : 0 ≤ ((ji13) : Int) := of_decide_eq_true (by first | (with_reducible assumption) | assumption); have q110 : (ji13) < (x9_1.length : Int) := of_decide_eq_true (by first | (with_reducible assumption) | assumption); obtain ⟨ad110, e110, hx110_0, hx110_1⟩ := at_T35 (Kd.R_reads' HO_9.out).2.2 (ji13) p110 q110; obtain rfl : ad108 = ad110 := (by injection e110); replace p110 := eq_true p110; replace q110 := eq_true q110; have p17 : 0 ≤ ((ji13) : Int) := of_decide_eq_true (by first | (with_reducible assumption) | assumption); have q17 : ((ji13) : Int) < ((x9_1.length : Int) : Int) := of_decide_eq_true (by first | (with_reducible assumption) | assumption); obtain ⟨go17, co17, eo17, gb17, gl17, cl17, HG17⟩ := Kd.R_form HO_9.out (by omega); (first | cases eo17 | (injection eo17 with ea_ en_ ec_; (first | subst ea_ | (injection ea_ with ea_; subst ea_)); subst ec_; clear en_)); have GB17 := Aside0.mk gb17; have GG17 := Aside0.mk HG17; clear gb17 gl17 HG17; (first | simp only [add_plain] at hx108_0 | skip); (first | simp only [add_plain] at hx108_1 | skip); (first | simp only [add_plain] at hx109_0 | skip); (first | simp only [add_plain] at hx109_1 | skip); (first | simp only [add_plain] at hx110_0 | skip); (first | simp only [add_plain] at hx110_1 | skip); obtain ⟨ce17, hcl17, hM17, hcc17, hfr17⟩ := Kd.R_elem HO_9.out z35 ((ji13) : Int) p17 q17; obtain rfl := k35_openM hM17; have hx17_0 : wr.cell? ⟨go17, ((ji13) : Int).toNat * 2, none⟩ = some (.int .i64 ((rd_T35 x9_1 (ji13)).f0)) := hcc17 0 _ rfl; have hx17_1 : wr.cell? ⟨go17, ((ji13) : Int).toNat * 2 + 1, none⟩ = some (.int .i64 ((rd_T35 x9_1 (ji13)).f1)) := hcc17 1 _ rfl; have hf17_0 : wr.frozen? ⟨go17, ((ji13) : Int).toNat * 2, none⟩ = false := hfr17 0; have hf17_1 : wr.frozen? ⟨go17, ((ji13) : Int).toNat * 2 + 1, none⟩ = false := hfr17 1; clear hcl17 hcc17 hfr17 hM17; replace p17 := eq_true p17; replace q17 := eq_true q17; have HX19 := Aside0.mk (show Kd.R k35 35 wr w.heap.size (fun _ => True) (.slice (some ⟨go17, 0, none⟩) x9_1.length co18) x9_1 from (by (with_reducible repeat (first | apply Kd.R_alloc | apply Kd.R_drewN | apply Kd.R_drew)); exact HO_9.out)); obtain ⟨ce19, hcl19, hM19, hcc19, hfr19⟩ := Kd.R_elem HX19.out z35 ((ji13) : Int) (of_decide_eq_true (by first | (with_reducible assumption) | assumption)) (by have h_ : ((ji13) : Int) < ((x9_1.length : Int) : Int) := of_decide_eq_true (by first | (with_reducible assumption) | assumption); first | exact h_ | (have e_ := (Kd.R_reads' HO_9.out).1; omega) | simpa using h_); obtain rfl := k35_openM hM19; have HP19 := Kd.R_seg HX19.out ((ji13) : Int) (of_decide_eq_true (by first | (with_reducible assumption) | assumption)) (by have h_ : ((ji13) : Int) < ((x9_1.length : Int) : Int) := of_decide_eq_true (by first | (with_reducible assumption) | assumption); first | exact h_ | (have e_ := (Kd.R_reads' HO_9.out).1; omega) | simpa using h_) (seg := [.int .i64 (wrap64 (((rd_T35 x9_1 (ji13)).f1) + 1))]) (j := 1) hcl19 hcc19 (show 2 ≤ 2 from by decide) (x' := (⟨(rd_T35 x9_1 (ji13)).f0, wrap64 (((rd_T35 x9_1 (ji13)).f1) + 1)⟩ : S35)) (k35_mkM _ _ _ (⟨(rd_T35 x9_1 (ji13)).f0, wrap64 (((rd_T35 x9_1 (ji13)).f1) + 1)⟩ : S35) ) (fun _ hk => hk); have hx19_1 := hcc19 1 _ rfl; (try simp only [show (k35).sz = 2 from rfl, Nat.mul_one, Nat.add_zero] at hx19_1); have hf19_1 := hfr19 1; (try simp only [show (k35).sz = 2 from rfl, Nat.mul_one, Nat.add_zero] at hf19_1); clear hcl19 hcc19 hfr19 hM19) | ((with_reducible refine gate_store (t := 2) (p := 63) rfl ?_); (try (rw [drewN_self wr]; generalize hq_ : World.drewN wr _ = wr; have n0_ := Aside0.mk (Kd.R_at hq_ HO_9.out); have n1_ := Aside0.mk (below_at hq_ HB.out); clear hq_ HO_9 HB; have HO_9 := n0_; have HB := n1_; clear n0_ n1_; (try (have HX19 := Aside0.mk (show Kd.R k35 35 wr w.heap.size (fun _ => True) (.slice (some ⟨go17, 0, none⟩) x9_1.length co18) x9_1 from (by (with_reducible repeat (first | apply Kd.R_alloc | apply Kd.R_drewN | apply Kd.R_drew)); exact HO_9.out)))); (try (obtain ⟨ce19, hcl19, hM19, hcc19, hfr19⟩ := Kd.R_elem HX19.out z35 ((ji13) : Int) (of_decide_eq_true (by first | (with_reducible assumption) | assumption)) (by have h_ : ((ji13) : Int) < ((x9_1.length : Int) : Int) := of_decide_eq_true (by first | (with_reducible assumption) | assumption); first | exact h_ | (have e_ := (Kd.R_reads' HO_9.out).1; omega) | simpa using h_))); (try (obtain rfl := k35_openM hM19)); (try (have HP19 := Kd.R_seg HX19.out ((ji13) : Int) (of_decide_eq_true (by first | (with_reducible assumption) | assumption)) (by have h_ : ((ji13) : Int) < ((x9_1.length : Int) : Int) := of_decide_eq_true (by first | (with_reducible assumption) | assumption); first | exact h_ | (have e_ := (Kd.R_reads' HO_9.out).1; omega) | simpa using h_) (seg := [.int .i64 (wrap64 (((rd_T35 x9_1 (ji13)).f1) + 1))]) (j := 1) hcl19 hcc19 (show 2 ≤ 2 from by decide) (x' := (⟨(rd_T35 x9_1 (ji13)).f0, wrap64 (((rd_T35 x9_1 (ji13)).f1) + 1)⟩ : S35)) (k35_mkM _ _ _ (⟨(rd_T35 x9_1 (ji13)).f0, wrap64 (((rd_T35 x9_1 (ji13)).f1) + 1)⟩ : S35) ) (fun _ hk => hk))); (try (have hx19_1 := hcc19 1 _ rfl)); (try (try simp only [show (k35).sz = 2 from rfl, Nat.mul_one, Nat.add_zero] at hx19_1)); (try (have hf19_1 := hfr19 1)); (try (try simp only [show (k35).sz = 2 from rfl, Nat.mul_one, Nat.add_zero] at hf19_1)); (try (clear hcl19 hcc19 hfr19 hM19)))); refine store_event (t := 2) (p := 63) (v := ?vo_w20) (w1 := (wr.setCell ⟨go17, ((ji13) : Int).toNat * 2 + 1, none⟩ (.int .i64 (wrap64 (((rd_T35 x9_1 (ji13)).f1) + 1))))) ?hg ?ho ?hn ?hr ?_; (case ho => rfl); (case hg => rfl); (case hn => rfl); (case hr => first | (go_simp; done) | (go_simp; rfl)); intro w20 hw; have hg : wr.grownBy w20 (some go17) := (by rw [hw]; exact HP19.2); have hp_ : Kd.R k35 35 w20 w.heap.size (fun _ => True) (.slice (some ⟨go17, 0, none⟩) x9_1.length co18) y111 := (by rw [hw, Ny111.out]; exact HP19.1); clear HP19; have n0_ := Aside0.mk (hp_); have n1_ := Aside0.mk ((by rw [hw]; exact below_set (HB.out) GB17.out : Below w.heap.size w w20)); clear HO_9; clear HB; have HO_9 := n0_; have HB := n1_; clear n0_ n1_; clear hg hw hp_)))
                  go_roundg k1
                  case measure => have := HK1.out; omega
                  case rel => exact ⟨(y111), (wrap64 (x10_1 + 1)), (by first | rfl | (simp; done) | (simp [*]; done)), H', ⟨by have := HK1.out; omega⟩, ⟨by (with_reducible repeat (first | apply Kd.R_alloc | apply Kd.R_drewN | apply Kd.R_drew)); exact HO_9.out⟩, ⟨by repeat (first | (with_reducible first | exact HB.out | apply below_alloc | apply pw_below_drewN | apply below_drew1) | exact HB.out)⟩⟩
                · rw [if_neg c16] at H
                  have c16b0 : ((wrap64 (((rd_T35 x9_1 (ji13)).f0) + ((rd_T35 x9_1 (ji13)).f1))) == x10_1) = false := beq_eq_false_iff_ne.mpr c16
                  have c16b1 : ((wrap64 (((rd_T35 x9_1 (ji13)).f0) + ((rd_T35 x9_1 (ji13)).f1))) != x10_1) = true := bne_iff_ne.mpr c16
                  by_cases c21 : x9_1.length < 8796093022208
                  · rw [if_pos c21] at H
                    have LMc21 := Aside0.mk c21
                    clear c21
                    obtain ⟨y112, hy112⟩ : ∃ y_ : List (S35), y_ = (x9_1 ++ [(⟨x10_1, 1⟩ : S35)]) := ⟨_, rfl⟩
                    replace H : (spec_BitRuns.l0 k1 l0 t103 y112 (wrap64 (x10_1 + 1))) = some r := by first | (rw [hy112]; with_reducible exact H) | (have H2_ := (Option.bind_some _ _).symm.trans H; rw [hy112]; with_reducible exact H2_) | (have H2_ := (Option.bind_some _ _).symm.trans H; with_reducible exact H2_) | with_reducible exact H | (rw [hy112]; exact H) | exact H
                    have Ny112 := Aside0.mk hy112
                    clear hy112
                    have H' := Aside0.mk H
                    clear H
                    go_wp2_with (first | (go_at_call 19; (with_reducible refine (spec_BitGet.calls k1 _ _ l0 x10_1 false _ ?side1 ?side2 A9.out).mono ?_); (case side1 => repeat (first | exact (Kd.C_below HR0.out HB.out) | (with_reducible refine Kd.C_alloc ?_ _) | (with_reducible refine Kd.C_drewN ?_ _) | (with_reducible refine Kd.C_drew ?_))); (case side2 => exact HC0.out); rintro e w' ⟨rfl, ⟨nd, rfl⟩⟩; (try first | exact ⟨rfl, _, World.drewN_drewN _ _ _⟩ | exact ⟨rfl, _, Eq.trans (World.drewN_drewN _ _ _) (congrArg (World.drewN _) (Nat.add_assoc _ _ _))⟩); obtain ⟨Ao22, co22, eo22⟩ := Kd.R_slice HO_9.out; subst eo22; have p108 : 0 ≤ ((ji13) : Int) := of_decide_eq_true (by first | (with_reducible assumption) | assumption); have q108 : (ji13) < (x9_1.length : Int) := of_decide_eq_true (by first | (with_reducible assumption) | assumption); obtain ⟨ad108, e108, hx108_0, hx108_1⟩ := at_T35 (Kd.R_reads' HO_9.out).2.2 (ji13) p108 q108; cases e108; replace p108 := eq_true p108; replace q108 := eq_true q108; have p109 : 0 ≤ ((ji13) : Int) := of_decide_eq_true (by first | (with_reducible assumption) | assumption); have q109 : (ji13) < (x9_1.length : Int) := of_decide_eq_true (by first | (with_reducible assumption) | assumption); obtain ⟨ad109, e109, hx109_0, hx109_1⟩ := at_T35 (Kd.R_reads' HO_9.out).2.2 (ji13) p109 q109; obtain rfl : ad108 = ad109 := (by injection e109); replace p109 := eq_true p109; replace q109 := eq_true q109) | ((with_reducible refine gate_builtin (b := .append) (xs := #[.tmp 64, .tmp 67]) rfl ?_); at_builtin; refine Kd.R_append k35 (w0 := w) w.heap.size rfl (.tmp 64) (.tmp 67) 23 35 (.agg #[(.int .i64 0), (.int .i64 0)]) 16 rfl Try.underlying23 info35 rfl (by decide) (by omega) (.slice (some ad108) x9_1.length co22) x9_1 (⟨x10_1, 1⟩ : S35) [.int .i64 x10_1, .int .i64 1] (fun _ => True) (fun _ => False) rfl rfl ?aP (fun _ hk => hk.elim) ?aF ?aO ?aB ?aS ?aL ?_; (case aP => exact k35_mkM _ _ _ (⟨x10_1, 1⟩ : S35)); (case aB => exact (by repeat (first | (with_reducible first | exact HB.out | apply below_alloc | apply pw_below_drewN | apply below_drew1) | exact HB.out))); (case aF => exact (fun _ _ => trivial)); (case aO => exact (by (with_reducible repeat (first | apply Kd.R_alloc | apply Kd.R_drewN | apply Kd.R_drew)); exact HO_9.out)); (case aS => exact (below_size (by repeat (first | (with_reducible first | exact HB.out | apply below_alloc | apply pw_below_drewN | apply below_drew1) | exact HB.out)))); (case aL => have := LMc21.out; omega); intro v113 w23 ho hb hg hat; rw [← Ny112.out] at ho; have n0_ := Aside0.mk (hb); have n1_ := Aside0.mk (ho); clear HB; clear HO_9; have HB := n0_; have HO114 := n1_; clear n0_ n1_; clear ho hb hg hat))
                    repeat (go_quiet (first | (go_at_call 19; (with_reducible refine (spec_BitGet.calls k1 _ _ l0 x10_1 false _ ?side1 ?side2 A9.out).mono ?_); (case side1 => repeat (first | exact (Kd.C_below HR0.out HB.out) | (with_reducible refine Kd.C_alloc ?_ _) | (with_reducible refine Kd.C_drewN ?_ _) | (with_reducible refine Kd.C_drew ?_))); (case side2 => exact HC0.out); rintro e w' ⟨rfl, ⟨nd, rfl⟩⟩; (try first | exact ⟨rfl, _, World.drewN_drewN _ _ _⟩ | exact ⟨rfl, _, Eq.trans (World.drewN_drewN _ _ _) (congrArg (World.drewN _) (Nat.add_assoc _ _ _))⟩); obtain ⟨Ao22, co22, eo22⟩ := Kd.R_slice HO_9.out; subst eo22; have p108 : 0 ≤ ((ji13) : Int) := of_decide_eq_true (by first | (with_reducible assumption) | assumption); have q108 : (ji13) < (x9_1.length : Int) := of_decide_eq_true (by first | (with_reducible assumption) | assumption); obtain ⟨ad108, e108, hx108_0, hx108_1⟩ := at_T35 (Kd.R_reads' HO_9.out).2.2 (ji13) p108 q108; cases e108; replace p108 := eq_true p108; replace q108 := eq_true q108; have p109 : 0 ≤ ((ji13) : Int) := of_decide_eq_true (by first | (with_reducible assumption) | assumption); have q109 : (ji13) < (x9_1.length : Int) := of_decide_eq_true (by first | (with_reducible assumption) | assumption); obtain ⟨ad109, e109, hx109_0, hx109_1⟩ := at_T35 (Kd.R_reads' HO_9.out).2.2 (ji13) p109 q109; obtain rfl : ad108 = ad109 := (by injection e109); replace p109 := eq_true p109; replace q109 := eq_true q109) | ((with_reducible refine gate_builtin (b := .append) (xs := #[.tmp 64, .tmp 67]) rfl ?_); at_builtin; refine Kd.R_append k35 (w0 := w) w.heap.size rfl (.tmp 64) (.tmp 67) 23 35 (.agg #[(.int .i64 0), (.int .i64 0)]) 16 rfl Try.underlying23 info35 rfl (by decide) (by omega) (.slice (some ad108) x9_1.length co22) x9_1 (⟨x10_1, 1⟩ : S35) [.int .i64 x10_1, .int .i64 1] (fun _ => True) (fun _ => False) rfl rfl ?aP (fun _ hk => hk.elim) ?aF ?aO ?aB ?aS ?aL ?_; (case aP => exact k35_mkM _ _ _ (⟨x10_1, 1⟩ : S35)); (case aB => exact (by repeat (first | (with_reducible first | exact HB.out | apply below_alloc | apply pw_below_drewN | apply below_drew1) | exact HB.out))); (case aF => exact (fun _ _ => trivial)); (case aO => exact (by (with_reducible repeat (first | apply Kd.R_alloc | apply Kd.R_drewN | apply Kd.R_drew)); exact HO_9.out)); (case aS => exact (below_size (by repeat (first | (with_reducible first | exact HB.out | apply below_alloc | apply pw_below_drewN | apply below_drew1) | exact HB.out)))); (case aL => have := LMc21.out; omega); intro v113 w23 ho hb hg hat; rw [← Ny112.out] at ho; have n0_ := Aside0.mk (hb); have n1_ := Aside0.mk (ho); clear HB; clear HO_9; have HB := n0_; have HO114 := n1_; clear n0_ n1_; clear ho hb hg hat)); try go_wp2_with (first | (go_at_call 19; (with_reducible refine (spec_BitGet.calls k1 _ _ l0 x10_1 false _ ?side1 ?side2 A9.out).mono ?_); (case side1 => repeat (first | exact (Kd.C_below HR0.out HB.out) | (with_reducible refine Kd.C_alloc ?_ _) | (with_reducible refine Kd.C_drewN ?_ _) | (with_reducible refine Kd.C_drew ?_))); (case side2 => exact HC0.out); rintro e w' ⟨rfl, ⟨nd, rfl⟩⟩; (try first | exact ⟨rfl, _, World.drewN_drewN _ _ _⟩ | exact ⟨rfl, _, Eq.trans (World.drewN_drewN _ _ _) (congrArg (World.drewN _) (Nat.add_assoc _ _ _))⟩); obtain ⟨Ao22, co22, eo22⟩ := Kd.R_slice HO_9.out; subst eo22; have p108 : 0 ≤ ((ji13) : Int) := of_decide_eq_true (by first | (with_reducible assumption) | assumption); have q108 : (ji13) < (x9_1.length : Int) := of_decide_eq_true (by first | (with_reducible assumption) | assumption); obtain ⟨ad108, e108, hx108_0, hx108_1⟩ := at_T35 (Kd.R_reads' HO_9.out).2.2 (ji13) p108 q108; cases e108; replace p108 := eq_true p108; replace q108 := eq_true q108; have p109 : 0 ≤ ((ji13) : Int) := of_decide_eq_true (by first | (with_reducible assumption) | assumption); have q109 : (ji13) < (x9_1.length : Int) := of_decide_eq_true (by first | (with_reducible assumption) | assumption); obtain ⟨ad109, e109, hx109_0, hx109_1⟩ := at_T35 (Kd.R_reads' HO_9.out).2.2 (ji13) p109 q109; obtain rfl : ad108 = ad109 := (by injection e109); replace p109 := eq_true p109; replace q109 := eq_true q109) | ((with_reducible refine gate_builtin (b := .append) (xs := #[.tmp 64, .tmp 67]) rfl ?_); at_builtin; refine Kd.R_append k35 (w0 := w) w.heap.size rfl (.tmp 64) (.tmp 67) 23 35 (.agg #[(.int .i64 0), (.int .i64 0)]) 16 rfl Try.underlying23 info35 rfl (by decide) (by omega) (.slice (some ad108) x9_1.length co22) x9_1 (⟨x10_1, 1⟩ : S35) [.int .i64 x10_1, .int .i64 1] (fun _ => True) (fun _ => False) rfl rfl ?aP (fun _ hk => hk.elim) ?aF ?aO ?aB ?aS ?aL ?_; (case aP => exact k35_mkM _ _ _ (⟨x10_1, 1⟩ : S35)); (case aB => exact (by repeat (first | (with_reducible first | exact HB.out | apply below_alloc | apply pw_below_drewN | apply below_drew1) | exact HB.out))); (case aF => exact (fun _ _ => trivial)); (case aO => exact (by (with_reducible repeat (first | apply Kd.R_alloc | apply Kd.R_drewN | apply Kd.R_drew)); exact HO_9.out)); (case aS => exact (below_size (by repeat (first | (with_reducible first | exact HB.out | apply below_alloc | apply pw_below_drewN | apply below_drew1) | exact HB.out)))); (case aL => have := LMc21.out; omega); intro v113 w23 ho hb hg hat; rw [← Ny112.out] at ho; have n0_ := Aside0.mk (hb); have n1_ := Aside0.mk (ho); clear HB; clear HO_9; have HB := n0_; have HO114 := n1_; clear n0_ n1_; clear ho hb hg hat)))
                    go_roundg k1
                    case measure => have := HK1.out; omega
                    case rel => exact ⟨(y112), (wrap64 (x10_1 + 1)), (by first | rfl | (simp; done) | (simp [*]; done)), H', ⟨by have := HK1.out; omega⟩, ⟨by (with_reducible repeat (first | apply Kd.R_alloc | apply Kd.R_drewN | apply Kd.R_drew)); exact HO114.out⟩, ⟨by repeat (first | (with_reducible first | exact HB.out | apply below_alloc | apply pw_below_drewN | apply below_drew1) | exact HB.out)⟩⟩
                  · rw [if_neg c21] at H
                    exact absurd H (by simp)
              · rw [if_neg c15] at H
                exact absurd H (by simp)
            · rw [if_neg c14] at H
              exact absurd H (by simp)
          · rw [if_neg c12] at H
            have c12b0 : decide (0 < (x9_1.length : Int)) = false := decide_eq_false c12
            have c12b1 : decide (0 < x9_1.length) = false := decide_eq_false (by omega)
            clear c12
            by_cases c24 : x9_1.length < 8796093022208
            · rw [if_pos c24] at H
              have LMc24 := Aside0.mk c24
              clear c24
              obtain ⟨y115, hy115⟩ : ∃ y_ : List (S35), y_ = (x9_1 ++ [(⟨x10_1, 1⟩ : S35)]) := ⟨_, rfl⟩
              replace H : (spec_BitRuns.l0 k1 l0 t103 y115 (wrap64 (x10_1 + 1))) = some r := by first | (rw [hy115]; with_reducible exact H) | (have H2_ := (Option.bind_some _ _).symm.trans H; rw [hy115]; with_reducible exact H2_) | (have H2_ := (Option.bind_some _ _).symm.trans H; with_reducible exact H2_) | with_reducible exact H | (rw [hy115]; exact H) | exact H
              have Ny115 := Aside0.mk hy115
              clear hy115
              have H' := Aside0.mk H
              clear H
              go_wp2_with (first | (go_at_call 19; (with_reducible refine (spec_BitGet.calls k1 _ _ l0 x10_1 false _ ?side1 ?side2 A9.out).mono ?_); (case side1 => repeat (first | exact (Kd.C_below HR0.out HB.out) | (with_reducible refine Kd.C_alloc ?_ _) | (with_reducible refine Kd.C_drewN ?_ _) | (with_reducible refine Kd.C_drew ?_))); (case side2 => exact HC0.out); rintro e w' ⟨rfl, ⟨nd, rfl⟩⟩; (try first | exact ⟨rfl, _, World.drewN_drewN _ _ _⟩ | exact ⟨rfl, _, Eq.trans (World.drewN_drewN _ _ _) (congrArg (World.drewN _) (Nat.add_assoc _ _ _))⟩); obtain ⟨Ao25, co25, eo25⟩ := Kd.R_slice HO_9.out; subst eo25) | ((with_reducible refine gate_builtin (b := .append) (xs := #[.tmp 64, .tmp 67]) rfl ?_); at_builtin; refine Kd.R_append k35 (w0 := w) w.heap.size rfl (.tmp 64) (.tmp 67) 23 35 (.agg #[(.int .i64 0), (.int .i64 0)]) 16 rfl Try.underlying23 info35 rfl (by decide) (by omega) (.slice Ao25 x9_1.length co25) x9_1 (⟨x10_1, 1⟩ : S35) [.int .i64 x10_1, .int .i64 1] (fun _ => True) (fun _ => False) rfl rfl ?aP (fun _ hk => hk.elim) ?aF ?aO ?aB ?aS ?aL ?_; (case aP => exact k35_mkM _ _ _ (⟨x10_1, 1⟩ : S35)); (case aB => exact (by repeat (first | (with_reducible first | exact HB.out | apply below_alloc | apply pw_below_drewN | apply below_drew1) | exact HB.out))); (case aF => exact (fun _ _ => trivial)); (case aO => exact (by (with_reducible repeat (first | apply Kd.R_alloc | apply Kd.R_drewN | apply Kd.R_drew)); exact HO_9.out)); (case aS => exact (below_size (by repeat (first | (with_reducible first | exact HB.out | apply below_alloc | apply pw_below_drewN | apply below_drew1) | exact HB.out)))); (case aL => have := LMc24.out; omega); intro v116 w26 ho hb hg hat; rw [← Ny115.out] at ho; have n0_ := Aside0.mk (hb); have n1_ := Aside0.mk (ho); clear HB; clear HO_9; have HB := n0_; have HO117 := n1_; clear n0_ n1_; clear ho hb hg hat))
              repeat (go_quiet (first | (go_at_call 19; (with_reducible refine (spec_BitGet.calls k1 _ _ l0 x10_1 false _ ?side1 ?side2 A9.out).mono ?_); (case side1 => repeat (first | exact (Kd.C_below HR0.out HB.out) | (with_reducible refine Kd.C_alloc ?_ _) | (with_reducible refine Kd.C_drewN ?_ _) | (with_reducible refine Kd.C_drew ?_))); (case side2 => exact HC0.out); rintro e w' ⟨rfl, ⟨nd, rfl⟩⟩; (try first | exact ⟨rfl, _, World.drewN_drewN _ _ _⟩ | exact ⟨rfl, _, Eq.trans (World.drewN_drewN _ _ _) (congrArg (World.drewN _) (Nat.add_assoc _ _ _))⟩); obtain ⟨Ao25, co25, eo25⟩ := Kd.R_slice HO_9.out; subst eo25) | ((with_reducible refine gate_builtin (b := .append) (xs := #[.tmp 64, .tmp 67]) rfl ?_); at_builtin; refine Kd.R_append k35 (w0 := w) w.heap.size rfl (.tmp 64) (.tmp 67) 23 35 (.agg #[(.int .i64 0), (.int .i64 0)]) 16 rfl Try.underlying23 info35 rfl (by decide) (by omega) (.slice Ao25 x9_1.length co25) x9_1 (⟨x10_1, 1⟩ : S35) [.int .i64 x10_1, .int .i64 1] (fun _ => True) (fun _ => False) rfl rfl ?aP (fun _ hk => hk.elim) ?aF ?aO ?aB ?aS ?aL ?_; (case aP => exact k35_mkM _ _ _ (⟨x10_1, 1⟩ : S35)); (case aB => exact (by repeat (first | (with_reducible first | exact HB.out | apply below_alloc | apply pw_below_drewN | apply below_drew1) | exact HB.out))); (case aF => exact (fun _ _ => trivial)); (case aO => exact (by (with_reducible repeat (first | apply Kd.R_alloc | apply Kd.R_drewN | apply Kd.R_drew)); exact HO_9.out)); (case aS => exact (below_size (by repeat (first | (with_reducible first | exact HB.out | apply below_alloc | apply pw_below_drewN | apply below_drew1) | exact HB.out)))); (case aL => have := LMc24.out; omega); intro v116 w26 ho hb hg hat; rw [← Ny115.out] at ho; have n0_ := Aside0.mk (hb); have n1_ := Aside0.mk (ho); clear HB; clear HO_9; have HB := n0_; have HO117 := n1_; clear n0_ n1_; clear ho hb hg hat)); try go_wp2_with (first | (go_at_call 19; (with_reducible refine (spec_BitGet.calls k1 _ _ l0 x10_1 false _ ?side1 ?side2 A9.out).mono ?_); (case side1 => repeat (first | exact (Kd.C_below HR0.out HB.out) | (with_reducible refine Kd.C_alloc ?_ _) | (with_reducible refine Kd.C_drewN ?_ _) | (with_reducible refine Kd.C_drew ?_))); (case side2 => exact HC0.out); rintro e w' ⟨rfl, ⟨nd, rfl⟩⟩; (try first | exact ⟨rfl, _, World.drewN_drewN _ _ _⟩ | exact ⟨rfl, _, Eq.trans (World.drewN_drewN _ _ _) (congrArg (World.drewN _) (Nat.add_assoc _ _ _))⟩); obtain ⟨Ao25, co25, eo25⟩ := Kd.R_slice HO_9.out; subst eo25) | ((with_reducible refine gate_builtin (b := .append) (xs := #[.tmp 64, .tmp 67]) rfl ?_); at_builtin; refine Kd.R_append k35 (w0 := w) w.heap.size rfl (.tmp 64) (.tmp 67) 23 35 (.agg #[(.int .i64 0), (.int .i64 0)]) 16 rfl Try.underlying23 info35 rfl (by decide) (by omega) (.slice Ao25 x9_1.length co25) x9_1 (⟨x10_1, 1⟩ : S35) [.int .i64 x10_1, .int .i64 1] (fun _ => True) (fun _ => False) rfl rfl ?aP (fun _ hk => hk.elim) ?aF ?aO ?aB ?aS ?aL ?_; (case aP => exact k35_mkM _ _ _ (⟨x10_1, 1⟩ : S35)); (case aB => exact (by repeat (first | (with_reducible first | exact HB.out | apply below_alloc | apply pw_below_drewN | apply below_drew1) | exact HB.out))); (case aF => exact (fun _ _ => trivial)); (case aO => exact (by (with_reducible repeat (first | apply Kd.R_alloc | apply Kd.R_drewN | apply Kd.R_drew)); exact HO_9.out)); (case aS => exact (below_size (by repeat (first | (with_reducible first | exact HB.out | apply below_alloc | apply pw_below_drewN | apply below_drew1) | exact HB.out)))); (case aL => have := LMc24.out; omega); intro v116 w26 ho hb hg hat; rw [← Ny115.out] at ho; have n0_ := Aside0.mk (hb); have n1_ := Aside0.mk (ho); clear HB; clear HO_9; have HB := n0_; have HO117 := n1_; clear n0_ n1_; clear ho hb hg hat)))
              go_roundg k1
              case measure => have := HK1.out; omega
              case rel => exact ⟨(y115), (wrap64 (x10_1 + 1)), (by first | rfl | (simp; done) | (simp [*]; done)), H', ⟨by have := HK1.out; omega⟩, ⟨by (with_reducible repeat (first | apply Kd.R_alloc | apply Kd.R_drewN | apply Kd.R_drew)); exact HO117.out⟩, ⟨by repeat (first | (with_reducible first | exact HB.out | apply below_alloc | apply pw_below_drewN | apply below_drew1) | exact HB.out)⟩⟩
            · rw [if_neg c24] at H
              exact absurd H (by simp)
      · rw [if_neg c8] at H
        have c8b0 : decide (x10_1 < t103) = false := decide_eq_false c8
        clear c8
        obtain rfl := Option.some.inj H
        go_wp2
        repeat (go_quiet (fail); try go_wp2)
        go_ret
        exact ⟨_, by first | rfl | (simp [errW_none, errW_some] <;> rfl) | (simp [*, errW_none, errW_some] <;> rfl), by (with_reducible repeat (first | apply Kd.R_alloc | apply Kd.R_drewN | apply Kd.R_drew)); exact HO_9.out, by repeat (first | (with_reducible first | exact HB.out | apply below_alloc | apply pw_below_drewN | apply below_drew1) | exact HB.out)⟩

/-! ### laws_toByteS: function 9 -/
def laws_toByteS.l0 : Nat → List Int → List Int → Int → Option (List Int)
  | 0, _, _, _ => none
  | k + 1, x0, x3, x4 => if x4 < (x0.length : Int) then (if 0 ≤ x4 then (if x4 < (x3.length : Int) then (laws_toByteS.l0 k x0 (x3.set (x4 : Int).toNat (rd x0 x4)) (wrap64 (x4 + 1))) else (none)) else (none)) else (some x3)
def laws_toByteS.f (k : Nat) (l0 : List Int) : Option (List Int) := if 0 ≤ (l0.length : Int) then (if ((l0.length : Int) : Int).toNat ≤ 281474976710656 then (laws_toByteS.l0 k l0 (List.replicate ((l0.length : Int) : Int).toNat 0) 0) else (none)) else (none)
theorem laws_toByteS.mono_l : ∀ k, (∀ y0 y1 y2, LeO (laws_toByteS.l0 k y0 y1 y2) (laws_toByteS.l0 (k + 1) y0 y1 y2))
  | 0 => fun _ _ _ r h => by simp [laws_toByteS.l0] at h
  | k + 1 => by
    have ih0 := laws_toByteS.mono_l k
    · intro y0 y1 y2
      unfold laws_toByteS.l0
      repeat' first
      | (with_reducible exact ih0 _ _ _)
      | (with_reducible exact LeO.refl _)
      | (with_reducible exact LeO.none _)
      | (with_reducible refine LeO.ite ?_ ?_)
      | (with_reducible refine LeO.bind ?_ (fun _ => ?_))
      | exact ih0 _ _ _
      | exact LeO.none _
      | refine LeO.ite ?_ ?_
      | refine LeO.bind ?_ (fun _ => ?_)
theorem laws_toByteS.mono : ∀ a0 k, LeO (laws_toByteS.f k a0) (laws_toByteS.f (k + 1) a0) := by
  intro a0 k
  have ih0 := laws_toByteS.mono_l k
  unfold laws_toByteS.f
  repeat' first
      | (with_reducible exact ih0 _ _ _)
      | (with_reducible exact LeO.refl _)
      | (with_reducible exact LeO.none _)
      | (with_reducible refine LeO.ite ?_ ?_)
      | (with_reducible refine LeO.bind ?_ (fun _ => ?_))
      | exact ih0 _ _ _
      | exact LeO.none _
      | refine LeO.ite ?_ ?_
      | refine LeO.bind ?_ (fun _ => ?_)
set_option maxHeartbeats 8000000 in
set_option maxRecDepth 100000 in
theorem laws_toByteS.calls (k : Nat) (A0 : Option Addr) (c0 : Nat) (l0 : List Int) (r : List Int) (w : World) (hr0 : Kd.C (Kd.int .u8) w A0 l0.length l0) (hc0 : l0.length ≤ c0) (h : laws_toByteS.f k l0 = some r) :
    Calls Try.prog 9 #[.slice A0 l0.length c0] w fun e w' => ∃ v0_ : Value, e = .returned (v0_) ∧ Kd.R (Kd.int .u8) 5 w' w.heap.size (fun _ => True) v0_ r ∧ Below w.heap.size w w' := by
  have HR0 := Aside0.mk hr0
  have HC0 := Aside0.mk hc0
  clear hr0 hc0
  have HB := Aside0.mk (Below.refl w.heap.size w)
  have H : (if 0 ≤ (l0.length : Int) then (if ((l0.length : Int) : Int).toNat ≤ 281474976710656 then (laws_toByteS.l0 k l0 (List.replicate ((l0.length : Int) : Int).toNat 0) 0) else (none)) else (none)) = some r := h
  clear h
  by_cases c2 : 0 ≤ (l0.length : Int)
  · rw [if_pos c2] at H
    have c2b0 := eq_true c2
    have c2b1 : decide (0 ≤ (l0.length : Int)) = true := decide_eq_true c2
    clear c2
    by_cases c3 : ((l0.length : Int) : Int).toNat ≤ 281474976710656
    · rw [if_pos c3] at H
      have c3b0 := eq_true c3
      have c3b1 : decide (((l0.length : Int) : Int).toNat ≤ 281474976710656) = true := decide_eq_true c3
      clear c3
      obtain ⟨y118, hy118⟩ : ∃ y_ : List Int, y_ = (List.replicate ((l0.length : Int) : Int).toNat 0) := ⟨_, rfl⟩
      replace H : (laws_toByteS.l0 k l0 y118 0) = some r := by first | (rw [hy118]; with_reducible exact H) | (have H2_ := (Option.bind_some _ _).symm.trans H; rw [hy118]; with_reducible exact H2_) | (have H2_ := (Option.bind_some _ _).symm.trans H; with_reducible exact H2_) | with_reducible exact H | (rw [hy118]; exact H) | exact H
      have Ny118 := Aside0.mk hy118
      clear hy118
      have H' := Aside0.mk H
      clear H
      go_enter Try.func9, Try.ntmps9
      go_wp2_with (first | ((with_reducible refine gate_dst (N := 7) rfl ?_); refine Kd.R_make (Kd.int .u8) _ 5 rfl (N := 7) rfl 22 _ _ rfl (l0.length : Int) rfl rfl Try.underlying22 (.int .u8 0) 1 info5 rfl (by decide) (by omega) 0 (ok := fun _ => True) (okp := fun _ => True) rfl (fun _ hk => hk) trivial (of_decide_eq_true (by first | (with_reducible assumption) | assumption)) (Nat.le_trans (Nat.mul_le_mul_right _ (of_decide_eq_true (by first | (with_reducible assumption) | assumption) : (l0.length : Int).toNat ≤ 281474976710656)) (by omega)) (Below.refl _ _) (Nat.le_refl _) ?_; intro v119 w4 ho5 hb hg_ hnew_; clear hg_ hnew_; (first | rw [← Ny118.out] at ho5 | (simp only [Int.reduceToNat] at ho5; rw [← Ny118.out] at ho5)); have n0_ := Aside0.mk (Kd.R_lower ho5 (below_size (by repeat (first | (with_reducible first | exact HB.out | apply below_alloc | apply pw_below_drewN | apply below_drew1) | exact HB.out)))); have n1_ := Aside0.mk (below_step (by repeat (first | (with_reducible first | exact HB.out | apply below_alloc | apply pw_below_drewN | apply below_drew1) | exact HB.out)) hb); clear HB; have HO120 := n0_; have HB := n1_; clear n0_ n1_; clear hb ho5))
      go_loopg [4] k (fun kq v4 w' => ∃ (x3_1 : List Int) (x4_1 : Int), v4 = .int .i64 x4_1 ∧ Aside0 (laws_toByteS.l0 kq l0 x3_1 x4_1 = some r) ∧ Aside0 (kq ≤ k) ∧ Aside0 (Kd.R (Kd.int .u8) 5 w' w.heap.size (fun _ => True) v119 x3_1) ∧ Aside0 (Below w.heap.size w w'))
      case atStart => exact ⟨(y118), (0), (by first | rfl | (simp; done) | (simp [*]; done)), H', ⟨Nat.le_refl _⟩, ⟨by (with_reducible repeat (first | apply Kd.R_alloc | apply Kd.R_drewN | apply Kd.R_drew)); exact HO120.out⟩, ⟨by repeat (first | (with_reducible first | exact HB.out | apply below_alloc | apply pw_below_drewN | apply below_drew1) | exact HB.out)⟩⟩
      case round =>
        clear H'
        try clear c2
        try clear c2b0
        try clear c2b1
        try clear p2
        try clear c3
        try clear c3b0
        try clear c3b1
        obtain ⟨x3_1, x4_1, rfl, HA, HK1, HO_3, HB⟩ := hrel
        cases gk with
        | zero => exact absurd HA.out (by simp [laws_toByteS.l0])
        | succ k1 =>
          have H := HA.out
          clear HA
          simp only [laws_toByteS.l0] at H
          by_cases c6 : x4_1 < (l0.length : Int)
          · rw [if_pos c6] at H
            have c6b0 : decide (x4_1 < (l0.length : Int)) = true := decide_eq_true c6
            clear c6
            by_cases c7 : 0 ≤ x4_1
            · rw [if_pos c7] at H
              have c7b0 : decide (0 ≤ x4_1) = true := decide_eq_true c7
              clear c7
              by_cases c8 : x4_1 < (x3_1.length : Int)
              · rw [if_pos c8] at H
                have c8b0 : decide (x4_1 < (x3_1.length : Int)) = true := decide_eq_true c8
                clear c8
                obtain ⟨y122, hy122⟩ : ∃ y_ : List Int, y_ = (x3_1.set (x4_1 : Int).toNat (rd l0 x4_1)) := ⟨_, rfl⟩
                replace H : (laws_toByteS.l0 k1 l0 y122 (wrap64 (x4_1 + 1))) = some r := by first | (rw [hy122]; with_reducible exact H) | (have H2_ := (Option.bind_some _ _).symm.trans H; rw [hy122]; with_reducible exact H2_) | (have H2_ := (Option.bind_some _ _).symm.trans H; with_reducible exact H2_) | with_reducible exact H | (rw [hy122]; exact H) | exact H
                have Ny122 := Aside0.mk hy122
                clear hy122
                have H' := Aside0.mk H
                clear H
                have p121 : 0 ≤ (x4_1 : Int) := of_decide_eq_true (by first | (with_reducible assumption) | assumption)
                have q121 : x4_1 < (l0.length : Int) := of_decide_eq_true (by first | (with_reducible assumption) | assumption)
                obtain ⟨ad121, e121, hx121_0⟩ := Kd.at_int HR0.out x4_1 p121 q121
                cases e121
                replace hx121_0 := (HB.out.cell (World.block_lt_of_cell? w _ hx121_0)).trans hx121_0
                replace p121 := eq_true p121
                replace q121 := eq_true q121
                have p9 : 0 ≤ (x4_1 : Int) := of_decide_eq_true (by first | (with_reducible assumption) | assumption)
                have q9 : (x4_1 : Int) < ((x3_1.length : Int) : Int) := of_decide_eq_true (by first | (with_reducible assumption) | assumption)
                obtain ⟨go9, co9, eo9, gb9, gl9, cl9, HG9⟩ := Kd.R_form HO_3.out (by omega)
                (first | cases eo9 | (injection eo9 with ea_ en_ ec_; (first | subst ea_ | (injection ea_ with ea_; subst ea_)); subst ec_; clear en_))
                have GB9 := Aside0.mk gb9
                have GG9 := Aside0.mk HG9
                clear gb9 gl9 HG9
                obtain ⟨hx9_0, hf9_0⟩ := Kd.R_celln 0 HO_3.out (x4_1 : Int) p9 q9
                replace p9 := eq_true p9
                replace q9 := eq_true q9
                have HP10 := Kd.R_putg HO_3.out (x4_1 : Int) (rd l0 x4_1)
                go_wp2_with (first | ((with_reducible refine gate_store (t := 5) (p := 20) rfl ?_); refine store_event (t := 5) (p := 20) (v := ?vo_w11) (w1 := (wr.setCell ⟨go9, (x4_1 : Int).toNat, none⟩ (.int .u8 (rd l0 x4_1)))) ?hg ?ho ?hn ?hr ?_; (case ho => rfl); (case hg => rfl); (case hn => rfl); (case hr => first | (go_simp; done) | (go_simp; rfl)); intro w11 hw; have hg : wr.grownBy w11 (some go9) := (by rw [hw]; exact HP10.2); have hp_ : Kd.R (Kd.int .u8) 5 w11 w.heap.size (fun _ => True) (.slice (some ⟨go9, 0, none⟩) x3_1.length co9) y122 := (by rw [hw, Ny122.out]; exact HP10.1); clear HP10; have n0_ := Aside0.mk (hp_); have n1_ := Aside0.mk ((by rw [hw]; exact below_set (HB.out) GB9.out : Below w.heap.size w w11)); clear HO_3; clear HB; have HO_3 := n0_; have HB := n1_; clear n0_ n1_; clear hg hw hp_))
                go_roundg k1
                case measure => have := HK1.out; omega
                case rel => exact ⟨(y122), (wrap64 (x4_1 + 1)), (by first | rfl | (simp; done) | (simp [*]; done)), H', ⟨by have := HK1.out; omega⟩, ⟨by (with_reducible repeat (first | apply Kd.R_alloc | apply Kd.R_drewN | apply Kd.R_drew)); exact HO_3.out⟩, ⟨by repeat (first | (with_reducible first | exact HB.out | apply below_alloc | apply pw_below_drewN | apply below_drew1) | exact HB.out)⟩⟩
              · rw [if_neg c8] at H
                exact absurd H (by simp)
            · rw [if_neg c7] at H
              exact absurd H (by simp)
          · rw [if_neg c6] at H
            have c6b0 : decide (x4_1 < (l0.length : Int)) = false := decide_eq_false c6
            clear c6
            obtain rfl := Option.some.inj H
            go_wp2
            go_ret
            exact ⟨_, by first | rfl | (simp [errW_none, errW_some] <;> rfl) | (simp [*, errW_none, errW_some] <;> rfl), by (with_reducible repeat (first | apply Kd.R_alloc | apply Kd.R_drewN | apply Kd.R_drew)); exact HO_3.out, by repeat (first | (with_reducible first | exact HB.out | apply below_alloc | apply pw_below_drewN | apply below_drew1) | exact HB.out)⟩
    · rw [if_neg c3] at H
      exact absurd H (by simp)
  · rw [if_neg c2] at H
    exact absurd H (by simp)

/-! ### impl_bitlen: function 33 -/
def impl_bitlen.f (l0 : List Int) : Option (Int) := if (l0.length : Int) > 2048 then (some 0) else (some (wrap64 ((l0.length : Int) * 8)))
set_option maxHeartbeats 8000000 in
set_option maxRecDepth 100000 in
theorem impl_bitlen.calls (A0 : Option Addr) (c0 : Nat) (l0 : List Int) (r : Int) (w : World) (hr0 : Kd.C (Kd.int .u8) w A0 l0.length l0) (hc0 : l0.length ≤ c0) (h : impl_bitlen.f l0 = some r) :
    Calls Try.prog 33 #[.slice A0 l0.length c0] w fun e w' => e = .returned (.int .i64 r) ∧ Drawn0 w w' := by
  have HR0 := Aside0.mk hr0
  have HC0 := Aside0.mk hc0
  clear hr0 hc0
  have H : (if (l0.length : Int) > 2048 then (some 0) else (some (wrap64 ((l0.length : Int) * 8)))) = some r := h
  clear h
  by_cases c2 : (l0.length : Int) > 2048
  · rw [if_pos c2] at H
    have c2b0 : decide (2048 < (l0.length : Int)) = true := decide_eq_true c2
    have c2b1 : decide (2048 < l0.length) = true := decide_eq_true (by omega)
    clear c2
    obtain rfl := Option.some.inj H
    go_enter Try.func33, Try.ntmps33
    go_wp2
    go_ret
    exact ⟨by first | rfl | (simp; done) | (simp [*]; done), by repeat (first | exact Drawn0.refl _ | apply Drawn0.step)⟩
  · rw [if_neg c2] at H
    have c2b0 : decide (2048 < (l0.length : Int)) = false := decide_eq_false c2
    have c2b1 : decide (2048 < l0.length) = false := decide_eq_false (by omega)
    clear c2
    obtain rfl := Option.some.inj H
    go_enter Try.func33, Try.ntmps33
    go_wp2
    go_ret
    exact ⟨by first | rfl | (simp; done) | (simp [*]; done), by repeat (first | exact Drawn0.refl _ | apply Drawn0.step)⟩

/-! ### impl_BitGet: function 20 -/
def impl_BitGet.f (l0 : List Int) (a1 : Int) : Option (Bool) := if a1 ≥ 0 then ((impl_bitlen.f l0).bind fun t123 => (if a1 < t123 then (if 0 ≤ (wrap64 (Int.tdiv a1 8)) then (if (wrap64 (Int.tdiv a1 8)) < (l0.length : Int) then (if 0 ≤ (Int.tmod a1 8) then (some ((Go.bits .and .u8 (shr .u8 (rd l0 (wrap64 (Int.tdiv a1 8))) (Int.tmod a1 8)) 1) == 1)) else (none)) else (none)) else (none)) else (some false))) else (some false)
set_option maxHeartbeats 8000000 in
set_option maxRecDepth 100000 in
theorem impl_BitGet.calls (A0 : Option Addr) (c0 : Nat) (l0 : List Int) (a1 : Int) (r : Bool) (w : World) (hr0 : Kd.C (Kd.int .u8) w A0 l0.length l0) (hc0 : l0.length ≤ c0) (h : impl_BitGet.f l0 a1 = some r) :
    Calls Try.prog 20 #[.slice A0 l0.length c0, .int .i64 a1] w fun e w' => e = .returned (.bool r) ∧ Drawn0 w w' := by
  have HR0 := Aside0.mk hr0
  have HC0 := Aside0.mk hc0
  clear hr0 hc0
  have H : (if a1 ≥ 0 then ((impl_bitlen.f l0).bind fun t123 => (if a1 < t123 then (if 0 ≤ (wrap64 (Int.tdiv a1 8)) then (if (wrap64 (Int.tdiv a1 8)) < (l0.length : Int) then (if 0 ≤ (Int.tmod a1 8) then (some ((Go.bits .and .u8 (shr .u8 (rd l0 (wrap64 (Int.tdiv a1 8))) (Int.tmod a1 8)) 1) == 1)) else (none)) else (none)) else (none)) else (some false))) else (some false)) = some r := h
  clear h
  by_cases c3 : a1 ≥ 0
  · rw [if_pos c3] at H
    have c3b0 : decide (0 ≤ a1) = true := decide_eq_true c3
    clear c3
    replace H := Option.bind_eq_some_iff.mp H
    obtain ⟨t123, A40, H⟩ := H
    replace H : (if a1 < t123 then (if 0 ≤ (wrap64 (Int.tdiv a1 8)) then (if (wrap64 (Int.tdiv a1 8)) < (l0.length : Int) then (if 0 ≤ (Int.tmod a1 8) then (some ((Go.bits .and .u8 (shr .u8 (rd l0 (wrap64 (Int.tdiv a1 8))) (Int.tmod a1 8)) 1) == 1)) else (none)) else (none)) else (none)) else (some false)) = some r := H
    have A4 := Aside0.mk A40
    clear A40
    by_cases c5 : a1 < t123
    · rw [if_pos c5] at H
      have c5b0 : decide (a1 < t123) = true := decide_eq_true c5
      clear c5
      obtain ⟨ji6, hji6⟩ : ∃ j_ : Int, (wrap64 (Int.tdiv a1 8)) = j_ := ⟨_, rfl⟩
      replace H : (if 0 ≤ (ji6) then (if (ji6) < (l0.length : Int) then (if 0 ≤ (Int.tmod a1 8) then (some ((Go.bits .and .u8 (shr .u8 (rd l0 (ji6)) (Int.tmod a1 8)) 1) == 1)) else (none)) else (none)) else (none)) = some r := by first | (rw [hji6] at H; exact H) | (simp only [hji6] at H ⊢; exact H)
      (try rw [hji6] at A4)
      have hji6w : (IntKind.i64.wrap (Int.tdiv a1 8)) = ji6 := (i64_w _).trans hji6
      by_cases c7 : 0 ≤ (ji6)
      · rw [if_pos c7] at H
        have c7b0 : decide (0 ≤ (ji6)) = true := decide_eq_true c7
        clear c7
        by_cases c8 : (ji6) < (l0.length : Int)
        · rw [if_pos c8] at H
          have c8b0 : decide ((ji6) < (l0.length : Int)) = true := decide_eq_true c8
          clear c8
          obtain ⟨ji9, hji9⟩ : ∃ j_ : Int, (Int.tmod a1 8) = j_ := ⟨_, rfl⟩
          replace H : (if 0 ≤ (ji9) then (some ((Go.bits .and .u8 (shr .u8 (rd l0 (ji6)) (ji9)) 1) == 1)) else (none)) = some r := by first | (rw [hji9] at H; exact H) | (simp only [hji9] at H ⊢; exact H)
          (try rw [hji9] at A4)
          by_cases c10 : 0 ≤ (ji9)
          · rw [if_pos c10] at H
            have c10b0 := eq_true c10
            have c10b1 : decide (0 ≤ (ji9)) = true := decide_eq_true c10
            clear c10
            obtain ⟨ji11, hji11⟩ : ∃ j_ : Int, (shr .u8 (rd l0 (ji6)) (ji9)) = j_ := ⟨_, rfl⟩
            replace H : (some ((Go.bits .and .u8 (ji11) 1) == 1)) = some r := by first | (rw [hji11] at H; exact H) | (simp only [hji11] at H ⊢; exact H)
            (try rw [hji11] at A4)
            have hji11_ : ((rd l0 (ji6)) / 2 ^ min (ji9).toNat 8) = ji11 := hji11
            have hji11z : (ji9) ≤ 8 → ((rd l0 (ji6)) / 2 ^ (ji9).toNat) = ji11 := shr_small hji11
            obtain rfl := Option.some.inj H
            go_enter Try.func20, Try.ntmps20
            go_wp2_with (first | (go_at_call 33; (with_reducible refine (impl_bitlen.calls _ _ l0 t123 _ ?side1 ?side2 A4.out).mono ?_); (case side1 => repeat (first | exact HR0.out | (with_reducible refine Kd.C_alloc ?_ _) | (with_reducible refine Kd.C_drewN ?_ _) | (with_reducible refine Kd.C_drew ?_))); (case side2 => exact HC0.out); rintro e w' ⟨rfl, ⟨nd, rfl⟩⟩; have p124 : 0 ≤ ((ji6) : Int) := of_decide_eq_true (by first | (with_reducible assumption) | assumption); have q124 : (ji6) < (l0.length : Int) := of_decide_eq_true (by first | (with_reducible assumption) | assumption); obtain ⟨ad124, e124, hx124_0⟩ := Kd.at_int HR0.out (ji6) p124 q124; cases e124; replace p124 := eq_true p124; replace q124 := eq_true q124))
            go_ret
            exact ⟨by first | rfl | (simp; done) | (simp only [← hji6, ← hji9, ← hji11] <;> (first | rfl | simp)) | (simp [*]; done), by repeat (first | exact Drawn0.refl _ | apply Drawn0.step)⟩
          · rw [if_neg c10] at H
            exact absurd H (by simp)
        · rw [if_neg c8] at H
          exact absurd H (by simp)
      · rw [if_neg c7] at H
        exact absurd H (by simp)
    · rw [if_neg c5] at H
      have c5b0 : decide (a1 < t123) = false := decide_eq_false c5
      clear c5
      obtain rfl := Option.some.inj H
      go_enter Try.func20, Try.ntmps20
      go_wp2_with (first | (go_at_call 33; (with_reducible refine (impl_bitlen.calls _ _ l0 t123 _ ?side1 ?side2 A4.out).mono ?_); (case side1 => repeat (first | exact HR0.out | (with_reducible refine Kd.C_alloc ?_ _) | (with_reducible refine Kd.C_drewN ?_ _) | (with_reducible refine Kd.C_drew ?_))); (case side2 => exact HC0.out); rintro e w' ⟨rfl, ⟨nd, rfl⟩⟩))
      go_ret
      exact ⟨by first | rfl | (simp; done) | (simp [*]; done), by repeat (first | exact Drawn0.refl _ | apply Drawn0.step)⟩
  · rw [if_neg c3] at H
    have c3b0 : decide (0 ≤ a1) = false := decide_eq_false c3
    clear c3
    obtain rfl := Option.some.inj H
    go_enter Try.func20, Try.ntmps20
    go_wp2
    go_ret
    exact ⟨by first | rfl | (simp; done) | (simp [*]; done), by repeat (first | exact Drawn0.refl _ | apply Drawn0.step)⟩

end Go.Proofs.Ytikandlenlhdkaa.PFnExactBitRuns
