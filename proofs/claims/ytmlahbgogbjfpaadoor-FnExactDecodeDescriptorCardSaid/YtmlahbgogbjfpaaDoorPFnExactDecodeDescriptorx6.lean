-- written by a program of this session (wip/src/print2.py)
import Derived.Test.YtmlahbgogbjfpaaDoorPFnExactDecodeDescriptorx0
import Derived.Test.YtmlahbgogbjfpaaDoorPFnExactDecodeDescriptorx5
namespace Go.Proofs.YtmlahbgogbjfpaaDoor.PFnExactDecodeDescriptor
open Go.RowKit Go.Proofs.YtmlahbgogbjfpaaDoorW.PrintWords Go.Proofs.YtmlahbgogbjfpaaDoorW.PrintLast Go.Proofs.YtmlahbgogbjfpaaDoorW.PrintMore
attribute [local go_sem] max2_int min2_int max_two min_two max_three min_three max_four min_four   -- for this text's walks alone
set_option linter.unusedVariables false
set_option linter.unusedSimpArgs false

/-! ### impl_rising: function 57 -/
def impl_rising.l0 : Nat → List Int → List Int → Int → Int → Option (Bool)
  | 0, _, _, _, _ => none
  | k + 1, x0, x5, x6, x7 => if x7 < x6 then (if 0 ≤ x7 then (if x7 < (x5.length : Int) then ((impl_in.f (rd x5 x7) 0 2047).bind fun t244 => (if t244 = true then (if x7 > 0 then (if 0 ≤ (wrap64 (x7 - 1)) then (if (wrap64 (x7 - 1)) < (x0.length : Int) then (if (rd x0 (wrap64 (x7 - 1))) ≥ (rd x5 x7) then (some false) else (impl_rising.l0 k x0 x5 x6 (wrap64 (x7 + 1)))) else (none)) else (none)) else (impl_rising.l0 k x0 x5 x6 (wrap64 (x7 + 1)))) else (some false))) else (none)) else (none)) else (some true)
def impl_rising.f (k : Nat) (l0 : List Int) : Option (Bool) := impl_rising.l0 k l0 l0 (l0.length : Int) 0
theorem impl_rising.mono_l : ∀ k, (∀ y0 y1 y2 y3, LeO (impl_rising.l0 k y0 y1 y2 y3) (impl_rising.l0 (k + 1) y0 y1 y2 y3))
  | 0 => fun _ _ _ _ r h => by simp [impl_rising.l0] at h
  | k + 1 => by
    have ih0 := impl_rising.mono_l k
    · intro y0 y1 y2 y3
      unfold impl_rising.l0
      repeat' first
      | (with_reducible exact ih0 _ _ _ _)
      | (with_reducible exact LeO.refl _)
      | (with_reducible exact LeO.none _)
      | (with_reducible refine LeO.ite ?_ ?_)
      | (with_reducible refine LeO.bind ?_ (fun _ => ?_))
      | exact ih0 _ _ _ _
      | exact LeO.none _
      | refine LeO.ite ?_ ?_
      | refine LeO.bind ?_ (fun _ => ?_)
theorem impl_rising.mono : ∀ a0 k, LeO (impl_rising.f k a0) (impl_rising.f (k + 1) a0) := by
  intro a0 k
  have ih0 := impl_rising.mono_l k
  unfold impl_rising.f
  repeat' first
      | (with_reducible exact ih0 _ _ _ _)
      | (with_reducible exact LeO.refl _)
      | (with_reducible exact LeO.none _)
      | (with_reducible refine LeO.ite ?_ ?_)
      | (with_reducible refine LeO.bind ?_ (fun _ => ?_))
      | exact ih0 _ _ _ _
      | exact LeO.none _
      | refine LeO.ite ?_ ?_
      | refine LeO.bind ?_ (fun _ => ?_)
set_option maxHeartbeats 8000000 in
set_option maxRecDepth 100000 in
theorem impl_rising.calls (k : Nat) (A0 : Option Addr) (c0 : Nat) (l0 : List Int) (r : Bool) (w : World) (hr0 : Kd.C (Kd.int .i64) w A0 l0.length l0) (hc0 : l0.length ≤ c0) (h : impl_rising.f k l0 = some r) :
    Calls Tryd.prog 57 #[.slice A0 l0.length c0] w fun e w' => e = .returned (.bool r) ∧ Drawn0 w w' := by
  have HR0 := Aside0.mk hr0
  have HC0 := Aside0.mk hc0
  clear hr0 hc0
  have H : (impl_rising.l0 k l0 l0 (l0.length : Int) 0) = some r := h
  clear h
  have H' := Aside0.mk H
  clear H
  go_enter Tryd.func57, Tryd.ntmps57
  go_wp2
  go_loopg [7] k (fun kq v7 w' => ∃ (x7_1 : Int), v7 = .int .i64 x7_1 ∧ Aside0 (impl_rising.l0 kq l0 l0 (l0.length : Int) x7_1 = some r) ∧ Aside0 (kq ≤ k) ∧ Drawn0 w w')
  case atStart => exact ⟨(0), (by first | rfl | (simp; done) | (simp [*]; done)), H', ⟨Nat.le_refl _⟩, by repeat (first | exact Drawn0.refl _ | apply Drawn0.step)⟩
  case round =>
    clear H'
    obtain ⟨x7_1, rfl, HA, HK1, ⟨m1, rfl⟩⟩ := hrel
    cases gk with
    | zero => exact absurd HA.out (by simp [impl_rising.l0])
    | succ k1 =>
      have H := HA.out
      clear HA
      simp only [impl_rising.l0] at H
      by_cases c2 : x7_1 < (l0.length : Int)
      · rw [if_pos c2] at H
        have c2b0 : decide (x7_1 < (l0.length : Int)) = true := decide_eq_true c2
        clear c2
        by_cases c3 : 0 ≤ x7_1
        · rw [if_pos c3] at H
          have c3b0 : decide (0 ≤ x7_1) = true := decide_eq_true c3
          clear c3
          by_cases c4 : x7_1 < (l0.length : Int)
          · rw [if_pos c4] at H
            have c4b0 : decide (x7_1 < (l0.length : Int)) = true := decide_eq_true c4
            clear c4
            replace H := Option.bind_eq_some_iff.mp H
            obtain ⟨t244, A50, H⟩ := H
            replace H : (if t244 = true then (if x7_1 > 0 then (if 0 ≤ (wrap64 (x7_1 - 1)) then (if (wrap64 (x7_1 - 1)) < (l0.length : Int) then (if (rd l0 (wrap64 (x7_1 - 1))) ≥ (rd l0 x7_1) then (some false) else (impl_rising.l0 k1 l0 l0 (l0.length : Int) (wrap64 (x7_1 + 1)))) else (none)) else (none)) else (impl_rising.l0 k1 l0 l0 (l0.length : Int) (wrap64 (x7_1 + 1)))) else (some false)) = some r := H
            have A5 := Aside0.mk A50
            clear A50
            by_cases c6 : t244 = true
            · subst c6
              have H1 : (if x7_1 > 0 then (if 0 ≤ (wrap64 (x7_1 - 1)) then (if (wrap64 (x7_1 - 1)) < (l0.length : Int) then (if (rd l0 (wrap64 (x7_1 - 1))) ≥ (rd l0 x7_1) then (some false) else (impl_rising.l0 k1 l0 l0 (l0.length : Int) (wrap64 (x7_1 + 1)))) else (none)) else (none)) else (impl_rising.l0 k1 l0 l0 (l0.length : Int) (wrap64 (x7_1 + 1)))) = some r := by rw [if_pos rfl] at H; exact H
              clear H
              have H := H1
              clear H1
              by_cases c7 : x7_1 > 0
              · rw [if_pos c7] at H
                have c7b0 : decide (0 < x7_1) = true := decide_eq_true c7
                clear c7
                obtain ⟨ji8, hji8⟩ : ∃ j_ : Int, (wrap64 (x7_1 - 1)) = j_ := ⟨_, rfl⟩
                replace H : (if 0 ≤ (ji8) then (if (ji8) < (l0.length : Int) then (if (rd l0 (ji8)) ≥ (rd l0 x7_1) then (some false) else (impl_rising.l0 k1 l0 l0 (l0.length : Int) (wrap64 (x7_1 + 1)))) else (none)) else (none)) = some r := by first | (rw [hji8] at H; exact H) | (simp only [hji8] at H ⊢; exact H)
                (try rw [hji8] at A5)
                have hji8w : (IntKind.i64.wrap (x7_1 - 1)) = ji8 := (i64_w _).trans hji8
                by_cases c9 : 0 ≤ (ji8)
                · rw [if_pos c9] at H
                  have c9b0 : decide (0 ≤ (ji8)) = true := decide_eq_true c9
                  clear c9
                  by_cases c10 : (ji8) < (l0.length : Int)
                  · rw [if_pos c10] at H
                    have c10b0 : decide ((ji8) < (l0.length : Int)) = true := decide_eq_true c10
                    clear c10
                    by_cases c11 : (rd l0 (ji8)) ≥ (rd l0 x7_1)
                    · rw [if_pos c11] at H
                      have c11b0 : decide ((rd l0 x7_1) ≤ (rd l0 (ji8))) = true := decide_eq_true c11
                      clear c11
                      obtain rfl := Option.some.inj H
                      have p243 : 0 ≤ (x7_1 : Int) := of_decide_eq_true (by first | (with_reducible assumption) | assumption)
                      have q243 : x7_1 < (l0.length : Int) := of_decide_eq_true (by first | (with_reducible assumption) | assumption)
                      obtain ⟨ad243, e243, hx243_0⟩ := Kd.at_int HR0.out x7_1 p243 q243
                      cases e243
                      replace p243 := eq_true p243
                      replace q243 := eq_true q243
                      go_wp2_with (first | ((with_reducible refine gate_callee (f := 53) rfl ?_); refine goesL_ (some 13) rfl rfl Tryd.func53 (by kernel_rfl) rfl #[.int .i64 (rd l0 x7_1), .int .i64 0, .int .i64 2047] rfl (by (try simp only [List.map_toArray, List.map_cons, List.map_nil]); first | done | rfl | (simp only [List.length_drop, List.length_take]; rfl)) ?_; (with_reducible refine (impl_in.calls (rd l0 x7_1) 0 2047 true _ A5.out).mono ?_); rintro e w' ⟨rfl, ⟨nd, rfl⟩⟩; refine ⟨_, rfl, ?_⟩; have p245 : 0 ≤ ((ji8) : Int) := of_decide_eq_true (by first | (with_reducible assumption) | assumption); have q245 : (ji8) < (l0.length : Int) := of_decide_eq_true (by first | (with_reducible assumption) | assumption); obtain ⟨ad245, e245, hx245_0⟩ := Kd.at_int HR0.out (ji8) p245 q245; obtain rfl : ad243 = ad245 := (by injection e245); replace p245 := eq_true p245; replace q245 := eq_true q245))
                      go_ret
                      exact ⟨by first | rfl | (simp; done) | (simp only [← hji8] <;> (first | rfl | simp)) | (simp [*]; done), by repeat (first | exact Drawn0.refl _ | apply Drawn0.step)⟩
                    · rw [if_neg c11] at H
                      have c11b0 : decide ((rd l0 x7_1) ≤ (rd l0 (ji8))) = false := decide_eq_false c11
                      clear c11
                      have H' := Aside0.mk H
                      clear H
                      have p243 : 0 ≤ (x7_1 : Int) := of_decide_eq_true (by first | (with_reducible assumption) | assumption)
                      have q243 : x7_1 < (l0.length : Int) := of_decide_eq_true (by first | (with_reducible assumption) | assumption)
                      obtain ⟨ad243, e243, hx243_0⟩ := Kd.at_int HR0.out x7_1 p243 q243
                      cases e243
                      replace p243 := eq_true p243
                      replace q243 := eq_true q243
                      go_wp2_with (first | ((with_reducible refine gate_callee (f := 53) rfl ?_); refine goesL_ (some 13) rfl rfl Tryd.func53 (by kernel_rfl) rfl #[.int .i64 (rd l0 x7_1), .int .i64 0, .int .i64 2047] rfl (by (try simp only [List.map_toArray, List.map_cons, List.map_nil]); first | done | rfl | (simp only [List.length_drop, List.length_take]; rfl)) ?_; (with_reducible refine (impl_in.calls (rd l0 x7_1) 0 2047 true _ A5.out).mono ?_); rintro e w' ⟨rfl, ⟨nd, rfl⟩⟩; refine ⟨_, rfl, ?_⟩; have p245 : 0 ≤ ((ji8) : Int) := of_decide_eq_true (by first | (with_reducible assumption) | assumption); have q245 : (ji8) < (l0.length : Int) := of_decide_eq_true (by first | (with_reducible assumption) | assumption); obtain ⟨ad245, e245, hx245_0⟩ := Kd.at_int HR0.out (ji8) p245 q245; obtain rfl : ad243 = ad245 := (by injection e245); replace p245 := eq_true p245; replace q245 := eq_true q245))
                      go_roundg k1
                      case measure => have := HK1.out; omega
                      case rel => exact ⟨(wrap64 (x7_1 + 1)), (by first | rfl | (simp; done) | (simp [*]; done)), H', ⟨by have := HK1.out; omega⟩, by repeat (first | exact Drawn0.refl _ | apply Drawn0.step)⟩
                  · rw [if_neg c10] at H
                    exact absurd H (by simp)
                · rw [if_neg c9] at H
                  exact absurd H (by simp)
              · rw [if_neg c7] at H
                have c7b0 : decide (0 < x7_1) = false := decide_eq_false c7
                clear c7
                have H' := Aside0.mk H
                clear H
                have p243 : 0 ≤ (x7_1 : Int) := of_decide_eq_true (by first | (with_reducible assumption) | assumption)
                have q243 : x7_1 < (l0.length : Int) := of_decide_eq_true (by first | (with_reducible assumption) | assumption)
                obtain ⟨ad243, e243, hx243_0⟩ := Kd.at_int HR0.out x7_1 p243 q243
                cases e243
                replace p243 := eq_true p243
                replace q243 := eq_true q243
                go_wp2_with (first | ((with_reducible refine gate_callee (f := 53) rfl ?_); refine goesL_ (some 13) rfl rfl Tryd.func53 (by kernel_rfl) rfl #[.int .i64 (rd l0 x7_1), .int .i64 0, .int .i64 2047] rfl (by (try simp only [List.map_toArray, List.map_cons, List.map_nil]); first | done | rfl | (simp only [List.length_drop, List.length_take]; rfl)) ?_; (with_reducible refine (impl_in.calls (rd l0 x7_1) 0 2047 true _ A5.out).mono ?_); rintro e w' ⟨rfl, ⟨nd, rfl⟩⟩; refine ⟨_, rfl, ?_⟩))
                go_roundg k1
                case measure => have := HK1.out; omega
                case rel => exact ⟨(wrap64 (x7_1 + 1)), (by first | rfl | (simp; done) | (simp [*]; done)), H', ⟨by have := HK1.out; omega⟩, by repeat (first | exact Drawn0.refl _ | apply Drawn0.step)⟩
            · replace c6 := Bool.eq_false_iff.mpr c6
              subst c6
              have H1 : (some false) = some r := by rw [if_neg (show ¬ (false = true) by decide)] at H; exact H
              clear H
              have H := H1
              clear H1
              obtain rfl := Option.some.inj H
              have p243 : 0 ≤ (x7_1 : Int) := of_decide_eq_true (by first | (with_reducible assumption) | assumption)
              have q243 : x7_1 < (l0.length : Int) := of_decide_eq_true (by first | (with_reducible assumption) | assumption)
              obtain ⟨ad243, e243, hx243_0⟩ := Kd.at_int HR0.out x7_1 p243 q243
              cases e243
              replace p243 := eq_true p243
              replace q243 := eq_true q243
              go_wp2_with (first | ((with_reducible refine gate_callee (f := 53) rfl ?_); refine goesL_ (some 13) rfl rfl Tryd.func53 (by kernel_rfl) rfl #[.int .i64 (rd l0 x7_1), .int .i64 0, .int .i64 2047] rfl (by (try simp only [List.map_toArray, List.map_cons, List.map_nil]); first | done | rfl | (simp only [List.length_drop, List.length_take]; rfl)) ?_; (with_reducible refine (impl_in.calls (rd l0 x7_1) 0 2047 false _ A5.out).mono ?_); rintro e w' ⟨rfl, ⟨nd, rfl⟩⟩; refine ⟨_, rfl, ?_⟩))
              go_ret
              exact ⟨by first | rfl | (simp; done) | (simp [*]; done), by repeat (first | exact Drawn0.refl _ | apply Drawn0.step)⟩
          · rw [if_neg c4] at H
            exact absurd H (by simp)
        · rw [if_neg c3] at H
          exact absurd H (by simp)
      · rw [if_neg c2] at H
        have c2b0 : decide (x7_1 < (l0.length : Int)) = false := decide_eq_false c2
        clear c2
        obtain rfl := Option.some.inj H
        go_wp2
        go_ret
        exact ⟨by first | rfl | (simp; done) | (simp [*]; done), by repeat (first | exact Drawn0.refl _ | apply Drawn0.step)⟩

/-! ### impl_EncodeDescriptor: function 38 -/
mutual
def impl_EncodeDescriptor.l0 : Nat → List Int → List (S67) → Int → Int → Int → List (S67) → Option (List Int)
  | 0, _, _, _, _, _, _ => none
  | k + 1, x3, x10, x11, x12, x247000, x247001 => if x12 < x11 then (if 0 ≤ x12 then (if x12 < (x10.length : Int) then (if x3.length < 17592186044416 then (impl_EncodeDescriptor.l0 k (x3 ++ [(rd_T67 x10 x12).f0]) x10 x11 (wrap64 (x12 + 1)) x247000 x247001) else (none)) else (none)) else (none)) else ((impl_in.f x247000 1 4294967295).bind fun t252 => (if t252 = true then ((impl_in.f (x3.length : Int) 1 17).bind fun t253 => (if t253 = true then ((impl_rising.f k x3).bind fun t254 => (impl_EncodeDescriptor.j1 k x3 (!t254) x247000 x247001)) else (impl_EncodeDescriptor.j1 k x3 true x247000 x247001))) else (impl_EncodeDescriptor.j1 k x3 true x247000 x247001)))
def impl_EncodeDescriptor.j1 : Nat → List Int → Bool → Int → List (S67) → Option (List Int)
  | 0, _, _, _, _ => none
  | k + 1, x3, x36, x247000, x247001 => if x36 = true then (some ([] : List Int)) else ((impl_head.f k 2 (x3.length : Int) x247000).bind fun t255 => (impl_EncodeDescriptor.l1 k t255 x247001 (x247001.length : Int) 0))
def impl_EncodeDescriptor.l1 : Nat → List Int → List (S67) → Int → Int → Option (List Int)
  | 0, _, _, _, _ => none
  | k + 1, x6, x43, x44, x45 => if x45 < x44 then (if 0 ≤ x45 then (if x45 < (x43.length : Int) then ((impl_put.f k x6 (wrap64 (12 + (wrap64 (3 * x45)))) ((rd_T67 x43 x45).f0) 2).bind fun t260 => (if (rd_T67 x43 x45).f1 = true then (if 0 ≤ (wrap64 (14 + (wrap64 (3 * x45)))) then (if (wrap64 (14 + (wrap64 (3 * x45)))) < (x6.length : Int) then (impl_EncodeDescriptor.l1 k (t260.set ((wrap64 (14 + (wrap64 (3 * x45)))) : Int).toNat 1) x43 x44 (wrap64 (x45 + 1))) else (none)) else (none)) else (impl_EncodeDescriptor.l1 k t260 x43 x44 (wrap64 (x45 + 1))))) else (none)) else (none)) else (some x6)
end
def impl_EncodeDescriptor.f (k : Nat) (a0_0 : Int) (l0_1 : List (S67)) : Option (List Int) := impl_EncodeDescriptor.l0 k ([] : List Int) l0_1 (l0_1.length : Int) 0 a0_0 l0_1
theorem impl_EncodeDescriptor.mono_l : ∀ k, (∀ y0 y1 y2 y3 y4 y5, LeO (impl_EncodeDescriptor.l0 k y0 y1 y2 y3 y4 y5) (impl_EncodeDescriptor.l0 (k + 1) y0 y1 y2 y3 y4 y5)) ∧ (∀ y0 y1 y2 y3, LeO (impl_EncodeDescriptor.j1 k y0 y1 y2 y3) (impl_EncodeDescriptor.j1 (k + 1) y0 y1 y2 y3)) ∧ (∀ y0 y1 y2 y3, LeO (impl_EncodeDescriptor.l1 k y0 y1 y2 y3) (impl_EncodeDescriptor.l1 (k + 1) y0 y1 y2 y3))
  | 0 => ⟨fun _ _ _ _ _ _ r h => by simp [impl_EncodeDescriptor.l0] at h, fun _ _ _ _ r h => by simp [impl_EncodeDescriptor.j1] at h, fun _ _ _ _ r h => by simp [impl_EncodeDescriptor.l1] at h⟩
  | k + 1 => by
    obtain ⟨ih0, ih1, ih2⟩ := impl_EncodeDescriptor.mono_l k
    refine ⟨?_, ?_, ?_⟩
    · intro y0 y1 y2 y3 y4 y5
      unfold impl_EncodeDescriptor.l0
      repeat' first
      | (with_reducible exact ih0 _ _ _ _ _ _)
      | (with_reducible exact ih1 _ _ _ _)
      | (with_reducible exact ih2 _ _ _ _)
      | (with_reducible exact impl_head.mono _ _ _ _)
      | (with_reducible exact impl_put.mono _ _ _ _ _)
      | (with_reducible exact impl_rising.mono _ _)
      | (with_reducible exact LeO.refl _)
      | (with_reducible exact LeO.none _)
      | (with_reducible refine LeO.ite ?_ ?_)
      | (with_reducible refine LeO.bind ?_ (fun _ => ?_))
      | exact ih0 _ _ _ _ _ _
      | exact ih1 _ _ _ _
      | exact ih2 _ _ _ _
      | exact impl_head.mono _ _ _ _
      | exact impl_put.mono _ _ _ _ _
      | exact impl_rising.mono _ _
      | exact LeO.none _
      | refine LeO.ite ?_ ?_
      | refine LeO.bind ?_ (fun _ => ?_)
    · intro y0 y1 y2 y3
      unfold impl_EncodeDescriptor.j1
      repeat' first
      | (with_reducible exact ih0 _ _ _ _ _ _)
      | (with_reducible exact ih1 _ _ _ _)
      | (with_reducible exact ih2 _ _ _ _)
      | (with_reducible exact impl_head.mono _ _ _ _)
      | (with_reducible exact impl_put.mono _ _ _ _ _)
      | (with_reducible exact impl_rising.mono _ _)
      | (with_reducible exact LeO.refl _)
      | (with_reducible exact LeO.none _)
      | (with_reducible refine LeO.ite ?_ ?_)
      | (with_reducible refine LeO.bind ?_ (fun _ => ?_))
      | exact ih0 _ _ _ _ _ _
      | exact ih1 _ _ _ _
      | exact ih2 _ _ _ _
      | exact impl_head.mono _ _ _ _
      | exact impl_put.mono _ _ _ _ _
      | exact impl_rising.mono _ _
      | exact LeO.none _
      | refine LeO.ite ?_ ?_
      | refine LeO.bind ?_ (fun _ => ?_)
    · intro y0 y1 y2 y3
      unfold impl_EncodeDescriptor.l1
      repeat' first
      | (with_reducible exact ih0 _ _ _ _ _ _)
      | (with_reducible exact ih1 _ _ _ _)
      | (with_reducible exact ih2 _ _ _ _)
      | (with_reducible exact impl_head.mono _ _ _ _)
      | (with_reducible exact impl_put.mono _ _ _ _ _)
      | (with_reducible exact impl_rising.mono _ _)
      | (with_reducible exact LeO.refl _)
      | (with_reducible exact LeO.none _)
      | (with_reducible refine LeO.ite ?_ ?_)
      | (with_reducible refine LeO.bind ?_ (fun _ => ?_))
      | exact ih0 _ _ _ _ _ _
      | exact ih1 _ _ _ _
      | exact ih2 _ _ _ _
      | exact impl_head.mono _ _ _ _
      | exact impl_put.mono _ _ _ _ _
      | exact impl_rising.mono _ _
      | exact LeO.none _
      | refine LeO.ite ?_ ?_
      | refine LeO.bind ?_ (fun _ => ?_)
theorem impl_EncodeDescriptor.mono : ∀ a0 a1 k, LeO (impl_EncodeDescriptor.f k a0 a1) (impl_EncodeDescriptor.f (k + 1) a0 a1) := by
  intro a0 a1 k
  obtain ⟨ih0, ih1, ih2⟩ := impl_EncodeDescriptor.mono_l k
  unfold impl_EncodeDescriptor.f
  repeat' first
      | (with_reducible exact ih0 _ _ _ _ _ _)
      | (with_reducible exact ih1 _ _ _ _)
      | (with_reducible exact ih2 _ _ _ _)
      | (with_reducible exact impl_head.mono _ _ _ _)
      | (with_reducible exact impl_put.mono _ _ _ _ _)
      | (with_reducible exact impl_rising.mono _ _)
      | (with_reducible exact LeO.refl _)
      | (with_reducible exact LeO.none _)
      | (with_reducible refine LeO.ite ?_ ?_)
      | (with_reducible refine LeO.bind ?_ (fun _ => ?_))
      | exact ih0 _ _ _ _ _ _
      | exact ih1 _ _ _ _
      | exact ih2 _ _ _ _
      | exact impl_head.mono _ _ _ _
      | exact impl_put.mono _ _ _ _ _
      | exact impl_rising.mono _ _
      | exact LeO.none _
      | refine LeO.ite ?_ ?_
      | refine LeO.bind ?_ (fun _ => ?_)
set_option maxHeartbeats 8000000 in
set_option maxRecDepth 100000 in
theorem impl_EncodeDescriptor.calls (k : Nat) (a0_0 : Int) (A0_1 : Option Addr) (c0_1 : Nat) (l0_1 : List (S67)) (r : List Int) (w : World) (hr0_1 : Kd.C k67 w A0_1 l0_1.length l0_1) (hc0_1 : l0_1.length ≤ c0_1) (h : impl_EncodeDescriptor.f k a0_0 l0_1 = some r) :
    Calls Tryd.prog 38 #[.agg #[.int .i64 a0_0, .slice A0_1 l0_1.length c0_1]] w fun e w' => ∃ v0_ : Value, e = .returned (v0_) ∧ Kd.R (Kd.int .u8) 5 w' w.heap.size (fun _ => True) v0_ r ∧ Below w.heap.size w w' := by
  have hu43 := Tryd.underlying43
  have hu67 := Tryd.underlying67
  have HR0_1 := Aside0.mk hr0_1
  have HC0_1 := Aside0.mk hc0_1
  clear hr0_1 hc0_1
  have HB := Aside0.mk (Below.refl w.heap.size w)
  have H : (impl_EncodeDescriptor.l0 k ([] : List Int) l0_1 (l0_1.length : Int) 0 a0_0 l0_1) = some r := h
  clear h
  have H' := Aside0.mk H
  clear H
  go_enter Tryd.func38, Tryd.ntmps38
  go_wp2_with (first | ((with_reducible refine gate_dst (N := 1) rfl ?_); (try (refine gate_guard (by rfl) ?_; dsimp only)); refine box_event ?hg (N := 1) ?hd (cs := #[.int .i64 a0_0, .slice A0_1 l0_1.length c0_1]) (t := 43) ?hr ?_; (case hd => rfl); (case hg => rfl); (case hr => first | (go_simp; done) | (go_simp; rfl)); intro gb246 hg w2 hbox hb; have n0_ := Aside0.mk (below_step (by repeat (first | (with_reducible first | exact HB.out | apply below_alloc | apply pw_below_drewN | apply below_drew1) | exact HB.out)) hb); have n1_ := Aside0.mk (hbox); have n2_ := Aside0.mk ((by rw [hg]; exact (below_size (by repeat (first | (with_reducible first | exact HB.out | apply below_alloc | apply pw_below_drewN | apply below_drew1) | exact HB.out))) : w.heap.size ≤ gb246)); have n3_ := Aside0.mk ((by rw [hg]; exact (below_size (by repeat (first | (with_reducible first | exact HB.out | apply below_alloc | apply pw_below_drewN | apply below_drew1) | exact HB.out))) : w.heap.size ≤ gb246)); clear HB; have HB := n0_; have BK246 := n1_; have GW246 := n2_; have GE246 := n3_; clear n0_ n1_ n2_ n3_; clear hb hbox hg; have hcz3_0 : w2.cell? ⟨gb246, 0, none⟩ = some (.int .i64 a0_0) := (blk_cell BK246.out 0).trans rfl; have hcz3_1 : w2.cell? ⟨gb246, 1, none⟩ = some (.slice A0_1 l0_1.length c0_1) := (blk_cell BK246.out 1).trans rfl; have hfz3_0 := blk_frozen BK246.out 0; have hfz3_1 := blk_frozen BK246.out 1))
  go_loopg [3, 12] k (fun kq v3 v12 w' => ∃ (x3_1 : List Int) (x12_1 : Int), v12 = .int .i64 x12_1 ∧ Aside0 (impl_EncodeDescriptor.l0 kq x3_1 l0_1 (l0_1.length : Int) x12_1 a0_0 l0_1 = some r) ∧ Aside0 (kq ≤ k) ∧ Aside0 (Kd.R (Kd.int .i64) 2 w' w.heap.size (fun _ => True) v3 x3_1) ∧ Aside0 (w'.heap[gb246]? = some (.cells #[.int .i64 a0_0, (.slice A0_1 l0_1.length c0_1)] 43 (0, 0))) ∧ Aside0 (Below w.heap.size w w'))
  case atStart => exact ⟨(([] : List Int)), (0), (by first | rfl | (simp; done) | (simp [*]; done)), H', ⟨Nat.le_refl _⟩, ⟨by first | exact Kd.R_nil _ _ _ _ _ | exact Kd.N_nil _ _ _ _ _ | exact Kd.V_nil _ _ _ _ _ | exact Kd.Q_nil _ _ _ _ _ | exact Kd.S_nil _ _ _ _ _⟩, ⟨by (with_reducible repeat (first | refine blk_drewN ?_ _ | refine blk_drew ?_ | refine blk_alloc ?_ _)); exact BK246.out⟩, ⟨by repeat (first | (with_reducible first | exact HB.out | apply below_alloc | apply pw_below_drewN | apply below_drew1 | refine below_set ?_ GE246.out) | exact HB.out)⟩⟩
  case round =>
    clear H'
    try clear p2
    try clear c3
    try clear hcz3_0
    try clear hcz3_1
    try clear hfz3_0
    try clear hfz3_1
    obtain ⟨x3_1, x12_1, rfl, HA, HK1, HO_3, BK246, HB⟩ := hrel
    cases gk with
    | zero => exact absurd HA.out (by simp [impl_EncodeDescriptor.l0])
    | succ k1 =>
      have H := HA.out
      clear HA
      simp only [impl_EncodeDescriptor.l0] at H
      by_cases c4 : x12_1 < (l0_1.length : Int)
      · rw [if_pos c4] at H
        have c4b0 : decide (x12_1 < (l0_1.length : Int)) = true := decide_eq_true c4
        clear c4
        by_cases c5 : 0 ≤ x12_1
        · rw [if_pos c5] at H
          have c5b0 : decide (0 ≤ x12_1) = true := decide_eq_true c5
          clear c5
          by_cases c6 : x12_1 < (l0_1.length : Int)
          · rw [if_pos c6] at H
            have c6b0 : decide (x12_1 < (l0_1.length : Int)) = true := decide_eq_true c6
            clear c6
            by_cases c7 : x3_1.length < 17592186044416
            · rw [if_pos c7] at H
              have LMc7 := Aside0.mk c7
              clear c7
              obtain ⟨y249, hy249⟩ : ∃ y_ : List Int, y_ = (x3_1 ++ [(rd_T67 l0_1 x12_1).f0]) := ⟨_, rfl⟩
              replace H : (impl_EncodeDescriptor.l0 k1 y249 l0_1 (l0_1.length : Int) (wrap64 (x12_1 + 1)) a0_0 l0_1) = some r := by first | (rw [hy249]; with_reducible exact H) | (have H2_ := (Option.bind_some _ _).symm.trans H; rw [hy249]; with_reducible exact H2_) | (have H2_ := (Option.bind_some _ _).symm.trans H; with_reducible exact H2_) | with_reducible exact H | (rw [hy249]; exact H) | exact H
              have Ny249 := Aside0.mk hy249
              clear hy249
              have H' := Aside0.mk H
              clear H
              have p247 : 0 ≤ (x12_1 : Int) := of_decide_eq_true (by first | (with_reducible assumption) | assumption)
              have q247 : x12_1 < (l0_1.length : Int) := of_decide_eq_true (by first | (with_reducible assumption) | assumption)
              obtain ⟨ad247, e247, hx247_0, hx247_1⟩ := at_T67 HR0_1.out x12_1 p247 q247
              cases e247
              replace hx247_0 := (HB.out.cell (World.block_lt_of_cell? w _ hx247_0)).trans hx247_0
              replace hx247_1 := (HB.out.cell (World.block_lt_of_cell? w _ hx247_1)).trans hx247_1
              replace p247 := eq_true p247
              replace q247 := eq_true q247
              go_wp2_with (first | ((with_reducible refine gate_dst (N := 5) rfl ?_); (try (refine gate_guard (by rfl) ?_; dsimp only)); refine box_event ?hg (N := 5) ?hd (cs := #[.int .i64 0, .bool false]) (t := 67) ?hr ?_; (case hd => rfl); (case hg => rfl); (case hr => first | (go_simp; done) | (go_simp; rfl)); intro gb248 hg w8 hbox hb; have n0_ := Aside0.mk (Kd.R_below (by (with_reducible repeat (first | apply Kd.R_alloc | apply Kd.R_drewN | apply Kd.R_drew)); exact HO_3.out) hb); have n1_ := Aside0.mk (blk_below (g := gb246) (o := .cells #[.int .i64 a0_0, .slice (some ad247) l0_1.length c0_1] 43 (0, 0)) (by (with_reducible repeat (first | refine blk_drewN ?_ _ | refine blk_drew ?_ | refine blk_alloc ?_ _)); exact BK246.out) hb); have n2_ := Aside0.mk (below_step (by repeat (first | (with_reducible first | exact HB.out | apply below_alloc | apply pw_below_drewN | apply below_drew1 | refine below_set ?_ GE246.out) | exact HB.out)) hb); have n3_ := Aside0.mk (hbox); have n4_ := Aside0.mk ((by rw [hg]; exact (below_size (by repeat (first | (with_reducible first | exact HB.out | apply below_alloc | apply pw_below_drewN | apply below_drew1 | refine below_set ?_ GE246.out) | exact HB.out))) : w.heap.size ≤ gb248)); have n5_ := Aside0.mk ((by rw [hg]; exact (below_size (by repeat (first | (with_reducible first | exact HB.out | apply below_alloc | apply pw_below_drewN | apply below_drew1 | refine below_set ?_ GE246.out) | exact HB.out))) : w.heap.size ≤ gb248)); have n6_ := Aside0.mk ((by rw [hg]; exact Nat.ne_of_lt (blk_lt (g := gb246) (o := .cells #[.int .i64 a0_0, .slice (some ad247) l0_1.length c0_1] 43 (0, 0)) (by (with_reducible repeat (first | refine blk_drewN ?_ _ | refine blk_drew ?_ | refine blk_alloc ?_ _)); exact BK246.out)) : gb246 ≠ gb248)); have n7_ := Aside0.mk ((by rw [hg]; exact Nat.ne_of_gt (blk_lt (g := gb246) (o := .cells #[.int .i64 a0_0, .slice (some ad247) l0_1.length c0_1] 43 (0, 0)) (by (with_reducible repeat (first | refine blk_drewN ?_ _ | refine blk_drew ?_ | refine blk_alloc ?_ _)); exact BK246.out)) : gb248 ≠ gb246)); clear HO_3; clear BK246; clear HB; have HO_3 := n0_; have BK246 := n1_; have HB := n2_; have BK248 := n3_; have GW248 := n4_; have GE248 := n5_; have NB246_248 := n6_; have NB248_246 := n7_; clear n0_ n1_ n2_ n3_ n4_ n5_ n6_ n7_; clear hb hbox hg; have hnb9 := NB248_246.out; have hnc9 := NB246_248.out; have hcz10_0 : w8.cell? ⟨gb248, 0, none⟩ = some (.int .i64 0) := (blk_cell BK248.out 0).trans rfl; have hcz10_1 : w8.cell? ⟨gb248, 1, none⟩ = some (.bool false) := (blk_cell BK248.out 1).trans rfl; have hfz10_0 := blk_frozen BK248.out 0; have hfz10_1 := blk_frozen BK248.out 1) | ((with_reducible refine gate_builtin (b := .append) (xs := #[.tmp 16, .tmp 19]) rfl ?_); (try (refine gate_guard (by rfl) ?_; dsimp only)); at_builtin; refine Kd.R_append (Kd.int .i64) (w0 := w) w.heap.size rfl (.tmp 16) (.tmp 19) 32 2 (.int .i64 0) 8 rfl Tryd.underlying32 info2 rfl (by decide) (by omega) u3 x3_1 ((rd_T67 l0_1 x12_1).f0) [.int .i64 ((rd_T67 l0_1 x12_1).f0)] (fun _ => True) (fun _ => False) rfl (by first | (go_simp; done) | (go_simp; rfl)) ?aP (fun _ hk => hk.elim) ?aF ?aO ?aB ?aS ?aL ?_; (case aP => exact rfl); (case aB => exact (by repeat (first | (with_reducible first | exact HB.out | apply below_alloc | apply pw_below_drewN | apply below_drew1 | refine below_set ?_ GE246.out | refine below_set ?_ GE248.out) | exact HB.out))); (case aF => exact (fun _ _ => trivial)); (case aO => exact (by (with_reducible repeat (first | apply Kd.R_alloc | apply Kd.R_drewN | apply Kd.R_drew)); exact Kd.R_mono (Kd.R_far (p := ⟨gb248, 1, none⟩) (Kd.R_far (p := ⟨gb248, 0, none⟩) (Kd.R_types HO_3.out BK248.out (by decide)) (fun _ hk => hk.2) (.int .i64 ((rd_T67 l0_1 x12_1).f0))) (fun _ hk => hk.2) (.bool ((rd_T67 l0_1 x12_1).f1))) (fun _ hk => trivial))); (case aS => exact (below_size (by repeat (first | (with_reducible first | exact HB.out | apply below_alloc | apply pw_below_drewN | apply below_drew1 | refine below_set ?_ GE246.out | refine below_set ?_ GE248.out) | exact HB.out)))); (case aL => have := LMc7.out; omega); intro v250 w11 ho hb hg hat; rw [← Ny249.out] at ho; have n0_ := Aside0.mk (blk_grown (g := gb246) (o := .cells #[.int .i64 a0_0, .slice (some ad247) l0_1.length c0_1] 43 (0, 0)) (by (with_reducible repeat (first | refine blk_drewN ?_ _ | refine blk_drew ?_ | refine blk_alloc ?_ _)); refine blk_far ?_ NB246_248.out _; (with_reducible repeat (first | refine blk_drewN ?_ _ | refine blk_drew ?_ | refine blk_alloc ?_ _)); refine blk_far ?_ NB246_248.out _; (with_reducible repeat (first | refine blk_drewN ?_ _ | refine blk_drew ?_ | refine blk_alloc ?_ _)); exact BK246.out) hg (Kd.R_ne HO_3.out BK246.out (by decide))); have n1_ := Aside0.mk (blk_grown (g := gb248) (o := .cells #[.int .i64 ((rd_T67 l0_1 x12_1).f0), .bool ((rd_T67 l0_1 x12_1).f1)] 67 (0, 0)) (by (with_reducible repeat (first | refine blk_drewN ?_ _ | refine blk_drew ?_ | refine blk_alloc ?_ _)); refine blk_put (cs := #[.int .i64 ((rd_T67 l0_1 x12_1).f0), .bool false]) ?_ 1 _ rfl; (with_reducible repeat (first | refine blk_drewN ?_ _ | refine blk_drew ?_ | refine blk_alloc ?_ _)); refine blk_put (cs := #[.int .i64 0, .bool false]) ?_ 0 _ rfl; (with_reducible repeat (first | refine blk_drewN ?_ _ | refine blk_drew ?_ | refine blk_alloc ?_ _)); exact BK248.out) hg (Kd.R_ne HO_3.out BK248.out (by decide))); have n2_ := Aside0.mk (hb); have n3_ := Aside0.mk (ho); clear BK246; clear BK248; clear HB; clear HO_3; have BK246 := n0_; have BK248 := n1_; have HB := n2_; have HO251 := n3_; clear n0_ n1_ n2_ n3_; clear ho hb hg hat))
              go_roundg k1
              case measure => have := HK1.out; omega
              case rel => exact ⟨(y249), (wrap64 (x12_1 + 1)), (by first | rfl | (simp; done) | (simp [*]; done)), H', ⟨by have := HK1.out; omega⟩, ⟨by (with_reducible repeat (first | apply Kd.R_alloc | apply Kd.R_drewN | apply Kd.R_drew)); exact HO251.out⟩, ⟨by (with_reducible repeat (first | refine blk_drewN ?_ _ | refine blk_drew ?_ | refine blk_alloc ?_ _)); exact BK246.out⟩, ⟨by repeat (first | (with_reducible first | exact HB.out | apply below_alloc | apply pw_below_drewN | apply below_drew1 | refine below_set ?_ GE246.out | refine below_set ?_ GE248.out) | exact HB.out)⟩⟩
            · rw [if_neg c7] at H
              exact absurd H (by simp)
          · rw [if_neg c6] at H
            exact absurd H (by simp)
        · rw [if_neg c5] at H
          exact absurd H (by simp)
      · rw [if_neg c4] at H
        have c4b0 : decide (x12_1 < (l0_1.length : Int)) = false := decide_eq_false c4
        clear c4
        have HC12 := Aside0.mk H
        clear H
        go_upto_region 7 with (fail)
        go_cut [36] (fun v36 wc => ∃ (kq : Nat) (x36_11 : Bool), v36 = .bool x36_11 ∧ Aside0 (impl_EncodeDescriptor.j1 kq x3_1 x36_11 a0_0 l0_1 = some r) ∧ Aside0 (kq ≤ k1) ∧ Aside0 (Kd.R (Kd.int .i64) 2 wc w.heap.size (fun _ => True) u3 x3_1) ∧ Aside0 (wc.heap[gb246]? = some (.cells #[.int .i64 a0_0, (.slice A0_1 l0_1.length c0_1)] 43 (0, 0))) ∧ Aside0 (Below w.heap.size w wc))
        case first =>
          have H := HC12.out
          clear HC12
          replace H := Option.bind_eq_some_iff.mp H
          obtain ⟨t252, A130, H⟩ := H
          replace H : (if t252 = true then ((impl_in.f (x3_1.length : Int) 1 17).bind fun t253 => (if t253 = true then ((impl_rising.f k1 x3_1).bind fun t254 => (impl_EncodeDescriptor.j1 k1 x3_1 (!t254) a0_0 l0_1)) else (impl_EncodeDescriptor.j1 k1 x3_1 true a0_0 l0_1))) else (impl_EncodeDescriptor.j1 k1 x3_1 true a0_0 l0_1)) = some r := H
          have A13 := Aside0.mk A130
          clear A130
          by_cases c14 : t252 = true
          · subst c14
            have H1 : ((impl_in.f (x3_1.length : Int) 1 17).bind fun t253 => (if t253 = true then ((impl_rising.f k1 x3_1).bind fun t254 => (impl_EncodeDescriptor.j1 k1 x3_1 (!t254) a0_0 l0_1)) else (impl_EncodeDescriptor.j1 k1 x3_1 true a0_0 l0_1))) = some r := by rw [if_pos rfl] at H; exact H
            clear H
            have H := H1
            clear H1
            replace H := Option.bind_eq_some_iff.mp H
            obtain ⟨t253, A150, H⟩ := H
            replace H : (if t253 = true then ((impl_rising.f k1 x3_1).bind fun t254 => (impl_EncodeDescriptor.j1 k1 x3_1 (!t254) a0_0 l0_1)) else (impl_EncodeDescriptor.j1 k1 x3_1 true a0_0 l0_1)) = some r := H
            have A15 := Aside0.mk A150
            clear A150
            by_cases c16 : t253 = true
            · subst c16
              have H1 : ((impl_rising.f k1 x3_1).bind fun t254 => (impl_EncodeDescriptor.j1 k1 x3_1 (!t254) a0_0 l0_1)) = some r := by rw [if_pos rfl] at H; exact H
              clear H
              have H := H1
              clear H1
              replace H := Option.bind_eq_some_iff.mp H
              obtain ⟨t254, A170, H⟩ := H
              replace H : (impl_EncodeDescriptor.j1 k1 x3_1 (!t254) a0_0 l0_1) = some r := H
              have A17 := Aside0.mk A170
              clear A170
              have H' := Aside0.mk H
              clear H
              have hcz18_0 : wr.cell? ⟨gb246, 0, none⟩ = some (.int .i64 a0_0) := (blk_cell BK246.out 0).trans rfl
              have hcz18_1 : wr.cell? ⟨gb246, 1, none⟩ = some (.slice A0_1 l0_1.length c0_1) := (blk_cell BK246.out 1).trans rfl
              have hfz18_0 := blk_frozen BK246.out 0
              have hfz18_1 := blk_frozen BK246.out 1
              go_wp2_with (first | ((with_reducible refine gate_callee (f := 53) rfl ?_); refine goesL_ (some 24) rfl rfl Tryd.func53 (by kernel_rfl) rfl #[.int .i64 a0_0, .int .i64 1, .int .i64 4294967295] rfl (by (try simp only [List.map_toArray, List.map_cons, List.map_nil]); first | done | rfl | (simp only [List.length_drop, List.length_take]; rfl)) ?_; (with_reducible refine (impl_in.calls a0_0 1 4294967295 true _ A13.out).mono ?_); rintro e w' ⟨rfl, ⟨nd, rfl⟩⟩; refine ⟨_, rfl, ?_⟩; obtain ⟨Ao19, co19, eo19⟩ := Kd.R_slice HO_3.out; subst eo19) | (go_at_call 53; (with_reducible refine (impl_in.calls (x3_1.length : Int) 1 17 true _ A15.out).mono ?_); rintro e w' ⟨rfl, ⟨nd, rfl⟩⟩) | (go_at_call 57; (with_reducible refine (impl_rising.calls k1 _ _ x3_1 t254 _ ?side1 ?side2 A17.out).mono ?_); (case side1 => repeat (first | exact (Kd.R_reads' HO_3.out).2.2 | (with_reducible refine Kd.C_alloc ?_ _) | (with_reducible refine Kd.C_drewN ?_ _) | (with_reducible refine Kd.C_drew ?_))); (case side2 => exact (Kd.R_reads' HO_3.out).2.1); rintro e w' ⟨rfl, ⟨nd, rfl⟩⟩))
              go_meet
              case rel => exact ⟨_, (!t254), (by first | rfl | (simp; done) | (simp [*]; done)), H', ⟨by have := HK1.out; first | omega | exact Nat.le_refl _⟩, ⟨by (with_reducible repeat (first | apply Kd.R_alloc | apply Kd.R_drewN | apply Kd.R_drew)); exact HO_3.out⟩, ⟨by (with_reducible repeat (first | refine blk_drewN ?_ _ | refine blk_drew ?_ | refine blk_alloc ?_ _)); exact BK246.out⟩, ⟨by repeat (first | (with_reducible first | exact HB.out | apply below_alloc | apply pw_below_drewN | apply below_drew1 | refine below_set ?_ GE246.out) | exact HB.out)⟩⟩
            · replace c16 := Bool.eq_false_iff.mpr c16
              subst c16
              have H1 : (impl_EncodeDescriptor.j1 k1 x3_1 true a0_0 l0_1) = some r := by rw [if_neg (show ¬ (false = true) by decide)] at H; exact H
              clear H
              have H := H1
              clear H1
              have H' := Aside0.mk H
              clear H
              have hcz20_0 : wr.cell? ⟨gb246, 0, none⟩ = some (.int .i64 a0_0) := (blk_cell BK246.out 0).trans rfl
              have hcz20_1 : wr.cell? ⟨gb246, 1, none⟩ = some (.slice A0_1 l0_1.length c0_1) := (blk_cell BK246.out 1).trans rfl
              have hfz20_0 := blk_frozen BK246.out 0
              have hfz20_1 := blk_frozen BK246.out 1
              go_wp2_with (first | ((with_reducible refine gate_callee (f := 53) rfl ?_); refine goesL_ (some 24) rfl rfl Tryd.func53 (by kernel_rfl) rfl #[.int .i64 a0_0, .int .i64 1, .int .i64 4294967295] rfl (by (try simp only [List.map_toArray, List.map_cons, List.map_nil]); first | done | rfl | (simp only [List.length_drop, List.length_take]; rfl)) ?_; (with_reducible refine (impl_in.calls a0_0 1 4294967295 true _ A13.out).mono ?_); rintro e w' ⟨rfl, ⟨nd, rfl⟩⟩; refine ⟨_, rfl, ?_⟩; obtain ⟨Ao21, co21, eo21⟩ := Kd.R_slice HO_3.out; subst eo21) | (go_at_call 53; (with_reducible refine (impl_in.calls (x3_1.length : Int) 1 17 false _ A15.out).mono ?_); rintro e w' ⟨rfl, ⟨nd, rfl⟩⟩))
              go_meet
              case rel => exact ⟨_, (true), (by first | rfl | (simp; done) | (simp [*]; done)), H', ⟨by have := HK1.out; first | omega | exact Nat.le_refl _⟩, ⟨by (with_reducible repeat (first | apply Kd.R_alloc | apply Kd.R_drewN | apply Kd.R_drew)); exact HO_3.out⟩, ⟨by (with_reducible repeat (first | refine blk_drewN ?_ _ | refine blk_drew ?_ | refine blk_alloc ?_ _)); exact BK246.out⟩, ⟨by repeat (first | (with_reducible first | exact HB.out | apply below_alloc | apply pw_below_drewN | apply below_drew1 | refine below_set ?_ GE246.out) | exact HB.out)⟩⟩
          · replace c14 := Bool.eq_false_iff.mpr c14
            subst c14
            have H1 : (impl_EncodeDescriptor.j1 k1 x3_1 true a0_0 l0_1) = some r := by rw [if_neg (show ¬ (false = true) by decide)] at H; exact H
            clear H
            have H := H1
            clear H1
            have H' := Aside0.mk H
            clear H
            have hcz22_0 : wr.cell? ⟨gb246, 0, none⟩ = some (.int .i64 a0_0) := (blk_cell BK246.out 0).trans rfl
            have hcz22_1 : wr.cell? ⟨gb246, 1, none⟩ = some (.slice A0_1 l0_1.length c0_1) := (blk_cell BK246.out 1).trans rfl
            have hfz22_0 := blk_frozen BK246.out 0
            have hfz22_1 := blk_frozen BK246.out 1
            go_wp2_with (first | ((with_reducible refine gate_callee (f := 53) rfl ?_); refine goesL_ (some 24) rfl rfl Tryd.func53 (by kernel_rfl) rfl #[.int .i64 a0_0, .int .i64 1, .int .i64 4294967295] rfl (by (try simp only [List.map_toArray, List.map_cons, List.map_nil]); first | done | rfl | (simp only [List.length_drop, List.length_take]; rfl)) ?_; (with_reducible refine (impl_in.calls a0_0 1 4294967295 false _ A13.out).mono ?_); rintro e w' ⟨rfl, ⟨nd, rfl⟩⟩; refine ⟨_, rfl, ?_⟩))
            go_meet
            case rel => exact ⟨_, (true), (by first | rfl | (simp; done) | (simp [*]; done)), H', ⟨by have := HK1.out; first | omega | exact Nat.le_refl _⟩, ⟨by (with_reducible repeat (first | apply Kd.R_alloc | apply Kd.R_drewN | apply Kd.R_drew)); exact HO_3.out⟩, ⟨by (with_reducible repeat (first | refine blk_drewN ?_ _ | refine blk_drew ?_ | refine blk_alloc ?_ _)); exact BK246.out⟩, ⟨by repeat (first | (with_reducible first | exact HB.out | apply below_alloc | apply pw_below_drewN | apply below_drew1 | refine below_set ?_ GE246.out) | exact HB.out)⟩⟩
        case rest =>
          clear HC12
          try clear c1
          try clear p2
          try clear q2
          try clear hx2
          try clear c3
          try clear c4
          try clear c4b0
          try clear c5
          try clear c5b0
          try clear c6
          try clear c6b0
          try clear p6
          try clear c7
          try clear c9
          try clear c14
          try clear c16
          try clear hcz10_0
          try clear hcz10_1
          try clear hcz18_0
          try clear hcz18_1
          try clear hcz20_0
          try clear hcz20_1
          try clear hcz22_0
          try clear hcz22_1
          try clear hcz3_0
          try clear hcz3_1
          try clear hfz10_0
          try clear hfz10_1
          try clear hfz18_0
          try clear hfz18_1
          try clear hfz20_0
          try clear hfz20_1
          try clear hfz22_0
          try clear hfz22_1
          try clear hfz3_0
          try clear hfz3_1
          try clear hx247_0
          try clear hx247_1
          try clear p2
          try clear p247
          try clear q247
          obtain ⟨kq, x36_11, rfl, HA, HJ11, HO_3, BK246, HB⟩ := hcut
          cases kq with
          | zero => exact absurd HA.out (by simp [impl_EncodeDescriptor.j1])
          | succ kj11 =>
            have H := HA.out
            clear HA
            simp only [impl_EncodeDescriptor.j1] at H
            by_cases c23 : x36_11 = true
            · subst c23
              have H1 : (some ([] : List Int)) = some r := by rw [if_pos rfl] at H; exact H
              clear H
              have H := H1
              clear H1
              obtain rfl := Option.some.inj H
              go_wp2
              go_ret
              exact ⟨_, by first | rfl | (simp [errW_none, errW_some] <;> rfl) | (simp [*, errW_none, errW_some] <;> rfl), by first | exact Kd.R_nil _ _ _ _ _ | exact Kd.N_nil _ _ _ _ _ | exact Kd.V_nil _ _ _ _ _ | exact Kd.Q_nil _ _ _ _ _ | exact Kd.S_nil _ _ _ _ _, by repeat (first | (with_reducible first | exact HB.out | apply below_alloc | apply pw_below_drewN | apply below_drew1 | refine below_set ?_ GE246.out) | exact HB.out)⟩
            · replace c23 := Bool.eq_false_iff.mpr c23
              subst c23
              have H1 : ((impl_head.f kj11 2 (x3_1.length : Int) a0_0).bind fun t255 => (impl_EncodeDescriptor.l1 kj11 t255 l0_1 (l0_1.length : Int) 0)) = some r := by rw [if_neg (show ¬ (false = true) by decide)] at H; exact H
              clear H
              have H := H1
              clear H1
              replace H := Option.bind_eq_some_iff.mp H
              obtain ⟨t255, A240, H⟩ := H
              replace H : (impl_EncodeDescriptor.l1 kj11 t255 l0_1 (l0_1.length : Int) 0) = some r := H
              have A24 := Aside0.mk A240
              clear A240
              have H' := Aside0.mk H
              clear H
              obtain ⟨Ao25, co25, eo25⟩ := Kd.R_slice HO_3.out
              subst eo25
              have hcz26_0 : wc.cell? ⟨gb246, 0, none⟩ = some (.int .i64 a0_0) := (blk_cell BK246.out 0).trans rfl
              have hcz26_1 : wc.cell? ⟨gb246, 1, none⟩ = some (.slice A0_1 l0_1.length c0_1) := (blk_cell BK246.out 1).trans rfl
              have hfz26_0 := blk_frozen BK246.out 0
              have hfz26_1 := blk_frozen BK246.out 1
              go_wp2_with (first | ((with_reducible refine gate_callee (f := 54) rfl ?_); refine goesL_ (some 41) rfl rfl Tryd.func54 (by kernel_rfl) rfl #[.int .i64 2, .int .i64 (x3_1.length : Int), .int .i64 a0_0] rfl (by (try simp only [List.map_toArray, List.map_cons, List.map_nil]); first | done | rfl | (simp only [List.length_drop, List.length_take]; rfl)) ?_; (with_reducible refine (impl_head.calls kj11 2 (x3_1.length : Int) a0_0 t255 _ A24.out).mono ?_); rintro e w27 ⟨v256, rfl, ho0, hb⟩; refine ⟨_, rfl, ?_⟩; have n0_ := Aside0.mk (Kd.R_below (by (with_reducible repeat (first | apply Kd.R_alloc | apply Kd.R_drewN | apply Kd.R_drew)); exact HO_3.out) hb); have n1_ := Aside0.mk (Kd.R_lower ho0 (below_size (by repeat (first | (with_reducible first | exact HB.out | apply below_alloc | apply pw_below_drewN | apply below_drew1 | refine below_set ?_ GE246.out) | exact HB.out)))); have n2_ := Aside0.mk (blk_below (g := gb246) (o := .cells #[.int .i64 a0_0, .slice A0_1 l0_1.length c0_1] 43 (0, 0)) (by (with_reducible repeat (first | refine blk_drewN ?_ _ | refine blk_drew ?_ | refine blk_alloc ?_ _)); exact BK246.out) hb); have n3_ := Aside0.mk (below_step (by repeat (first | (with_reducible first | exact HB.out | apply below_alloc | apply pw_below_drewN | apply below_drew1 | refine below_set ?_ GE246.out) | exact HB.out)) hb); clear HO_3; clear BK246; clear HB; have HO_3 := n0_; have HO257 := n1_; have BK246 := n2_; have HB := n3_; clear n0_ n1_ n2_ n3_; (try clear hb); (try clear hb2); (try clear hk); (try clear hi); (try clear ho0); have hcz28_0 : w27.cell? ⟨gb246, 0, none⟩ = some (.int .i64 a0_0) := (blk_cell BK246.out 0).trans rfl; have hcz28_1 : w27.cell? ⟨gb246, 1, none⟩ = some (.slice A0_1 l0_1.length c0_1) := (blk_cell BK246.out 1).trans rfl; have hfz28_0 := blk_frozen BK246.out 0; have hfz28_1 := blk_frozen BK246.out 1))
              go_loopg [45] kj11 (fun kq v45 w' => ∃ (x6_3 : List Int) (x45_3 : Int), v45 = .int .i64 x45_3 ∧ Aside0 (impl_EncodeDescriptor.l1 kq x6_3 l0_1 (l0_1.length : Int) x45_3 = some r) ∧ Aside0 (kq ≤ kj11) ∧ Aside0 (Kd.R (Kd.int .u8) 5 w' w.heap.size (fun _ => True) v256 x6_3) ∧ Aside0 (w'.heap[gb246]? = some (.cells #[.int .i64 a0_0, (.slice A0_1 l0_1.length c0_1)] 43 (0, 0))) ∧ Aside0 (Below w.heap.size w w'))
              case atStart => exact ⟨(t255), (0), (by first | rfl | (simp; done) | (simp [*]; done)), H', ⟨Nat.le_refl _⟩, ⟨by (with_reducible repeat (first | apply Kd.R_alloc | apply Kd.R_drewN | apply Kd.R_drew)); exact HO257.out⟩, ⟨by (with_reducible repeat (first | refine blk_drewN ?_ _ | refine blk_drew ?_ | refine blk_alloc ?_ _)); exact BK246.out⟩, ⟨by repeat (first | (with_reducible first | exact HB.out | apply below_alloc | apply pw_below_drewN | apply below_drew1 | refine below_set ?_ GE246.out) | exact HB.out)⟩⟩
              case round =>
                clear H'
                try clear c1
                try clear c2
                try clear p2
                try clear q2
                try clear hx2
                try clear c3
                try clear c4
                try clear c4b0
                try clear c5
                try clear c5b0
                try clear c6
                try clear c6b0
                try clear p6
                try clear c7
                try clear c9
                try clear c14
                try clear c16
                try clear c23
                try clear p24
                try clear q24
                try clear hx24
                try clear hcz10_0
                try clear hcz10_1
                try clear hcz18_0
                try clear hcz18_1
                try clear hcz20_0
                try clear hcz20_1
                try clear hcz22_0
                try clear hcz22_1
                try clear hcz26_0
                try clear hcz26_1
                try clear hcz28_0
                try clear hcz28_1
                try clear hcz3_0
                try clear hcz3_1
                try clear hfz10_0
                try clear hfz10_1
                try clear hfz18_0
                try clear hfz18_1
                try clear hfz20_0
                try clear hfz20_1
                try clear hfz22_0
                try clear hfz22_1
                try clear hfz26_0
                try clear hfz26_1
                try clear hfz28_0
                try clear hfz28_1
                try clear hfz3_0
                try clear hfz3_1
                try clear hx247_0
                try clear hx247_1
                try clear p2
                try clear p247
                try clear p6
                try clear q2
                try clear q247
                obtain ⟨x6_3, x45_3, rfl, HA, HK3, HO_6, BK246, HB⟩ := hrel
                cases gk with
                | zero => exact absurd HA.out (by simp [impl_EncodeDescriptor.l1])
                | succ k3 =>
                  have H := HA.out
                  clear HA
                  simp only [impl_EncodeDescriptor.l1] at H
                  by_cases c29 : x45_3 < (l0_1.length : Int)
                  · rw [if_pos c29] at H
                    have c29b0 : decide (x45_3 < (l0_1.length : Int)) = true := decide_eq_true c29
                    clear c29
                    by_cases c30 : 0 ≤ x45_3
                    · rw [if_pos c30] at H
                      have c30b0 : decide (0 ≤ x45_3) = true := decide_eq_true c30
                      clear c30
                      by_cases c31 : x45_3 < (l0_1.length : Int)
                      · rw [if_pos c31] at H
                        have c31b0 : decide (x45_3 < (l0_1.length : Int)) = true := decide_eq_true c31
                        clear c31
                        replace H := Option.bind_eq_some_iff.mp H
                        obtain ⟨t260, A320, H⟩ := H
                        replace H : (if (rd_T67 l0_1 x45_3).f1 = true then (if 0 ≤ (wrap64 (14 + (wrap64 (3 * x45_3)))) then (if (wrap64 (14 + (wrap64 (3 * x45_3)))) < (x6_3.length : Int) then (impl_EncodeDescriptor.l1 k3 (t260.set ((wrap64 (14 + (wrap64 (3 * x45_3)))) : Int).toNat 1) l0_1 (l0_1.length : Int) (wrap64 (x45_3 + 1))) else (none)) else (none)) else (impl_EncodeDescriptor.l1 k3 t260 l0_1 (l0_1.length : Int) (wrap64 (x45_3 + 1)))) = some r := H
                        have A32 := Aside0.mk A320
                        clear A320
                        obtain ⟨bq33, hbq33⟩ : ∃ b_ : Bool, b_ = ((rd_T67 l0_1 x45_3).f1) := ⟨_, rfl⟩
                        replace H : (if bq33 = true then (if 0 ≤ (wrap64 (14 + (wrap64 (3 * x45_3)))) then (if (wrap64 (14 + (wrap64 (3 * x45_3)))) < (x6_3.length : Int) then (impl_EncodeDescriptor.l1 k3 (t260.set ((wrap64 (14 + (wrap64 (3 * x45_3)))) : Int).toNat 1) l0_1 (l0_1.length : Int) (wrap64 (x45_3 + 1))) else (none)) else (none)) else (impl_EncodeDescriptor.l1 k3 t260 l0_1 (l0_1.length : Int) (wrap64 (x45_3 + 1)))) = some r := by rw [← hbq33] at H; exact H
                        have Nbq33 := Aside0.mk hbq33
                        clear hbq33
                        by_cases c34 : bq33 = true
                        · subst c34
                          have H1 : (if 0 ≤ (wrap64 (14 + (wrap64 (3 * x45_3)))) then (if (wrap64 (14 + (wrap64 (3 * x45_3)))) < (x6_3.length : Int) then (impl_EncodeDescriptor.l1 k3 (t260.set ((wrap64 (14 + (wrap64 (3 * x45_3)))) : Int).toNat 1) l0_1 (l0_1.length : Int) (wrap64 (x45_3 + 1))) else (none)) else (none)) = some r := by rw [if_pos rfl] at H; exact H
                          clear H
                          have H := H1
                          clear H1
                          obtain ⟨ji35, hji35⟩ : ∃ j_ : Int, (wrap64 (14 + (wrap64 (3 * x45_3)))) = j_ := ⟨_, rfl⟩
                          replace H : (if 0 ≤ (ji35) then (if (ji35) < (x6_3.length : Int) then (impl_EncodeDescriptor.l1 k3 (t260.set ((ji35) : Int).toNat 1) l0_1 (l0_1.length : Int) (wrap64 (x45_3 + 1))) else (none)) else (none)) = some r := by first | (rw [hji35] at H; exact H) | (simp only [hji35] at H ⊢; exact H)
                          (try rw [hji35] at A32)
                          have hji35w : (IntKind.i64.wrap (14 + (wrap64 (3 * x45_3)))) = ji35 := (i64_w _).trans hji35
                          by_cases c36 : 0 ≤ (ji35)
                          · rw [if_pos c36] at H
                            have c36b0 : decide (0 ≤ (ji35)) = true := decide_eq_true c36
                            clear c36
                            by_cases c37 : (ji35) < (x6_3.length : Int)
                            · rw [if_pos c37] at H
                              have c37b0 : decide ((ji35) < (x6_3.length : Int)) = true := decide_eq_true c37
                              clear c37
                              obtain ⟨y261, hy261⟩ : ∃ y_ : List Int, y_ = (t260.set ((ji35) : Int).toNat 1) := ⟨_, rfl⟩
                              replace H : (impl_EncodeDescriptor.l1 k3 y261 l0_1 (l0_1.length : Int) (wrap64 (x45_3 + 1))) = some r := by first | (rw [hy261]; with_reducible exact H) | (have H2_ := (Option.bind_some _ _).symm.trans H; rw [hy261]; with_reducible exact H2_) | (have H2_ := (Option.bind_some _ _).symm.trans H; with_reducible exact H2_) | with_reducible exact H | (rw [hy261]; exact H) | exact H
                              have Ny261 := Aside0.mk hy261
                              clear hy261
                              have H' := Aside0.mk H
                              clear H
                              have p258 : 0 ≤ (x45_3 : Int) := of_decide_eq_true (by first | (with_reducible assumption) | assumption)
                              have q258 : x45_3 < (l0_1.length : Int) := of_decide_eq_true (by first | (with_reducible assumption) | assumption)
                              obtain ⟨ad258, e258, hx258_0, hx258_1⟩ := at_T67 HR0_1.out x45_3 p258 q258
                              (try rw [← Nbq33.out] at hx258_1)
                              cases e258
                              replace hx258_0 := (HB.out.cell (World.block_lt_of_cell? w _ hx258_0)).trans hx258_0
                              replace hx258_1 := (HB.out.cell (World.block_lt_of_cell? w _ hx258_1)).trans hx258_1
                              replace p258 := eq_true p258
                              replace q258 := eq_true q258
                              go_wp2_with (first | ((with_reducible refine gate_dst (N := 8) rfl ?_); (try (refine gate_guard (by rfl) ?_; dsimp only)); refine box_event ?hg (N := 8) ?hd (cs := #[.int .i64 0, .bool false]) (t := 67) ?hr ?_; (case hd => rfl); (case hg => rfl); (case hr => first | (go_simp; done) | (go_simp; rfl)); intro gb259 hg w39 hbox hb; have n0_ := Aside0.mk (Kd.R_below (by (with_reducible repeat (first | apply Kd.R_alloc | apply Kd.R_drewN | apply Kd.R_drew)); exact HO_6.out) hb); have n1_ := Aside0.mk (blk_below (g := gb246) (o := .cells #[.int .i64 a0_0, .slice (some ad258) l0_1.length c0_1] 43 (0, 0)) (by (with_reducible repeat (first | refine blk_drewN ?_ _ | refine blk_drew ?_ | refine blk_alloc ?_ _)); exact BK246.out) hb); have n2_ := Aside0.mk (below_step (by repeat (first | (with_reducible first | exact HB.out | apply below_alloc | apply pw_below_drewN | apply below_drew1 | refine below_set ?_ GE246.out) | exact HB.out)) hb); have n3_ := Aside0.mk (hbox); have n4_ := Aside0.mk ((by rw [hg]; exact (below_size (by repeat (first | (with_reducible first | exact HB.out | apply below_alloc | apply pw_below_drewN | apply below_drew1 | refine below_set ?_ GE246.out) | exact HB.out))) : w.heap.size ≤ gb259)); have n5_ := Aside0.mk ((by rw [hg]; exact (below_size (by repeat (first | (with_reducible first | exact HB.out | apply below_alloc | apply pw_below_drewN | apply below_drew1 | refine below_set ?_ GE246.out) | exact HB.out))) : w.heap.size ≤ gb259)); have n6_ := Aside0.mk ((by rw [hg]; exact Nat.ne_of_lt (blk_lt (g := gb246) (o := .cells #[.int .i64 a0_0, .slice (some ad258) l0_1.length c0_1] 43 (0, 0)) (by (with_reducible repeat (first | refine blk_drewN ?_ _ | refine blk_drew ?_ | refine blk_alloc ?_ _)); exact BK246.out)) : gb246 ≠ gb259)); have n7_ := Aside0.mk ((by rw [hg]; exact Nat.ne_of_gt (blk_lt (g := gb246) (o := .cells #[.int .i64 a0_0, .slice (some ad258) l0_1.length c0_1] 43 (0, 0)) (by (with_reducible repeat (first | refine blk_drewN ?_ _ | refine blk_drew ?_ | refine blk_alloc ?_ _)); exact BK246.out)) : gb259 ≠ gb246)); clear HO_6; clear BK246; clear HB; have HO_6 := n0_; have BK246 := n1_; have HB := n2_; have BK259 := n3_; have GW259 := n4_; have GE259 := n5_; have NB246_259 := n6_; have NB259_246 := n7_; clear n0_ n1_ n2_ n3_ n4_ n5_ n6_ n7_; clear hb hbox hg; have hnb40 := NB259_246.out; have hnc40 := NB246_259.out; have hcz41_0 : w39.cell? ⟨gb259, 0, none⟩ = some (.int .i64 0) := (blk_cell BK259.out 0).trans rfl; have hcz41_1 : w39.cell? ⟨gb259, 1, none⟩ = some (.bool false) := (blk_cell BK259.out 1).trans rfl; have hfz41_0 := blk_frozen BK259.out 0; have hfz41_1 := blk_frozen BK259.out 1) | ((with_reducible refine gate_store (t := 67) (p := 8) rfl ?_); refine store_event (t := 67) (p := 8) (v := ?vo_w42) (w1 := ((w39.setCell ⟨gb259, 0, none⟩ (.int .i64 ((rd_T67 l0_1 x45_3).f0))).setCell ⟨gb259, 1, none⟩ (.bool true))) ?hg ?ho ?hn ?hr ?_; (case ho => rfl); (case hg => rfl); (case hn => rfl); (case hr => first | (go_simp; done) | (go_simp; rfl)); intro w42 hw; have n0_ : Aside0 (Kd.R (Kd.int .u8) 5 w42 w.heap.size (fun _ => True) v256 x6_3) := ⟨(by rw [hw]; exact (by (with_reducible repeat (first | apply Kd.R_alloc | apply Kd.R_drewN | apply Kd.R_drew)); exact Kd.R_mono (Kd.R_far (p := ⟨gb259, 1, none⟩) (Kd.R_far (p := ⟨gb259, 0, none⟩) (Kd.R_types HO_6.out BK259.out (by decide)) (fun _ hk => hk.2) (.int .i64 ((rd_T67 l0_1 x45_3).f0))) (fun _ hk => hk.2) (.bool true)) (fun _ hk => trivial)))⟩; have n1_ : Aside0 (w42.heap[gb246]? = some (.cells #[.int .i64 a0_0, .slice (some ad258) l0_1.length c0_1] 43 (0, 0))) := ⟨(by rw [hw]; exact (by (with_reducible repeat (first | refine blk_drewN ?_ _ | refine blk_drew ?_ | refine blk_alloc ?_ _)); refine blk_far ?_ NB246_259.out _; (with_reducible repeat (first | refine blk_drewN ?_ _ | refine blk_drew ?_ | refine blk_alloc ?_ _)); refine blk_far ?_ NB246_259.out _; (with_reducible repeat (first | refine blk_drewN ?_ _ | refine blk_drew ?_ | refine blk_alloc ?_ _)); exact BK246.out))⟩; have n2_ : Aside0 (w42.heap[gb259]? = some (.cells #[.int .i64 ((rd_T67 l0_1 x45_3).f0), .bool true] 67 (0, 0))) := ⟨(by rw [hw]; exact (by (with_reducible repeat (first | refine blk_drewN ?_ _ | refine blk_drew ?_ | refine blk_alloc ?_ _)); refine blk_put (cs := #[.int .i64 ((rd_T67 l0_1 x45_3).f0), .bool false]) ?_ 1 _ rfl; (with_reducible repeat (first | refine blk_drewN ?_ _ | refine blk_drew ?_ | refine blk_alloc ?_ _)); refine blk_put (cs := #[.int .i64 0, .bool false]) ?_ 0 _ rfl; (with_reducible repeat (first | refine blk_drewN ?_ _ | refine blk_drew ?_ | refine blk_alloc ?_ _)); exact BK259.out))⟩; have n3_ : Aside0 (Below w.heap.size w w42) := ⟨(by rw [hw]; exact (by repeat (first | (with_reducible first | exact HB.out | apply below_alloc | apply pw_below_drewN | apply below_drew1 | refine below_set ?_ GE246.out | refine below_set ?_ GE259.out) | exact HB.out)))⟩; clear hw; clear HO_6; clear BK246; clear BK259; clear HB; have HO_6 := n0_; have BK246 := n1_; have BK259 := n2_; have HB := n3_; clear n0_ n1_ n2_ n3_; have hcz43_0 : w42.cell? ⟨gb259, 0, none⟩ = some (.int .i64 ((rd_T67 l0_1 x45_3).f0)) := (blk_cell BK259.out 0).trans rfl; have hcz43_1 : w42.cell? ⟨gb259, 1, none⟩ = some (.bool true) := (blk_cell BK259.out 1).trans rfl; have hfz43_0 := blk_frozen BK259.out 0; have hfz43_1 := blk_frozen BK259.out 1; obtain ⟨Ao44, co44, eo44⟩ := Kd.R_slice HO_6.out; subst eo44) | ((with_reducible refine gate_callee (f := 55) rfl ?_); refine goesL_ (some 56) rfl rfl Tryd.func55 (by kernel_rfl) rfl #[.slice Ao44 x6_3.length co44, .int .i64 (wrap64 (12 + (wrap64 (3 * x45_3)))), .int .i64 ((rd_T67 l0_1 x45_3).f0), .int .i64 2] rfl (by (try simp only [List.map_toArray, List.map_cons, List.map_nil]); first | done | rfl | (simp only [List.length_drop, List.length_take]; rfl)) ?_; (with_reducible refine (impl_put.calls k3 (fun k_ => some k_ = (.slice Ao44 x6_3.length co44 : Value).ownBlock) (.slice Ao44 x6_3.length co44) x6_3 (wrap64 (12 + (wrap64 (3 * x45_3)))) ((rd_T67 l0_1 x45_3).f0) 2 t260 w _ ?side1 ?side2 A32.out).mono ?_); (case side1 => repeat (first | (with_reducible first | exact HB.out | apply below_alloc | apply pw_below_drewN | apply below_drew1 | refine below_set ?_ GE246.out | refine below_set ?_ GE259.out) | exact HB.out)); (case side2 => exact Kd.R_tight rfl HO_6.out); rintro e w45 ⟨rfl, hy0, hb, hkp⟩; refine ⟨_, rfl, ?_⟩; have n0_ := Aside0.mk (Kd.R_reok rfl hy0 (fun k_ e_ => HO_6.out.1 k_ e_)); have n1_ := Aside0.mk (blk_kept (by (with_reducible repeat (first | refine blk_drewN ?_ _ | refine blk_drew ?_ | refine blk_alloc ?_ _)); exact BK246.out) hkp (fun hs_ => (fun e_ => (Kd.R_ne HO_6.out BK246.out (by decide)) e_) hs_)); have n2_ := Aside0.mk (blk_kept (by (with_reducible repeat (first | refine blk_drewN ?_ _ | refine blk_drew ?_ | refine blk_alloc ?_ _)); exact BK259.out) hkp (fun hs_ => (fun e_ => (Kd.R_ne HO_6.out BK259.out (by decide)) e_) hs_)); have n3_ := Aside0.mk (hb); clear HO_6; clear BK246; clear BK259; clear HB; have HO_6 := n0_; have BK246 := n1_; have BK259 := n2_; have HB := n3_; clear n0_ n1_ n2_ n3_; (try clear hb); (try clear hkp); (try clear hy0); have hcz46_0 : w45.cell? ⟨gb259, 0, none⟩ = some (.int .i64 ((rd_T67 l0_1 x45_3).f0)) := (blk_cell BK259.out 0).trans rfl; have hcz46_1 : w45.cell? ⟨gb259, 1, none⟩ = some (.bool true) := (blk_cell BK259.out 1).trans rfl; have hfz46_0 := blk_frozen BK259.out 0; have hfz46_1 := blk_frozen BK259.out 1; have p38 : 0 ≤ ((ji35) : Int) := of_decide_eq_true (by first | (with_reducible assumption) | assumption); have q38 : ((ji35) : Int) < ((x6_3.length : Int) : Int) := of_decide_eq_true (by first | (with_reducible assumption) | assumption); obtain ⟨go38, co38, eo38, gb38, gl38, cl38, HG38⟩ := Kd.R_form HO_6.out (by first | omega | (have e_ := (Kd.R_reads' HO_6.out).1; omega)); (first | cases eo38 | (injection eo38 with ea_ en_ ec_; (first | subst ea_ | (injection ea_ with ea_; subst ea_)); subst ec_; clear en_)); have GB38 := Aside0.mk gb38; have GG38 := Aside0.mk HG38; clear gb38 gl38 HG38; obtain ⟨hx38_0, hf38_0⟩ := Kd.R_celln 0 HO_6.out ((ji35) : Int) p38 q38; replace p38 := eq_true p38; replace q38 := eq_true q38; obtain ⟨hy47_, hz47_⟩ := Kd.R_celln 0 HO_6.out ((ji35) : Int) (of_decide_eq_true (by first | (with_reducible assumption) | assumption)) (of_decide_eq_true (by first | (with_reducible assumption) | assumption)); have HP47 := Kd.R_putg HO_6.out ((ji35) : Int) 1) | ((with_reducible refine gate_store (t := 5) (p := 63) rfl ?_); refine store_event (t := 5) (p := 63) (v := ?vo_w48) (w1 := (w45.setCell ⟨go38, ((ji35) : Int).toNat, none⟩ (.int .u8 1))) ?hg ?ho ?hn ?hr ?_; (case ho => rfl); (case hg => rfl); (case hn => rfl); (case hr => first | (go_simp; done) | (go_simp; rfl)); intro w48 hw; have hg : w45.grownBy w48 (some go38) := (by rw [hw]; exact HP47.2); have hp_ : Kd.R (Kd.int .u8) 5 w48 w.heap.size (fun _ => True) (.slice (some ⟨go38, 0, none⟩) x6_3.length co44) y261 := (by rw [hw, Ny261.out]; exact HP47.1); clear HP47; have n0_ := Aside0.mk (hp_); have n1_ := Aside0.mk (blk_grown (g := gb246) (o := .cells #[.int .i64 a0_0, .slice (some ad258) l0_1.length c0_1] 43 (0, 0)) (by (with_reducible repeat (first | refine blk_drewN ?_ _ | refine blk_drew ?_ | refine blk_alloc ?_ _)); exact BK246.out) hg (Kd.R_ne HO_6.out BK246.out (by decide))); have n2_ := Aside0.mk (blk_grown (g := gb259) (o := .cells #[.int .i64 ((rd_T67 l0_1 x45_3).f0), .bool true] 67 (0, 0)) (by (with_reducible repeat (first | refine blk_drewN ?_ _ | refine blk_drew ?_ | refine blk_alloc ?_ _)); exact BK259.out) hg (Kd.R_ne HO_6.out BK259.out (by decide))); have n3_ := Aside0.mk ((by rw [hw]; exact below_set (HB.out) GB38.out : Below w.heap.size w w48)); clear HO_6; clear BK246; clear BK259; clear HB; have HO_6 := n0_; have BK246 := n1_; have BK259 := n2_; have HB := n3_; clear n0_ n1_ n2_ n3_; clear hg hw hp_))
                              go_roundg k3
                              case measure => have := HK1.out; have := HJ11.out; have := HK3.out; omega
                              case rel => exact ⟨(y261), (wrap64 (x45_3 + 1)), (by first | rfl | (simp; done) | (simp [*]; done)), H', ⟨by have := HK1.out; have := HJ11.out; have := HK3.out; omega⟩, ⟨by (with_reducible repeat (first | apply Kd.R_alloc | apply Kd.R_drewN | apply Kd.R_drew)); exact HO_6.out⟩, ⟨by (with_reducible repeat (first | refine blk_drewN ?_ _ | refine blk_drew ?_ | refine blk_alloc ?_ _)); exact BK246.out⟩, ⟨by repeat (first | (with_reducible first | exact HB.out | apply below_alloc | apply pw_below_drewN | apply below_drew1 | refine below_set ?_ GE246.out | refine below_set ?_ GE259.out) | exact HB.out)⟩⟩
                            · rw [if_neg c37] at H
                              exact absurd H (by simp)
                          · rw [if_neg c36] at H
                            exact absurd H (by simp)
                        · replace c34 := Bool.eq_false_iff.mpr c34
                          subst c34
                          have H1 : (impl_EncodeDescriptor.l1 k3 t260 l0_1 (l0_1.length : Int) (wrap64 (x45_3 + 1))) = some r := by rw [if_neg (show ¬ (false = true) by decide)] at H; exact H
                          clear H
                          have H := H1
                          clear H1
                          have H' := Aside0.mk H
                          clear H
                          have p258 : 0 ≤ (x45_3 : Int) := of_decide_eq_true (by first | (with_reducible assumption) | assumption)
                          have q258 : x45_3 < (l0_1.length : Int) := of_decide_eq_true (by first | (with_reducible assumption) | assumption)
                          obtain ⟨ad258, e258, hx258_0, hx258_1⟩ := at_T67 HR0_1.out x45_3 p258 q258
                          (try rw [← Nbq33.out] at hx258_1)
                          cases e258
                          replace hx258_0 := (HB.out.cell (World.block_lt_of_cell? w _ hx258_0)).trans hx258_0
                          replace hx258_1 := (HB.out.cell (World.block_lt_of_cell? w _ hx258_1)).trans hx258_1
                          replace p258 := eq_true p258
                          replace q258 := eq_true q258
                          go_wp2_with (first | ((with_reducible refine gate_dst (N := 8) rfl ?_); (try (refine gate_guard (by rfl) ?_; dsimp only)); refine box_event ?hg (N := 8) ?hd (cs := #[.int .i64 0, .bool false]) (t := 67) ?hr ?_; (case hd => rfl); (case hg => rfl); (case hr => first | (go_simp; done) | (go_simp; rfl)); intro gb259 hg w49 hbox hb; have n0_ := Aside0.mk (Kd.R_below (by (with_reducible repeat (first | apply Kd.R_alloc | apply Kd.R_drewN | apply Kd.R_drew)); exact HO_6.out) hb); have n1_ := Aside0.mk (blk_below (g := gb246) (o := .cells #[.int .i64 a0_0, .slice (some ad258) l0_1.length c0_1] 43 (0, 0)) (by (with_reducible repeat (first | refine blk_drewN ?_ _ | refine blk_drew ?_ | refine blk_alloc ?_ _)); exact BK246.out) hb); have n2_ := Aside0.mk (below_step (by repeat (first | (with_reducible first | exact HB.out | apply below_alloc | apply pw_below_drewN | apply below_drew1 | refine below_set ?_ GE246.out) | exact HB.out)) hb); have n3_ := Aside0.mk (hbox); have n4_ := Aside0.mk ((by rw [hg]; exact (below_size (by repeat (first | (with_reducible first | exact HB.out | apply below_alloc | apply pw_below_drewN | apply below_drew1 | refine below_set ?_ GE246.out) | exact HB.out))) : w.heap.size ≤ gb259)); have n5_ := Aside0.mk ((by rw [hg]; exact (below_size (by repeat (first | (with_reducible first | exact HB.out | apply below_alloc | apply pw_below_drewN | apply below_drew1 | refine below_set ?_ GE246.out) | exact HB.out))) : w.heap.size ≤ gb259)); have n6_ := Aside0.mk ((by rw [hg]; exact Nat.ne_of_lt (blk_lt (g := gb246) (o := .cells #[.int .i64 a0_0, .slice (some ad258) l0_1.length c0_1] 43 (0, 0)) (by (with_reducible repeat (first | refine blk_drewN ?_ _ | refine blk_drew ?_ | refine blk_alloc ?_ _)); exact BK246.out)) : gb246 ≠ gb259)); have n7_ := Aside0.mk ((by rw [hg]; exact Nat.ne_of_gt (blk_lt (g := gb246) (o := .cells #[.int .i64 a0_0, .slice (some ad258) l0_1.length c0_1] 43 (0, 0)) (by (with_reducible repeat (first | refine blk_drewN ?_ _ | refine blk_drew ?_ | refine blk_alloc ?_ _)); exact BK246.out)) : gb259 ≠ gb246)); clear HO_6; clear BK246; clear HB; have HO_6 := n0_; have BK246 := n1_; have HB := n2_; have BK259 := n3_; have GW259 := n4_; have GE259 := n5_; have NB246_259 := n6_; have NB259_246 := n7_; clear n0_ n1_ n2_ n3_ n4_ n5_ n6_ n7_; clear hb hbox hg; have hnb50 := NB259_246.out; have hnc50 := NB246_259.out; have hcz51_0 : w49.cell? ⟨gb259, 0, none⟩ = some (.int .i64 0) := (blk_cell BK259.out 0).trans rfl; have hcz51_1 : w49.cell? ⟨gb259, 1, none⟩ = some (.bool false) := (blk_cell BK259.out 1).trans rfl; have hfz51_0 := blk_frozen BK259.out 0; have hfz51_1 := blk_frozen BK259.out 1) | ((with_reducible refine gate_store (t := 67) (p := 8) rfl ?_); refine store_event (t := 67) (p := 8) (v := ?vo_w52) (w1 := ((w49.setCell ⟨gb259, 0, none⟩ (.int .i64 ((rd_T67 l0_1 x45_3).f0))).setCell ⟨gb259, 1, none⟩ (.bool false))) ?hg ?ho ?hn ?hr ?_; (case ho => rfl); (case hg => rfl); (case hn => rfl); (case hr => first | (go_simp; done) | (go_simp; rfl)); intro w52 hw; have n0_ : Aside0 (Kd.R (Kd.int .u8) 5 w52 w.heap.size (fun _ => True) v256 x6_3) := ⟨(by rw [hw]; exact (by (with_reducible repeat (first | apply Kd.R_alloc | apply Kd.R_drewN | apply Kd.R_drew)); exact Kd.R_mono (Kd.R_far (p := ⟨gb259, 1, none⟩) (Kd.R_far (p := ⟨gb259, 0, none⟩) (Kd.R_types HO_6.out BK259.out (by decide)) (fun _ hk => hk.2) (.int .i64 ((rd_T67 l0_1 x45_3).f0))) (fun _ hk => hk.2) (.bool false)) (fun _ hk => trivial)))⟩; have n1_ : Aside0 (w52.heap[gb246]? = some (.cells #[.int .i64 a0_0, .slice (some ad258) l0_1.length c0_1] 43 (0, 0))) := ⟨(by rw [hw]; exact (by (with_reducible repeat (first | refine blk_drewN ?_ _ | refine blk_drew ?_ | refine blk_alloc ?_ _)); refine blk_far ?_ NB246_259.out _; (with_reducible repeat (first | refine blk_drewN ?_ _ | refine blk_drew ?_ | refine blk_alloc ?_ _)); refine blk_far ?_ NB246_259.out _; (with_reducible repeat (first | refine blk_drewN ?_ _ | refine blk_drew ?_ | refine blk_alloc ?_ _)); exact BK246.out))⟩; have n2_ : Aside0 (w52.heap[gb259]? = some (.cells #[.int .i64 ((rd_T67 l0_1 x45_3).f0), .bool false] 67 (0, 0))) := ⟨(by rw [hw]; exact (by (with_reducible repeat (first | refine blk_drewN ?_ _ | refine blk_drew ?_ | refine blk_alloc ?_ _)); refine blk_put (cs := #[.int .i64 ((rd_T67 l0_1 x45_3).f0), .bool false]) ?_ 1 _ rfl; (with_reducible repeat (first | refine blk_drewN ?_ _ | refine blk_drew ?_ | refine blk_alloc ?_ _)); refine blk_put (cs := #[.int .i64 0, .bool false]) ?_ 0 _ rfl; (with_reducible repeat (first | refine blk_drewN ?_ _ | refine blk_drew ?_ | refine blk_alloc ?_ _)); exact BK259.out))⟩; have n3_ : Aside0 (Below w.heap.size w w52) := ⟨(by rw [hw]; exact (by repeat (first | (with_reducible first | exact HB.out | apply below_alloc | apply pw_below_drewN | apply below_drew1 | refine below_set ?_ GE246.out | refine below_set ?_ GE259.out) | exact HB.out)))⟩; clear hw; clear HO_6; clear BK246; clear BK259; clear HB; have HO_6 := n0_; have BK246 := n1_; have BK259 := n2_; have HB := n3_; clear n0_ n1_ n2_ n3_; have hcz53_0 : w52.cell? ⟨gb259, 0, none⟩ = some (.int .i64 ((rd_T67 l0_1 x45_3).f0)) := (blk_cell BK259.out 0).trans rfl; have hcz53_1 : w52.cell? ⟨gb259, 1, none⟩ = some (.bool false) := (blk_cell BK259.out 1).trans rfl; have hfz53_0 := blk_frozen BK259.out 0; have hfz53_1 := blk_frozen BK259.out 1; obtain ⟨Ao54, co54, eo54⟩ := Kd.R_slice HO_6.out; subst eo54) | ((with_reducible refine gate_callee (f := 55) rfl ?_); refine goesL_ (some 56) rfl rfl Tryd.func55 (by kernel_rfl) rfl #[.slice Ao54 x6_3.length co54, .int .i64 (wrap64 (12 + (wrap64 (3 * x45_3)))), .int .i64 ((rd_T67 l0_1 x45_3).f0), .int .i64 2] rfl (by (try simp only [List.map_toArray, List.map_cons, List.map_nil]); first | done | rfl | (simp only [List.length_drop, List.length_take]; rfl)) ?_; (with_reducible refine (impl_put.calls k3 (fun k_ => some k_ = (.slice Ao54 x6_3.length co54 : Value).ownBlock) (.slice Ao54 x6_3.length co54) x6_3 (wrap64 (12 + (wrap64 (3 * x45_3)))) ((rd_T67 l0_1 x45_3).f0) 2 t260 w _ ?side1 ?side2 A32.out).mono ?_); (case side1 => repeat (first | (with_reducible first | exact HB.out | apply below_alloc | apply pw_below_drewN | apply below_drew1 | refine below_set ?_ GE246.out | refine below_set ?_ GE259.out) | exact HB.out)); (case side2 => exact Kd.R_tight rfl HO_6.out); rintro e w55 ⟨rfl, hy0, hb, hkp⟩; refine ⟨_, rfl, ?_⟩; have n0_ := Aside0.mk (Kd.R_reok rfl hy0 (fun k_ e_ => HO_6.out.1 k_ e_)); have n1_ := Aside0.mk (blk_kept (by (with_reducible repeat (first | refine blk_drewN ?_ _ | refine blk_drew ?_ | refine blk_alloc ?_ _)); exact BK246.out) hkp (fun hs_ => (fun e_ => (Kd.R_ne HO_6.out BK246.out (by decide)) e_) hs_)); have n2_ := Aside0.mk (blk_kept (by (with_reducible repeat (first | refine blk_drewN ?_ _ | refine blk_drew ?_ | refine blk_alloc ?_ _)); exact BK259.out) hkp (fun hs_ => (fun e_ => (Kd.R_ne HO_6.out BK259.out (by decide)) e_) hs_)); have n3_ := Aside0.mk (hb); clear HO_6; clear BK246; clear BK259; clear HB; have HO_6 := n0_; have BK246 := n1_; have BK259 := n2_; have HB := n3_; clear n0_ n1_ n2_ n3_; (try clear hb); (try clear hkp); (try clear hy0); have hcz56_0 : w55.cell? ⟨gb259, 0, none⟩ = some (.int .i64 ((rd_T67 l0_1 x45_3).f0)) := (blk_cell BK259.out 0).trans rfl; have hcz56_1 : w55.cell? ⟨gb259, 1, none⟩ = some (.bool false) := (blk_cell BK259.out 1).trans rfl; have hfz56_0 := blk_frozen BK259.out 0; have hfz56_1 := blk_frozen BK259.out 1))
                          go_roundg k3
                          case measure => have := HK1.out; have := HJ11.out; have := HK3.out; omega
                          case rel => exact ⟨(t260), (wrap64 (x45_3 + 1)), (by first | rfl | (simp; done) | (simp [*]; done)), H', ⟨by have := HK1.out; have := HJ11.out; have := HK3.out; omega⟩, ⟨by (with_reducible repeat (first | apply Kd.R_alloc | apply Kd.R_drewN | apply Kd.R_drew)); exact HO_6.out⟩, ⟨by (with_reducible repeat (first | refine blk_drewN ?_ _ | refine blk_drew ?_ | refine blk_alloc ?_ _)); exact BK246.out⟩, ⟨by repeat (first | (with_reducible first | exact HB.out | apply below_alloc | apply pw_below_drewN | apply below_drew1 | refine below_set ?_ GE246.out | refine below_set ?_ GE259.out) | exact HB.out)⟩⟩
                      · rw [if_neg c31] at H
                        exact absurd H (by simp)
                    · rw [if_neg c30] at H
                      exact absurd H (by simp)
                  · rw [if_neg c29] at H
                    have c29b0 : decide (x45_3 < (l0_1.length : Int)) = false := decide_eq_false c29
                    clear c29
                    obtain rfl := Option.some.inj H
                    go_wp2
                    go_ret
                    exact ⟨_, by first | rfl | (simp [errW_none, errW_some] <;> rfl) | (simp [*, errW_none, errW_some] <;> rfl), by (with_reducible repeat (first | apply Kd.R_alloc | apply Kd.R_drewN | apply Kd.R_drew)); exact HO_6.out, by repeat (first | (with_reducible first | exact HB.out | apply below_alloc | apply pw_below_drewN | apply below_drew1 | refine below_set ?_ GE246.out) | exact HB.out)⟩

end Go.Proofs.YtmlahbgogbjfpaaDoor.PFnExactDecodeDescriptor
