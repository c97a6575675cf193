-- written by a program of this session (wip/src/print2.py)
import Derived.Test.YtkehfdadplpaeaaDoorPFnExactParseLinex0
import Derived.Test.YtkehfdadplpaeaaDoorPFnExactParseLinex2
namespace Go.Proofs.YtkehfdadplpaeaaDoor.PFnExactParseLine
open Go.RowKit Go.Proofs.YtkehfdadplpaeaaDoorW.PrintWords Go.Proofs.YtkehfdadplpaeaaDoorW.PrintLast Go.Proofs.YtkehfdadplpaeaaDoorW.PrintMore
attribute [local go_sem] max2_int min2_int max_two min_two max_three min_three max_four min_four   -- for this text's walks alone
set_option linter.unusedVariables false
set_option linter.unusedSimpArgs false

/-! ### spec_l14Number: function 60 -/
mutual
def spec_l14Number.j0 : Nat → ByteArray → ByteArray → Bool → Option (Int × Bool)
 | 0, _, _, _ => none
 | k + 1, x0, x4, x15 => if x15 = true then (if 1 ≤ (x0.size : Int) then (spec_l14Number.j1 k x0 (x0.extract 1 x0.size)) else (none)) else (spec_l14Number.j1 k x0 x4)
def spec_l14Number.j1 : Nat → ByteArray → ByteArray → Option (Int × Bool)
 | 0, _, _ => none
 | k + 1, x0, x4 => if (x4.size : Int) < 1 then (spec_l14Number.j2 k x0 x4 0 true) else (spec_l14Number.j2 k x0 x4 0 (decide ((x4.size : Int) > 9)))
def spec_l14Number.j2 : Nat → ByteArray → ByteArray → Int → Bool → Option (Int × Bool)
 | 0, _, _, _, _ => none
 | k + 1, x0, x4, x5, x25 => if x25 = true then (some (0, false)) else (spec_l14Number.l0 k x0 x4 x5 0)
def spec_l14Number.l0 : Nat → ByteArray → ByteArray → Int → Int → Option (Int × Bool)
 | 0, _, _, _, _ => none
 | k + 1, x0, x4, x5, x6 => if x6 < (x4.size : Int) then (if 0 ≤ x6 then (if (bt x4 x6) < 48 then (some (0, false)) else (if (bt x4 x6) > 57 then (some (0, false)) else (spec_l14Number.l0 k x0 x4 (wrap64 ((wrap64 (x5 * 10)) + (((bt x4 x6) - 48) % 256))) (wrap64 (x6 + 1))))) else (none)) else (if (x4.size : Int) < (x0.size : Int) then ((spec_l14Dec.f k (wrap64 (-x5))).bind fun t122 => (if t122.toList = x0.toList then (some (wrap64 (-x5), true)) else (some (0, false)))) else ((spec_l14Dec.f k x5).bind fun t123 => (if t123.toList = x0.toList then (some (x5, true)) else (some (0, false)))))
end
def spec_l14Number.f (k : Nat) (a0 : ByteArray) : Option (Int × Bool) := if (a0.size : Int) > 1 then (if 0 < (a0.size : Int) then (spec_l14Number.j0 k a0 a0 ((bt a0 0) == 45)) else (none)) else (spec_l14Number.j0 k a0 a0 false)
set_option maxHeartbeats 8000000 in
set_option maxRecDepth 100000 in
theorem spec_l14Number.calls (k : Nat) (a0 : ByteArray) (r1 : Int) (r2 : Bool) (w : World) (h : spec_l14Number.f k a0 = some (r1, r2)) :
  Calls Tryd.prog 60 #[.string a0] w fun e w' => e = .returned (.tuple #[.int .i64 r1, .bool r2]) ∧ Below w.heap.size w w' := by
 have HB := Aside0.mk (Below.refl w.heap.size w)
 have H : (if (a0.size : Int) > 1 then (if 0 < (a0.size : Int) then (spec_l14Number.j0 k a0 a0 ((bt a0 0) == 45)) else (none)) else (spec_l14Number.j0 k a0 a0 false)) = some (r1, r2) := h
 clear h
 have HC2 := Aside0.mk H
 clear H
 go_enter Tryd.func60, Tryd.ntmps60
 go_upto_region 2 with (fail)
 go_cut [15] from 15 to 15 (fun v15 wc => ∃ (kq : Nat) (x15_1 : Bool), v15 = .bool x15_1 ∧ Aside0 (spec_l14Number.j0 kq a0 a0 x15_1 = some (r1, r2)) ∧ Aside0 (kq ≤ k) ∧ Aside0 (Below w.heap.size w wc))
 case first =>
  have H := HC2.out
  clear HC2
  by_cases c3 : (a0.size : Int) > 1
  ·
   rw [if_pos c3] at H
   have c3b0 : decide (1 < (a0.size : Int)) = true := decide_eq_true c3
   have c3b1 : decide (1 < a0.size) = true := decide_eq_true (by omega)
   clear c3
   (first | rw [c3b0] | (simp only [i64_w, i32_w]; rw [c3b0]) | skip)
   by_cases c4 : 0 < (a0.size : Int)
   ·
    rw [if_pos c4] at H
    have c4b0 : decide (0 < (a0.size : Int)) = true := decide_eq_true c4
    have c4b1 : decide (0 < a0.size) = true := decide_eq_true (by omega)
    clear c4
    have H' := Aside0.mk H
    clear H
    have p5 : 0 ≤ (0 : Int) := (by omega)
    have q5 : 0 < a0.size := (by have : (0 : Int) < (a0.size : Int) := of_decide_eq_true (by first | (with_reducible assumption) | assumption); omega)
    have hx5 : ∀ h : 0 < a0.size, ((a0[0]'h).toNat : Int) = bt a0 0 := bt_at a0 0
    clear p5
    have qi5 : (0 < (a0.size : Int)) = True := eq_true (of_decide_eq_true (by first | (with_reducible assumption) | assumption))
    replace q5 := eq_true q5
    go_wp2
    go_meet
    case rel => exact ⟨_, (((bt a0 0) == 45)), (by first | rfl | (simp; done) | (simp [*]; done)), H', ⟨by first | omega | exact Nat.le_refl _⟩, ⟨Rgn.bq HB.out⟩⟩
   ·
    rw [if_neg c4] at H
    exact absurd H (by simp)
  ·
   rw [if_neg c3] at H
   have c3b0 : decide (1 < (a0.size : Int)) = false := decide_eq_false c3
   have c3b1 : decide (1 < a0.size) = false := decide_eq_false (by omega)
   clear c3
   (first | rw [c3b0] | (simp only [i64_w, i32_w]; rw [c3b0]) | skip)
   have H' := Aside0.mk H
   clear H
   go_wp2
   go_meet
   case rel => exact ⟨_, (false), (by first | rfl | (simp; done) | (simp [*]; done)), H', ⟨by first | omega | exact Nat.le_refl _⟩, ⟨Rgn.bq HB.out⟩⟩
 case rest =>
  clear HC2
  obtain ⟨kq, x15_1, rfl, HA, HJ1, HB⟩ := hcut
  cases kq with
  | zero => exact absurd HA.out (by simp [spec_l14Number.j0])
  | succ kj1 =>
   have H := HA.out
   clear HA
   simp only [spec_l14Number.j0] at H
   have HC6 := Aside0.mk H
   clear H
   go_upto_if 15 with (fail)
   go_cut [4] from 4 to 4 (fun v4 wc => ∃ (kq : Nat) (x4_5 : ByteArray), v4 = .string x4_5 ∧ Aside0 (spec_l14Number.j1 kq a0 x4_5 = some (r1, r2)) ∧ Aside0 (kq ≤ kj1) ∧ Aside0 (Below w.heap.size w wc))
   case first =>
    have H := HC6.out
    clear HC6
    by_cases c7 : x15_1 = true
    ·
     subst c7
     replace H := Rgn.ip H
     by_cases c8 : 1 ≤ (a0.size : Int)
     ·
      rw [if_pos c8] at H
      have c8b0 := eq_true c8
      have c8b1 : decide (1 ≤ (a0.size : Int)) = true := decide_eq_true c8
      clear c8
      have H' := Aside0.mk H
      clear H
      go_wp2
      go_meet
      case rel => exact ⟨_, (a0.extract 1 a0.size), (by first | rfl | (simp; done) | (simp [*]; done)), H', ⟨by have := HJ1.out; first | omega | exact Nat.le_refl _⟩, ⟨Rgn.bq HB.out⟩⟩
     ·
      rw [if_neg c8] at H
      exact absurd H (by simp)
    ·
     replace c7 := Bool.eq_false_iff.mpr c7
     subst c7
     replace H := Rgn.im H
     have H' := Aside0.mk H
     clear H
     go_wp2
     go_meet
     case rel => exact ⟨_, (a0), (by first | rfl | (simp; done) | (simp [*]; done)), H', ⟨by have := HJ1.out; first | omega | exact Nat.le_refl _⟩, ⟨Rgn.bq HB.out⟩⟩
   case rest =>
    clear HC6
    obtain ⟨kq, x4_5, rfl, HA, HJ5, HB⟩ := hcut
    cases kq with
    | zero => exact absurd HA.out (by simp [spec_l14Number.j1])
    | succ kj5 =>
     have H := HA.out
     clear HA
     simp only [spec_l14Number.j1] at H
     have HC9 := Aside0.mk H
     clear H
     go_upto_region 5 with (fail)
     go_cut [25] from 25 to 25 (fun v25 wc => ∃ (kq : Nat) (x25_8 : Bool), v25 = .bool x25_8 ∧ Aside0 (spec_l14Number.j2 kq a0 x4_5 0 x25_8 = some (r1, r2)) ∧ Aside0 (kq ≤ kj5) ∧ Aside0 (Below w.heap.size w wc))
     case first =>
      have H := HC9.out
      clear HC9
      by_cases c10 : (x4_5.size : Int) < 1
      ·
       rw [if_pos c10] at H
       have c10b0 : decide ((x4_5.size : Int) < 1) = true := decide_eq_true c10
       have c10b1 : decide (x4_5.size < 1) = true := decide_eq_true (by omega)
       clear c10
       (first | rw [c10b0] | (simp only [i64_w, i32_w]; rw [c10b0]) | skip)
       have H' := Aside0.mk H
       clear H
       go_wp2
       go_meet
       case rel => exact ⟨_, (true), (by first | rfl | (simp; done) | (simp [*]; done)), H', ⟨by have := HJ1.out; have := HJ5.out; first | omega | exact Nat.le_refl _⟩, ⟨Rgn.bq HB.out⟩⟩
      ·
       rw [if_neg c10] at H
       have c10b0 : decide ((x4_5.size : Int) < 1) = false := decide_eq_false c10
       have c10b1 : decide (x4_5.size < 1) = false := decide_eq_false (by omega)
       clear c10
       (first | rw [c10b0] | (simp only [i64_w, i32_w]; rw [c10b0]) | skip)
       have H' := Aside0.mk H
       clear H
       go_wp2
       go_meet
       case rel => exact ⟨_, (decide ((x4_5.size : Int) > 9)), (by first | rfl | (simp; done) | (simp [*]; done)), H', ⟨by have := HJ1.out; have := HJ5.out; first | omega | exact Nat.le_refl _⟩, ⟨Rgn.bq HB.out⟩⟩
     case rest =>
      clear HC9
      obtain ⟨kq, x25_8, rfl, HA, HJ8, HB⟩ := hcut
      cases kq with
      | zero => exact absurd HA.out (by simp [spec_l14Number.j2])
      | succ kj8 =>
       have H := HA.out
       clear HA
       simp only [spec_l14Number.j2] at H
       by_cases c11 : x25_8 = true
       ·
        subst c11
        replace H := Rgn.ip H
        simp only [Option.some.injEq, Prod.mk.injEq] at H
        obtain ⟨rfl, rfl⟩ := H
        go_wp2
        go_ret2
        exact ⟨by first | rfl | (simp [errW_none, errW_some] <;> rfl) | (simp [*, errW_none, errW_some] <;> rfl), Rgn.bq HB.out⟩
       ·
        replace c11 := Bool.eq_false_iff.mpr c11
        subst c11
        replace H := Rgn.im H
        have H' := Aside0.mk H
        clear H
        go_wp2
        go_loopg [5, 6] kj8 (fun kq v5 v6 w' => ∃ (x5_4 : Int) (x6_4 : Int), v5 = .int .i64 x5_4 ∧ v6 = .int .i64 x6_4 ∧ Aside0 (spec_l14Number.l0 kq a0 x4_5 x5_4 x6_4 = some (r1, r2)) ∧ Aside0 (kq ≤ kj8) ∧ Aside0 (Below w.heap.size w w'))
        case atStart => exact ⟨(0), (0), (by first | rfl | (simp; done) | (simp [*]; done)), (by first | rfl | (simp; done) | (simp [*]; done)), H', ⟨Nat.le_refl _⟩, ⟨Rgn.bq HB.out⟩⟩
        case round =>
         clear H'
         try clear c11
         obtain ⟨x5_4, x6_4, rfl, rfl, HA, HK4, HB⟩ := hrel
         cases gk with
         | zero => exact absurd HA.out (by simp [spec_l14Number.l0])
         | succ k4 =>
          have H := HA.out
          clear HA
          simp only [spec_l14Number.l0] at H
          by_cases c12 : x6_4 < (x4_5.size : Int)
          ·
           rw [if_pos c12] at H
           have c12b0 : decide (x6_4 < (x4_5.size : Int)) = true := decide_eq_true c12
           clear c12
           by_cases c13 : 0 ≤ x6_4
           ·
            rw [if_pos c13] at H
            have c13b0 : decide (0 ≤ x6_4) = true := decide_eq_true c13
            clear c13
            by_cases c15 : (bt x4_5 x6_4) < 48
            ·
             rw [if_pos c15] at H
             have c15b0 : decide ((bt x4_5 x6_4) < 48) = true := decide_eq_true c15
             clear c15
             simp only [Option.some.injEq, Prod.mk.injEq] at H
             obtain ⟨rfl, rfl⟩ := H
             have p14 : 0 ≤ (x6_4 : Int) := of_decide_eq_true (by first | (with_reducible assumption) | assumption)
             have q14 : x6_4 < (x4_5.size : Int) := of_decide_eq_true (by first | (with_reducible assumption) | assumption)
             have hx14 := bt_at x4_5 x6_4
             replace p14 := eq_true p14
             replace q14 := eq_true q14
             go_wp2
             go_ret2
             exact ⟨by first | rfl | (simp [errW_none, errW_some] <;> rfl) | (simp [*, errW_none, errW_some] <;> rfl), Rgn.bq HB.out⟩
            ·
             rw [if_neg c15] at H
             have c15b0 : decide ((bt x4_5 x6_4) < 48) = false := decide_eq_false c15
             clear c15
             by_cases c17 : (bt x4_5 x6_4) > 57
             ·
              rw [if_pos c17] at H
              have c17b0 : decide (57 < (bt x4_5 x6_4)) = true := decide_eq_true c17
              clear c17
              simp only [Option.some.injEq, Prod.mk.injEq] at H
              obtain ⟨rfl, rfl⟩ := H
              have p14 : 0 ≤ (x6_4 : Int) := of_decide_eq_true (by first | (with_reducible assumption) | assumption)
              have q14 : x6_4 < (x4_5.size : Int) := of_decide_eq_true (by first | (with_reducible assumption) | assumption)
              have hx14 := bt_at x4_5 x6_4
              replace p14 := eq_true p14
              replace q14 := eq_true q14
              have p16 : 0 ≤ (x6_4 : Int) := of_decide_eq_true (by first | (with_reducible assumption) | assumption)
              have q16 : x6_4 < (x4_5.size : Int) := of_decide_eq_true (by first | (with_reducible assumption) | assumption)
              have hx16 := bt_at x4_5 x6_4
              replace p16 := eq_true p16
              replace q16 := eq_true q16
              go_wp2
              go_ret2
              exact ⟨by first | rfl | (simp [errW_none, errW_some] <;> rfl) | (simp [*, errW_none, errW_some] <;> rfl), Rgn.bq HB.out⟩
             ·
              rw [if_neg c17] at H
              have c17b0 : decide (57 < (bt x4_5 x6_4)) = false := decide_eq_false c17
              clear c17
              have H' := Aside0.mk H
              clear H
              have p14 : 0 ≤ (x6_4 : Int) := of_decide_eq_true (by first | (with_reducible assumption) | assumption)
              have q14 : x6_4 < (x4_5.size : Int) := of_decide_eq_true (by first | (with_reducible assumption) | assumption)
              have hx14 := bt_at x4_5 x6_4
              replace p14 := eq_true p14
              replace q14 := eq_true q14
              have p16 : 0 ≤ (x6_4 : Int) := of_decide_eq_true (by first | (with_reducible assumption) | assumption)
              have q16 : x6_4 < (x4_5.size : Int) := of_decide_eq_true (by first | (with_reducible assumption) | assumption)
              have hx16 := bt_at x4_5 x6_4
              replace p16 := eq_true p16
              replace q16 := eq_true q16
              have p18 : 0 ≤ (x6_4 : Int) := of_decide_eq_true (by first | (with_reducible assumption) | assumption)
              have q18 : x6_4 < (x4_5.size : Int) := of_decide_eq_true (by first | (with_reducible assumption) | assumption)
              have hx18 := bt_at x4_5 x6_4
              replace p18 := eq_true p18
              replace q18 := eq_true q18
              go_wp2
              go_roundg k4
              case measure => have := HJ1.out; have := HJ5.out; have := HJ8.out; have := HK4.out; omega
              case rel => exact ⟨(wrap64 ((wrap64 (x5_4 * 10)) + (((bt x4_5 x6_4) - 48) % 256))), (wrap64 (x6_4 + 1)), (by first | rfl | (simp; done) | (simp [*]; done)), (by first | rfl | (simp; done) | (simp [*]; done)), H', ⟨by have := HJ1.out; have := HJ5.out; have := HJ8.out; have := HK4.out; omega⟩, ⟨Rgn.bq HB.out⟩⟩
           ·
            rw [if_neg c13] at H
            exact absurd H (by simp)
          ·
           rw [if_neg c12] at H
           have c12b0 : decide (x6_4 < (x4_5.size : Int)) = false := decide_eq_false c12
           clear c12
           by_cases c19 : (x4_5.size : Int) < (a0.size : Int)
           ·
            rw [if_pos c19] at H
            have c19b0 : decide ((x4_5.size : Int) < (a0.size : Int)) = true := decide_eq_true c19
            have c19b1 : decide (x4_5.size < a0.size) = true := decide_eq_true (Int.ofNat_lt.mp c19)
            clear c19
            replace H := Option.bind_eq_some_iff.mp H
            obtain ⟨t122, A200, H⟩ := H
            replace H : (if t122.toList = a0.toList then (some (wrap64 (-x5_4), true)) else (some (0, false))) = some (r1, r2) := H
            have A20 := Aside0.mk A200
            clear A200
            by_cases c21 : t122.toList = a0.toList
            ·
             rw [if_pos c21] at H
             have c21b0 : (t122.toList == a0.toList) = true := beq_iff_eq.mpr c21
             have c21b1 : (t122.toList != a0.toList) = false := bne_eq_false_iff_eq.mpr c21
             clear c21
             simp only [Option.some.injEq, Prod.mk.injEq] at H
             obtain ⟨rfl, rfl⟩ := H
             go_wp2_with (first | ((with_reducible refine gate_callee (f := 74) rfl ?_); refine Rgn.gl (some 58) Tryd.func74 #[.int .i64 (wrap64 (-x5_4))] ?_; (with_reducible refine (spec_l14Dec.calls k4 (wrap64 (-x5_4)) t122 _ A20.out).mono ?_); rintro e w22 ⟨rfl, hb⟩; refine ⟨_, rfl, ?_⟩; replace HB := Aside0.mk (below_step (Rgn.bq HB.out) hb); (try clear hb)))
             go_ret2
             exact ⟨by first | rfl | (simp [errW_none, errW_some] <;> rfl) | (simp [*, errW_none, errW_some] <;> rfl), Rgn.bq HB.out⟩
            ·
             rw [if_neg c21] at H
             have c21b0 : (t122.toList == a0.toList) = false := beq_eq_false_iff_ne.mpr c21
             have c21b1 : (t122.toList != a0.toList) = true := bne_iff_ne.mpr c21
             simp only [Option.some.injEq, Prod.mk.injEq] at H
             obtain ⟨rfl, rfl⟩ := H
             go_wp2_with (first | ((with_reducible refine gate_callee (f := 74) rfl ?_); refine Rgn.gl (some 58) Tryd.func74 #[.int .i64 (wrap64 (-x5_4))] ?_; (with_reducible refine (spec_l14Dec.calls k4 (wrap64 (-x5_4)) t122 _ A20.out).mono ?_); rintro e w23 ⟨rfl, hb⟩; refine ⟨_, rfl, ?_⟩; replace HB := Aside0.mk (below_step (Rgn.bq HB.out) hb); (try clear hb)))
             go_ret2
             exact ⟨by first | rfl | (simp [errW_none, errW_some] <;> rfl) | (simp [*, errW_none, errW_some] <;> rfl), Rgn.bq HB.out⟩
           ·
            rw [if_neg c19] at H
            have c19b0 : decide ((x4_5.size : Int) < (a0.size : Int)) = false := decide_eq_false c19
            have c19b1 : decide (x4_5.size < a0.size) = false := decide_eq_false (fun h => c19 (Int.ofNat_lt.mpr h))
            clear c19
            replace H := Option.bind_eq_some_iff.mp H
            obtain ⟨t123, A240, H⟩ := H
            replace H : (if t123.toList = a0.toList then (some (x5_4, true)) else (some (0, false))) = some (r1, r2) := H
            have A24 := Aside0.mk A240
            clear A240
            by_cases c25 : t123.toList = a0.toList
            ·
             rw [if_pos c25] at H
             have c25b0 : (t123.toList == a0.toList) = true := beq_iff_eq.mpr c25
             have c25b1 : (t123.toList != a0.toList) = false := bne_eq_false_iff_eq.mpr c25
             clear c25
             simp only [Option.some.injEq, Prod.mk.injEq] at H
             obtain ⟨rfl, rfl⟩ := H
             go_wp2_with (first | ((with_reducible refine gate_callee (f := 74) rfl ?_); refine Rgn.gl (some 58) Tryd.func74 #[.int .i64 x5_4] ?_; (with_reducible refine (spec_l14Dec.calls k4 x5_4 t123 _ A24.out).mono ?_); rintro e w26 ⟨rfl, hb⟩; refine ⟨_, rfl, ?_⟩; replace HB := Aside0.mk (below_step (Rgn.bq HB.out) hb); (try clear hb)))
             go_ret2
             exact ⟨by first | rfl | (simp [errW_none, errW_some] <;> rfl) | (simp [*, errW_none, errW_some] <;> rfl), Rgn.bq HB.out⟩
            ·
             rw [if_neg c25] at H
             have c25b0 : (t123.toList == a0.toList) = false := beq_eq_false_iff_ne.mpr c25
             have c25b1 : (t123.toList != a0.toList) = true := bne_iff_ne.mpr c25
             simp only [Option.some.injEq, Prod.mk.injEq] at H
             obtain ⟨rfl, rfl⟩ := H
             go_wp2_with (first | ((with_reducible refine gate_callee (f := 74) rfl ?_); refine Rgn.gl (some 58) Tryd.func74 #[.int .i64 x5_4] ?_; (with_reducible refine (spec_l14Dec.calls k4 x5_4 t123 _ A24.out).mono ?_); rintro e w27 ⟨rfl, hb⟩; refine ⟨_, rfl, ?_⟩; replace HB := Aside0.mk (below_step (Rgn.bq HB.out) hb); (try clear hb)))
             go_ret2
             exact ⟨by first | rfl | (simp [errW_none, errW_some] <;> rfl) | (simp [*, errW_none, errW_some] <;> rfl), Rgn.bq HB.out⟩

/-! ### spec_l14Numbers: function 29 -/
def spec_l14Numbers.l0 : Nat → List ByteArray → List Int → Int → Option (List Int × Bool)
 | 0, _, _, _ => none
 | k + 1, x0, x6, x7 => if x7 < (x0.length : Int) then (if 0 ≤ x7 then ((spec_l14Number.f k (rdOf ByteArray.empty x0 x7)).bind fun bt128 => (if bt128.2 = true then (if x6.length < 17592186044416 then (spec_l14Numbers.l0 k x0 (x6 ++ [bt128.1]) (wrap64 (x7 + 1))) else (none)) else (some (x6, false)))) else (none)) else (some (x6, true))
def spec_l14Numbers.f (k : Nat) (l0 : List ByteArray) (a1 : Int) : Option (List Int × Bool) := spec_l14Numbers.l0 k l0 (([] : List Int)) a1
set_option maxHeartbeats 8000000 in
set_option maxRecDepth 100000 in
theorem spec_l14Numbers.calls (k : Nat) (A0 : Option Addr) (c0 : Nat) (l0 : List ByteArray) (a1 : Int) (r1 : List Int) (r2 : Bool) (w : World) (hr0 : Kd.C Kd.string w A0 l0.length l0) (hc0 : l0.length ≤ c0) (h : spec_l14Numbers.f k l0 a1 = some (r1, r2)) :
  Calls Tryd.prog 29 #[.slice A0 l0.length c0, .int .i64 a1] w fun e w' => ∃ v0_ : Value, e = .returned (.tuple #[v0_, .bool r2]) ∧ Kd.R (Kd.int .i64) 2 w' w.heap.size (fun _ => True) v0_ r1 ∧ Below w.heap.size w w' := by
 have HR0 := Aside0.mk hr0
 have HC0 := Aside0.mk hc0
 clear hr0 hc0
 have HB := Aside0.mk (Below.refl w.heap.size w)
 have H : (spec_l14Numbers.l0 k l0 (([] : List Int)) a1) = some (r1, r2) := h
 clear h
 obtain ⟨y124, hy124⟩ : ∃ y_ : List Int, y_ = (([] : List Int)) := ⟨_, rfl⟩
 replace H : (spec_l14Numbers.l0 k l0 y124 a1) = some (r1, r2) := by first | (rw [hy124]; with_reducible exact H) | (have H2_ := (Option.bind_some _ _).symm.trans H; rw [hy124]; with_reducible exact H2_) | (have H2_ := (Option.bind_some _ _).symm.trans H; with_reducible exact H2_) | with_reducible exact H | (rw [hy124]; exact H) | exact H
 have Ny124 := Aside0.mk hy124
 clear hy124
 have H' := Aside0.mk H
 clear H
 go_enter Tryd.func29, Tryd.ntmps29
 go_wp2_with (first | ((with_reducible refine gate_dst (N := 10) rfl ?_); refine Kd.R_lit (Kd.int .i64) _ 2 ?hg (N := 10) ?hd (xs := ([] : List Int)) (inner := []) (ok := fun _ => True) (okp := fun _ => True) ?hr ?hp (fun _ hk => hk) trivial (Below.refl _ _) (Nat.le_refl _) (by simp) ?_; (case hd => rfl); (case hg => rfl); (case hr => first | (go_simp; done) | (go_simp; rfl)); (case hp => exact (Reps.none _ _)); intro v125 w3 ho4 hb hg_ hnew_; clear hg_ hnew_; (first | rw [← Ny124.out] at ho4 | (simp only [Int.reduceToNat] at ho4; rw [← Ny124.out] at ho4)); have HO126 := Aside0.mk (Kd.R_lower ho4 (below_size (Rgn.bq HB.out))); replace HB := Aside0.mk (below_step (Rgn.bq HB.out) hb); clear hb ho4))
 go_loopg [6, 7] k (fun kq v6 v7 w' => ∃ (x6_1 : List Int) (x7_1 : Int), v7 = .int .i64 x7_1 ∧ Aside0 (spec_l14Numbers.l0 kq l0 x6_1 x7_1 = some (r1, r2)) ∧ Aside0 (kq ≤ k) ∧ Aside0 (Kd.R (Kd.int .i64) 2 w' w.heap.size (fun _ => True) v6 x6_1) ∧ Aside0 (Below w.heap.size w w'))
 case atStart => exact ⟨(y124), (a1), (by first | rfl | (simp; done) | (simp [*]; done)), H', ⟨Nat.le_refl _⟩, ⟨Rgn.rq HO126.out⟩, ⟨Rgn.bq HB.out⟩⟩
 case round =>
  clear H'
  obtain ⟨x6_1, x7_1, rfl, HA, HK1, HO_6, HB⟩ := hrel
  cases gk with
  | zero => exact absurd HA.out (by simp [spec_l14Numbers.l0])
  | succ k1 =>
   have H := HA.out
   clear HA
   simp only [spec_l14Numbers.l0] at H
   by_cases c5 : x7_1 < (l0.length : Int)
   ·
    rw [if_pos c5] at H
    have c5b0 : decide (x7_1 < (l0.length : Int)) = true := decide_eq_true c5
    clear c5
    by_cases c6 : 0 ≤ x7_1
    ·
     rw [if_pos c6] at H
     have c6b0 : decide (0 ≤ x7_1) = true := decide_eq_true c6
     clear c6
     replace H := Option.bind_eq_some_iff.mp H
     obtain ⟨⟨t128, t129⟩, A70, H⟩ := H
     replace H : (if t129 = true then (if x6_1.length < 17592186044416 then (spec_l14Numbers.l0 k1 l0 (x6_1 ++ [t128]) (wrap64 (x7_1 + 1))) else (none)) else (some (x6_1, false))) = some (r1, r2) := H
     have A7 := Aside0.mk A70
     clear A70
     by_cases c8 : t129 = true
     ·
      subst c8
      replace H := Rgn.ip H
      by_cases c9 : x6_1.length < 17592186044416
      ·
       rw [if_pos c9] at H
       have LMc9 := Aside0.mk c9
       clear c9
       obtain ⟨y130, hy130⟩ : ∃ y_ : List Int, y_ = (x6_1 ++ [t128]) := ⟨_, rfl⟩
       replace H : (spec_l14Numbers.l0 k1 l0 y130 (wrap64 (x7_1 + 1))) = some (r1, r2) := by first | (rw [hy130]; with_reducible exact H) | (have H2_ := (Option.bind_some _ _).symm.trans H; rw [hy130]; with_reducible exact H2_) | (have H2_ := (Option.bind_some _ _).symm.trans H; with_reducible exact H2_) | with_reducible exact H | (rw [hy130]; exact H) | exact H
       have Ny130 := Aside0.mk hy130
       clear hy130
       have H' := Aside0.mk H
       clear H
       have p127 : 0 ≤ (x7_1 : Int) := of_decide_eq_true (by first | (with_reducible assumption) | assumption)
       have q127 : x7_1 < (l0.length : Int) := of_decide_eq_true (by first | (with_reducible assumption) | assumption)
       obtain ⟨ad127, e127, hx127_0⟩ := Kd.at_string HR0.out x7_1 p127 q127
       cases e127
       replace hx127_0 := Rgn.hx HB.out hx127_0
       replace p127 := eq_true p127
       replace q127 := eq_true q127
       go_wp2_with (first | ((with_reducible refine gate_callee (f := 60) rfl ?_); refine Rgn.gl (some 23) Tryd.func60 #[.string (rdOf ByteArray.empty l0 x7_1)] ?_; (with_reducible refine (spec_l14Number.calls k1 (rdOf ByteArray.empty l0 x7_1) t128 true _ A7.out).mono ?_); rintro e w10 ⟨rfl, hb⟩; refine ⟨_, rfl, ?_⟩; replace HO_6 := Aside0.mk (Kd.R_below (Rgn.rq HO_6.out) hb); replace HB := Aside0.mk (below_step (Rgn.bq HB.out) hb); (try clear hb)) | ((with_reducible refine gate_builtin (b := .append) (xs := #[.tmp 29, .tmp 31]) rfl ?_); at_builtin; refine Kd.R_append (Kd.int .i64) (w0 := w) w.heap.size rfl (.tmp 29) (.tmp 31) 25 2 (.int .i64 0) 8 rfl Tryd.underlying25 info2 rfl (by decide) (by omega) u6 x6_1 t128 [.int .i64 t128] (fun _ => True) (fun _ => False) rfl rfl ?aP (fun _ hk => hk.elim) ?aF ?aO ?aB ?aS ?aL ?_; (case aP => exact rfl); (case aB => exact (Rgn.bq HB.out)); (case aF => exact (fun _ _ => trivial)); (case aO => exact (Rgn.rq HO_6.out)); (case aS => exact (below_size (Rgn.bq HB.out))); (case aL => have := LMc9.out; omega); intro v131 w11 ho hb hg hat; rw [← Ny130.out] at ho; replace HB := Aside0.mk (hb); have HO132 := Aside0.mk (ho); clear HO_6; clear ho hb hg hat))
       go_roundg k1
       case measure => have := HK1.out; omega
       case rel => exact ⟨(y130), (wrap64 (x7_1 + 1)), (by first | rfl | (simp; done) | (simp [*]; done)), H', ⟨by have := HK1.out; omega⟩, ⟨Rgn.rq HO132.out⟩, ⟨Rgn.bq HB.out⟩⟩
      ·
       rw [if_neg c9] at H
       exact absurd H (by simp)
     ·
      replace c8 := Bool.eq_false_iff.mpr c8
      subst c8
      replace H := Rgn.im H
      simp only [Option.some.injEq, Prod.mk.injEq] at H
      obtain ⟨rfl, rfl⟩ := H
      have p127 : 0 ≤ (x7_1 : Int) := of_decide_eq_true (by first | (with_reducible assumption) | assumption)
      have q127 : x7_1 < (l0.length : Int) := of_decide_eq_true (by first | (with_reducible assumption) | assumption)
      obtain ⟨ad127, e127, hx127_0⟩ := Kd.at_string HR0.out x7_1 p127 q127
      cases e127
      replace hx127_0 := Rgn.hx HB.out hx127_0
      replace p127 := eq_true p127
      replace q127 := eq_true q127
      go_wp2_with (first | ((with_reducible refine gate_callee (f := 60) rfl ?_); refine Rgn.gl (some 23) Tryd.func60 #[.string (rdOf ByteArray.empty l0 x7_1)] ?_; (with_reducible refine (spec_l14Number.calls k1 (rdOf ByteArray.empty l0 x7_1) t128 false _ A7.out).mono ?_); rintro e w12 ⟨rfl, hb⟩; refine ⟨_, rfl, ?_⟩; replace HO_6 := Aside0.mk (Kd.R_below (Rgn.rq HO_6.out) hb); replace HB := Aside0.mk (below_step (Rgn.bq HB.out) hb); (try clear hb)))
      go_ret2
      exact ⟨_, by first | rfl | (simp [errW_none, errW_some] <;> rfl) | (simp [*, errW_none, errW_some] <;> rfl), Rgn.rq HO_6.out, Rgn.bq HB.out⟩
    ·
     rw [if_neg c6] at H
     exact absurd H (by simp)
   ·
    rw [if_neg c5] at H
    have c5b0 : decide (x7_1 < (l0.length : Int)) = false := decide_eq_false c5
    clear c5
    simp only [Option.some.injEq, Prod.mk.injEq] at H
    obtain ⟨rfl, rfl⟩ := H
    go_wp2
    go_ret2
    exact ⟨_, by first | rfl | (simp [errW_none, errW_some] <;> rfl) | (simp [*, errW_none, errW_some] <;> rfl), Rgn.rq HO_6.out, Rgn.bq HB.out⟩

/-! ### spec_l14Plain: function 72 -/
def spec_l14Plain.f (a0 : Int) : Option (Bool) := if a0 ≥ 33 then (if a0 ≤ 126 then (some (a0 != 37)) else (some false)) else (some false)
set_option maxHeartbeats 8000000 in
set_option maxRecDepth 100000 in
theorem spec_l14Plain.calls (a0 : Int) (r : Bool) (w : World) (h : spec_l14Plain.f a0 = some r) :
  Calls Tryd.prog 72 #[.int .u8 a0] w fun e w' => e = .returned (.bool r) ∧ Drawn0 w w' := by
 have H : (if a0 ≥ 33 then (if a0 ≤ 126 then (some (a0 != 37)) else (some false)) else (some false)) = some r := h
 clear h
 by_cases c2 : a0 ≥ 33
 ·
  rw [if_pos c2] at H
  have c2b0 : decide (33 ≤ a0) = true := decide_eq_true c2
  clear c2
  by_cases c3 : a0 ≤ 126
  ·
   rw [if_pos c3] at H
   have c3b0 : decide (a0 ≤ 126) = true := decide_eq_true c3
   clear c3
   obtain rfl := Option.some.inj H
   go_enter Tryd.func72, Tryd.ntmps72
   go_wp2
   go_ret
   exact ⟨by first | rfl | (simp; done) | (simp [*]; done), by repeat (first | exact Drawn0.refl _ | apply Drawn0.step)⟩
  ·
   rw [if_neg c3] at H
   have c3b0 : decide (a0 ≤ 126) = false := decide_eq_false c3
   clear c3
   obtain rfl := Option.some.inj H
   go_enter Tryd.func72, Tryd.ntmps72
   go_wp2
   go_ret
   exact ⟨by first | rfl | (simp; done) | (simp [*]; done), by repeat (first | exact Drawn0.refl _ | apply Drawn0.step)⟩
 ·
  rw [if_neg c2] at H
  have c2b0 : decide (33 ≤ a0) = false := decide_eq_false c2
  clear c2
  obtain rfl := Option.some.inj H
  go_enter Tryd.func72, Tryd.ntmps72
  go_wp2
  go_ret
  exact ⟨by first | rfl | (simp; done) | (simp [*]; done), by repeat (first | exact Drawn0.refl _ | apply Drawn0.step)⟩

/-! ### spec_l14Hex: function 73 -/
def spec_l14Hex.f (a0 : Int) : Option (ByteArray) := if 0 ≤ a0 then (if a0 ≤ ((a0 + 1) % 256) then (if ((a0 + 1) % 256) ≤ 16 then (some ((⟨#[48, 49, 50, 51, 52, 53, 54, 55, 56, 57, 97, 98, 99, 100, 101, 102]⟩ : ByteArray).extract (a0 : Int).toNat (((a0 + 1) % 256) : Int).toNat)) else (none)) else (none)) else (none)
set_option maxHeartbeats 8000000 in
set_option maxRecDepth 100000 in
theorem spec_l14Hex.calls (a0 : Int) (r : ByteArray) (w : World) (h : spec_l14Hex.f a0 = some r) :
  Calls Tryd.prog 73 #[.int .u8 a0] w fun e w' => e = .returned (.string r) ∧ Drawn0 w w' := by
 have H : (if 0 ≤ a0 then (if a0 ≤ ((a0 + 1) % 256) then (if ((a0 + 1) % 256) ≤ 16 then (some ((⟨#[48, 49, 50, 51, 52, 53, 54, 55, 56, 57, 97, 98, 99, 100, 101, 102]⟩ : ByteArray).extract (a0 : Int).toNat (((a0 + 1) % 256) : Int).toNat)) else (none)) else (none)) else (none)) = some r := h
 clear h
 by_cases c2 : 0 ≤ a0
 ·
  rw [if_pos c2] at H
  have c2b0 := eq_true c2
  have c2b1 : decide (0 ≤ a0) = true := decide_eq_true c2
  clear c2
  by_cases c3 : a0 ≤ ((a0 + 1) % 256)
  ·
   rw [if_pos c3] at H
   have c3b0 := eq_true c3
   have c3b1 : decide (a0 ≤ ((a0 + 1) % 256)) = true := decide_eq_true c3
   by_cases c4 : ((a0 + 1) % 256) ≤ 16
   ·
    rw [if_pos c4] at H
    have c4b0 := eq_true c4
    have c4b1 : decide (((a0 + 1) % 256) ≤ 16) = true := decide_eq_true c4
    obtain rfl := Option.some.inj H
    go_enter Tryd.func73, Tryd.ntmps73
    go_wp2
    go_ret
    exact ⟨by first | rfl | (simp; done) | (simp [*]; done), by repeat (first | exact Drawn0.refl _ | apply Drawn0.step)⟩
   ·
    rw [if_neg c4] at H
    exact absurd H (by simp)
  ·
   rw [if_neg c3] at H
   exact absurd H (by simp)
 ·
  rw [if_neg c2] at H
  exact absurd H (by simp)

/-! ### spec_l14Digit: function 81 -/
def spec_l14Digit.l0 : Nat → Int → Int → Option (Int)
 | 0, _, _ => none
 | k + 1, x0, x3 => if x3 < 16 then ((spec_l14Hex.f x3).bind fun t133 => (if 0 < (t133.size : Int) then (if (bt t133 0) = x0 then (some (wrap64 (x3))) else (spec_l14Digit.l0 k x0 ((x3 + 1) % 256))) else (none))) else (some (-1))
def spec_l14Digit.f (k : Nat) (a0 : Int) : Option (Int) := spec_l14Digit.l0 k a0 0
theorem spec_l14Digit.mono_l : ∀ k, (∀ y0 y1, LeO (spec_l14Digit.l0 k y0 y1) (spec_l14Digit.l0 (k + 1) y0 y1))
 | 0 => fun _ _ r h => by simp [spec_l14Digit.l0] at h
 | k + 1 => by
  have ih0 := spec_l14Digit.mono_l k
  ·
   intro y0 y1
   unfold spec_l14Digit.l0
   repeat' first
   | (with_reducible exact ih0 _ _)
   | (with_reducible exact LeO.refl _)
   | (with_reducible exact LeO.none _)
   | (with_reducible refine LeO.ite ?_ ?_)
   | (with_reducible refine LeO.bind ?_ (fun _ => ?_))
   | exact ih0 _ _
   | exact LeO.none _
   | refine LeO.ite ?_ ?_
   | refine LeO.bind ?_ (fun _ => ?_)
theorem spec_l14Digit.mono : ∀ a0 k, LeO (spec_l14Digit.f k a0) (spec_l14Digit.f (k + 1) a0) := by
 intro a0 k
 have ih0 := spec_l14Digit.mono_l k
 unfold spec_l14Digit.f
 repeat' first
   | (with_reducible exact ih0 _ _)
   | (with_reducible exact LeO.refl _)
   | (with_reducible exact LeO.none _)
   | (with_reducible refine LeO.ite ?_ ?_)
   | (with_reducible refine LeO.bind ?_ (fun _ => ?_))
   | exact ih0 _ _
   | exact LeO.none _
   | refine LeO.ite ?_ ?_
   | refine LeO.bind ?_ (fun _ => ?_)
set_option maxHeartbeats 8000000 in
set_option maxRecDepth 100000 in
theorem spec_l14Digit.calls (k : Nat) (a0 : Int) (r : Int) (w : World) (h : spec_l14Digit.f k a0 = some r) :
  Calls Tryd.prog 81 #[.int .u8 a0] w fun e w' => e = .returned (.int .i64 r) ∧ Drawn0 w w' := by
 have H : (spec_l14Digit.l0 k a0 0) = some r := h
 clear h
 have H' := Aside0.mk H
 clear H
 go_enter Tryd.func81, Tryd.ntmps81
 go_wp2
 go_loopg [3] k (fun kq v3 w' => ∃ (x3_1 : Int), v3 = .int .u8 x3_1 ∧ Aside0 (spec_l14Digit.l0 kq a0 x3_1 = some r) ∧ Aside0 (kq ≤ k) ∧ Drawn0 w w')
 case atStart => exact ⟨(0), (by first | rfl | (simp; done) | (simp [*]; done)), H', ⟨Nat.le_refl _⟩, by repeat (first | exact Drawn0.refl _ | apply Drawn0.step)⟩
 case round =>
  clear H'
  obtain ⟨x3_1, rfl, HA, HK1, ⟨m1, rfl⟩⟩ := hrel
  cases gk with
  | zero => exact absurd HA.out (by simp [spec_l14Digit.l0])
  | succ k1 =>
   have H := HA.out
   clear HA
   simp only [spec_l14Digit.l0] at H
   by_cases c2 : x3_1 < 16
   ·
    rw [if_pos c2] at H
    have c2b0 : decide (x3_1 < 16) = true := decide_eq_true c2
    clear c2
    replace H := Option.bind_eq_some_iff.mp H
    obtain ⟨t133, A30, H⟩ := H
    replace H : (if 0 < (t133.size : Int) then (if (bt t133 0) = a0 then (some (wrap64 (x3_1))) else (spec_l14Digit.l0 k1 a0 ((x3_1 + 1) % 256))) else (none)) = some r := H
    have A3 := Aside0.mk A30
    clear A30
    by_cases c4 : 0 < (t133.size : Int)
    ·
     rw [if_pos c4] at H
     have c4b0 : decide (0 < (t133.size : Int)) = true := decide_eq_true c4
     have c4b1 : decide (0 < t133.size) = true := decide_eq_true (by omega)
     clear c4
     by_cases c6 : (bt t133 0) = a0
     ·
      rw [if_pos c6] at H
      have c6b0 : ((bt t133 0) == a0) = true := beq_iff_eq.mpr c6
      have c6b1 : ((bt t133 0) != a0) = false := bne_eq_false_iff_eq.mpr c6
      clear c6
      obtain rfl := Option.some.inj H
      go_wp2_with (first | ((with_reducible refine gate_callee (f := 73) rfl ?_); refine Rgn.gl (some 9) Tryd.func73 #[.int .u8 x3_1] ?_; (with_reducible refine (spec_l14Hex.calls x3_1 t133 _ A3.out).mono ?_); rintro e w' ⟨rfl, ⟨nd, rfl⟩⟩; refine ⟨_, rfl, ?_⟩; have p5 : 0 ≤ (0 : Int) := (by omega); have q5 : 0 < t133.size := (by have : (0 : Int) < (t133.size : Int) := of_decide_eq_true (by first | (with_reducible assumption) | assumption); omega); have hx5 : ∀ h : 0 < t133.size, ((t133[0]'h).toNat : Int) = bt t133 0 := bt_at t133 0; clear p5; have qi5 : (0 < (t133.size : Int)) = True := eq_true (of_decide_eq_true (by first | (with_reducible assumption) | assumption)); replace q5 := eq_true q5))
      go_ret
      exact ⟨by first | rfl | (simp; done) | (simp [*]; done), by repeat (first | exact Drawn0.refl _ | apply Drawn0.step)⟩
     ·
      rw [if_neg c6] at H
      have c6b0 : ((bt t133 0) == a0) = false := beq_eq_false_iff_ne.mpr c6
      have c6b1 : ((bt t133 0) != a0) = true := bne_iff_ne.mpr c6
      have H' := Aside0.mk H
      clear H
      go_wp2_with (first | ((with_reducible refine gate_callee (f := 73) rfl ?_); refine Rgn.gl (some 9) Tryd.func73 #[.int .u8 x3_1] ?_; (with_reducible refine (spec_l14Hex.calls x3_1 t133 _ A3.out).mono ?_); rintro e w' ⟨rfl, ⟨nd, rfl⟩⟩; refine ⟨_, rfl, ?_⟩; have p5 : 0 ≤ (0 : Int) := (by omega); have q5 : 0 < t133.size := (by have : (0 : Int) < (t133.size : Int) := of_decide_eq_true (by first | (with_reducible assumption) | assumption); omega); have hx5 : ∀ h : 0 < t133.size, ((t133[0]'h).toNat : Int) = bt t133 0 := bt_at t133 0; clear p5; have qi5 : (0 < (t133.size : Int)) = True := eq_true (of_decide_eq_true (by first | (with_reducible assumption) | assumption)); replace q5 := eq_true q5))
      go_roundg k1
      case measure => have := HK1.out; omega
      case rel => exact ⟨((x3_1 + 1) % 256), (by first | rfl | (simp; done) | (simp [*]; done)), H', ⟨by have := HK1.out; omega⟩, by repeat (first | exact Drawn0.refl _ | apply Drawn0.step)⟩
    ·
     rw [if_neg c4] at H
     exact absurd H (by simp)
   ·
    rw [if_neg c2] at H
    have c2b0 : decide (x3_1 < 16) = false := decide_eq_false c2
    clear c2
    obtain rfl := Option.some.inj H
    go_wp2
    go_ret
    exact ⟨by first | rfl | (simp; done) | (simp [*]; done), by repeat (first | exact Drawn0.refl _ | apply Drawn0.step)⟩

end Go.Proofs.YtkehfdadplpaeaaDoor.PFnExactParseLine
