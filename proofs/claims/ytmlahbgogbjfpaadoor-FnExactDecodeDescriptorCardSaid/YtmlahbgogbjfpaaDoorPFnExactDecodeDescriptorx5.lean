-- written by a program of this session (wip/src/print2.py)
import Derived.Test.YtmlahbgogbjfpaaDoorPFnExactDecodeDescriptorx0
import Derived.Test.YtmlahbgogbjfpaaDoorPFnExactDecodeDescriptorx4
namespace Go.Proofs.YtmlahbgogbjfpaaDoor.PFnExactDecodeDescriptor
open Go.RowKit Go.Proofs.YtmlahbgogbjfpaaDoorW.PrintWords Go.Proofs.YtmlahbgogbjfpaaDoorW.PrintLast Go.Proofs.YtmlahbgogbjfpaaDoorW.PrintMore
attribute [local go_sem] max2_int min2_int max_two min_two max_three min_three max_four min_four   -- for this text's walks alone
set_option linter.unusedVariables false
set_option linter.unusedSimpArgs false

/-! ### impl_num: function 28 -/
def impl_num.f (k : Nat) (l0 : List Int) (a1 : Int) (a2 : Int) : Option (Int) := if 0 ≤ a1 then (if a1 ≤ (wrap64 (a1 + a2)) then (if (wrap64 (a1 + a2)) ≤ (l0.length : Int) then ((impl_GetNumber.f k ((l0.take ((wrap64 (a1 + a2)) : Int).toNat).drop (a1 : Int).toNat)).bind fun t234 => (some t234)) else (none)) else (none)) else (none)
theorem impl_num.mono : ∀ a0 a1 a2 k, LeO (impl_num.f k a0 a1 a2) (impl_num.f (k + 1) a0 a1 a2) := by
  intro a0 a1 a2 k
  unfold impl_num.f
  repeat' first
      | (with_reducible exact impl_GetNumber.mono _ _)
      | (with_reducible exact LeO.refl _)
      | (with_reducible exact LeO.none _)
      | (with_reducible refine LeO.ite ?_ ?_)
      | (with_reducible refine LeO.bind ?_ (fun _ => ?_))
      | exact impl_GetNumber.mono _ _
      | exact LeO.none _
      | refine LeO.ite ?_ ?_
      | refine LeO.bind ?_ (fun _ => ?_)
set_option maxHeartbeats 8000000 in
set_option maxRecDepth 100000 in
theorem impl_num.calls (k : Nat) (A0 : Option Addr) (c0 : Nat) (l0 : List Int) (a1 : Int) (a2 : Int) (r : Int) (w : World) (hr0 : Kd.C (Kd.int .u8) w A0 l0.length l0) (hc0 : l0.length ≤ c0) (h : impl_num.f k l0 a1 a2 = some r) :
    Calls Tryd.prog 28 #[.slice A0 l0.length c0, .int .i64 a1, .int .i64 a2] w fun e w' => e = .returned (.int .i64 r) ∧ Drawn0 w w' := by
  have HR0 := Aside0.mk hr0
  have HC0 := Aside0.mk hc0
  clear hr0 hc0
  have H : (if 0 ≤ a1 then (if a1 ≤ (wrap64 (a1 + a2)) then (if (wrap64 (a1 + a2)) ≤ (l0.length : Int) then ((impl_GetNumber.f k ((l0.take ((wrap64 (a1 + a2)) : Int).toNat).drop (a1 : Int).toNat)).bind fun t234 => (some t234)) else (none)) else (none)) else (none)) = some r := h
  clear h
  by_cases c4 : 0 ≤ a1
  · rw [if_pos c4] at H
    have c4b0 := eq_true c4
    have c4b1 : decide (0 ≤ a1) = true := decide_eq_true c4
    clear c4
    by_cases c5 : a1 ≤ (wrap64 (a1 + a2))
    · rw [if_pos c5] at H
      have c5b0 := eq_true c5
      have c5b1 : decide (a1 ≤ (wrap64 (a1 + a2))) = true := decide_eq_true c5
      by_cases c6 : (wrap64 (a1 + a2)) ≤ (l0.length : Int)
      · rw [if_pos c6] at H
        have c6b0 := eq_true c6
        have c6b1 : decide ((wrap64 (a1 + a2)) ≤ (l0.length : Int)) = true := decide_eq_true c6
        replace H := Option.bind_eq_some_iff.mp H
        obtain ⟨t234, A70, H⟩ := H
        replace H : (some t234) = some r := H
        have A7 := Aside0.mk A70
        clear A70
        obtain rfl := Option.some.inj H
        obtain ⟨i08, hi08, _, hsz8, _⟩ := info_parts info5
        obtain ⟨A8, hcut8, hA8, hC8⟩ := print_mid_of (P := Tryd.prog) (Value.int .u8) 0 22 5 .i64 .i64 Tryd.underlying22 hi08 hsz8 A0 c0 l0 a1 (wrap64 (a1 + a2)) (of_decide_eq_true (by first | (with_reducible assumption) | assumption)) (by first | omega | exact of_decide_eq_true (by first | (with_reducible assumption) | assumption)) (of_decide_eq_true (by first | (with_reducible assumption) | assumption)) HC0.out
        have HR233 := Aside0.mk (Kd.C_of_reads (h1 := fun _ => rfl) (hA8 _ (Kd.reads_of_C HR0.out)))
        have HC233 := Aside0.mk hC8
        clear hA8 hC8 hi08 hsz8
        go_enter Tryd.func28, Tryd.ntmps28
        go_wp2_with (first | ((with_reducible refine gate_callee (f := 51) rfl ?_); refine goesL_ (some 13) rfl rfl Tryd.func51 (by kernel_rfl) rfl #[.slice A8 ((l0.take ((wrap64 (a1 + a2)) : Int).toNat).drop (a1 : Int).toNat).length (c0 - a1.toNat)] rfl (by (try simp only [List.map_toArray, List.map_cons, List.map_nil]); first | done | (rw [show ((l0.take ((wrap64 (a1 + a2)) : Int).toNat).drop (a1 : Int).toNat).length = ((wrap64 (a1 + a2)).toNat - a1.toNat) from (by rw [List.length_drop, List.length_take]; have h_ : ((wrap64 (a1 + a2)) : Int) ≤ (l0.length : Int) := of_decide_eq_true (by first | (with_reducible assumption) | assumption); omega)] <;> rfl) | rfl | (simp only [List.length_drop, List.length_take]; rfl)) ?_; (with_reducible refine (impl_GetNumber.calls k _ _ ((l0.take ((wrap64 (a1 + a2)) : Int).toNat).drop (a1 : Int).toNat) t234 _ ?side1 ?side2 A7.out).mono ?_); (case side1 => repeat (first | exact HR233.out | (with_reducible refine Kd.C_alloc ?_ _) | (with_reducible refine Kd.C_drewN ?_ _) | (with_reducible refine Kd.C_drew ?_))); (case side2 => exact HC233.out); rintro e w' ⟨rfl, ⟨nd, rfl⟩⟩; refine ⟨_, rfl, ?_⟩))
        go_ret
        exact ⟨by first | rfl | (simp; done) | (simp [*]; done), by repeat (first | exact Drawn0.refl _ | apply Drawn0.step)⟩
      · rw [if_neg c6] at H
        exact absurd H (by simp)
    · rw [if_neg c5] at H
      exact absurd H (by simp)
  · rw [if_neg c4] at H
    exact absurd H (by simp)

/-! ### impl_BlockKind: function 48 -/
def impl_BlockKind.f (l0 : List Int) : Option (Int) := if (l0.length : Int) = 64 then (if 4 ≤ (l0.length : Int) then (if (strOfNums (l0.take 4)).toList = ([106, 108, 111, 103] : List UInt8) then (if 4 < (l0.length : Int) then (if (rd l0 4) < 1 then (some 0) else (if (rd l0 4) > 4 then (some 0) else (some (wrap64 (rd l0 4))))) else (none)) else (some 0)) else (none)) else (some 0)
set_option maxHeartbeats 8000000 in
set_option maxRecDepth 100000 in
theorem impl_BlockKind.calls (A0 : Option Addr) (c0 : Nat) (l0 : List Int) (r : Int) (w : World) (hr0 : Kd.C (Kd.int .u8) w A0 l0.length l0) (hc0 : l0.length ≤ c0) (h : impl_BlockKind.f l0 = some r) :
    Calls Tryd.prog 48 #[.slice A0 l0.length c0] w fun e w' => e = .returned (.int .i64 r) ∧ Drawn0 w w' := by
  have HR0 := Aside0.mk hr0
  have HC0 := Aside0.mk hc0
  clear hr0 hc0
  have H : (if (l0.length : Int) = 64 then (if 4 ≤ (l0.length : Int) then (if (strOfNums (l0.take 4)).toList = ([106, 108, 111, 103] : List UInt8) then (if 4 < (l0.length : Int) then (if (rd l0 4) < 1 then (some 0) else (if (rd l0 4) > 4 then (some 0) else (some (wrap64 (rd l0 4))))) else (none)) else (some 0)) else (none)) else (some 0)) = some r := h
  clear h
  by_cases c2 : (l0.length : Int) = 64
  · rw [if_pos c2] at H
    have c2b0 : ((l0.length : Int) == 64) = true := beq_iff_eq.mpr c2
    have c2b1 : ((l0.length : Int) != 64) = false := bne_eq_false_iff_eq.mpr c2
    clear c2
    by_cases c3 : 4 ≤ (l0.length : Int)
    · rw [if_pos c3] at H
      have c3b0 := eq_true c3
      have c3b1 : decide (4 ≤ (l0.length : Int)) = true := decide_eq_true c3
      clear c3
      by_cases c4 : (strOfNums (l0.take 4)).toList = ([106, 108, 111, 103] : List UInt8)
      · rw [if_pos c4] at H
        have c4b0 : ((strOfNums (l0.take 4)).toList == ([106, 108, 111, 103] : List UInt8)) = true := beq_iff_eq.mpr c4
        have c4b1 : ((strOfNums (l0.take 4)).toList != ([106, 108, 111, 103] : List UInt8)) = false := bne_eq_false_iff_eq.mpr c4
        clear c4
        by_cases c5 : 4 < (l0.length : Int)
        · rw [if_pos c5] at H
          have c5b0 : decide (4 < (l0.length : Int)) = true := decide_eq_true c5
          have c5b1 : decide (4 < l0.length) = true := decide_eq_true (by omega)
          clear c5
          by_cases c6 : (rd l0 4) < 1
          · rw [if_pos c6] at H
            have c6b0 : decide ((rd l0 4) < 1) = true := decide_eq_true c6
            clear c6
            obtain rfl := Option.some.inj H
            obtain ⟨i07, hi07, _, hsz7, _⟩ := info_parts info5
            obtain ⟨hcut7, hA7, hC7⟩ := print_take_of (P := Tryd.prog) (Value.int .u8) 0 22 5 .i64 Tryd.underlying22 hi07 hsz7 A0 c0 l0 4 (by omega) (of_decide_eq_true (by first | (with_reducible assumption) | assumption)) HC0.out
            have HR235 := Aside0.mk (Kd.C_of_reads (h1 := fun _ => rfl) (hA7 _ (Kd.reads_of_C HR0.out)))
            have HC235 := Aside0.mk hC7
            clear hA7 hC7 hi07 hsz7
            have hcv8 := Kd.C_string (P := Tryd.prog) (A := A0) (c := c0) Tryd.underlying22 Tryd.underlying5 Tryd.underlying9 HR235.out
            simp only [show (4 : Int).toNat = 4 from rfl, List.length_take] at hcut7 hcv8
            have p236 : 0 ≤ (4 : Int) := (by omega)
            have q236 : 4 < (l0.length : Int) := of_decide_eq_true (by first | (with_reducible assumption) | assumption)
            obtain ⟨ad236, e236, hx236_0⟩ := Kd.at_int HR0.out 4 p236 q236
            cases e236
            (try simp only [show (4 : Int).toNat = 4 from rfl, Nat.reduceMul, Nat.reduceEqDiff, Go.Addr.add, ↓reduceIte] at hx236_0)
            have qi236 : (4 < l0.length) = True := eq_true (by omega)
            (try rw [show ((4 : Int)).toNat = 4 from rfl] at hx236_0)
            replace p236 := eq_true p236
            replace q236 := eq_true q236
            go_enter Tryd.func48, Tryd.ntmps48
            go_wp2
            go_ret
            exact ⟨by first | rfl | (simp; done) | (simp [*]; done), by repeat (first | exact Drawn0.refl _ | apply Drawn0.step)⟩
          · rw [if_neg c6] at H
            have c6b0 : decide ((rd l0 4) < 1) = false := decide_eq_false c6
            clear c6
            by_cases c9 : (rd l0 4) > 4
            · rw [if_pos c9] at H
              have c9b0 : decide (4 < (rd l0 4)) = true := decide_eq_true c9
              clear c9
              obtain rfl := Option.some.inj H
              obtain ⟨i010, hi010, _, hsz10, _⟩ := info_parts info5
              obtain ⟨hcut10, hA10, hC10⟩ := print_take_of (P := Tryd.prog) (Value.int .u8) 0 22 5 .i64 Tryd.underlying22 hi010 hsz10 A0 c0 l0 4 (by omega) (of_decide_eq_true (by first | (with_reducible assumption) | assumption)) HC0.out
              have HR235 := Aside0.mk (Kd.C_of_reads (h1 := fun _ => rfl) (hA10 _ (Kd.reads_of_C HR0.out)))
              have HC235 := Aside0.mk hC10
              clear hA10 hC10 hi010 hsz10
              have hcv11 := Kd.C_string (P := Tryd.prog) (A := A0) (c := c0) Tryd.underlying22 Tryd.underlying5 Tryd.underlying9 HR235.out
              simp only [show (4 : Int).toNat = 4 from rfl, List.length_take] at hcut10 hcv11
              have p236 : 0 ≤ (4 : Int) := (by omega)
              have q236 : 4 < (l0.length : Int) := of_decide_eq_true (by first | (with_reducible assumption) | assumption)
              obtain ⟨ad236, e236, hx236_0⟩ := Kd.at_int HR0.out 4 p236 q236
              cases e236
              (try simp only [show (4 : Int).toNat = 4 from rfl, Nat.reduceMul, Nat.reduceEqDiff, Go.Addr.add, ↓reduceIte] at hx236_0)
              have qi236 : (4 < l0.length) = True := eq_true (by omega)
              (try rw [show ((4 : Int)).toNat = 4 from rfl] at hx236_0)
              replace p236 := eq_true p236
              replace q236 := eq_true q236
              have p237 : 0 ≤ (4 : Int) := (by omega)
              have q237 : 4 < (l0.length : Int) := of_decide_eq_true (by first | (with_reducible assumption) | assumption)
              obtain ⟨ad237, e237, hx237_0⟩ := Kd.at_int HR0.out 4 p237 q237
              obtain rfl : ad236 = ad237 := (by injection e237)
              (try simp only [show (4 : Int).toNat = 4 from rfl, Nat.reduceMul, Nat.reduceEqDiff, Go.Addr.add, ↓reduceIte] at hx237_0)
              have qi237 : (4 < l0.length) = True := eq_true (by omega)
              (try rw [show ((4 : Int)).toNat = 4 from rfl] at hx237_0)
              replace p237 := eq_true p237
              replace q237 := eq_true q237
              go_enter Tryd.func48, Tryd.ntmps48
              go_wp2
              go_ret
              exact ⟨by first | rfl | (simp; done) | (simp [*]; done), by repeat (first | exact Drawn0.refl _ | apply Drawn0.step)⟩
            · rw [if_neg c9] at H
              have c9b0 : decide (4 < (rd l0 4)) = false := decide_eq_false c9
              clear c9
              obtain rfl := Option.some.inj H
              obtain ⟨i012, hi012, _, hsz12, _⟩ := info_parts info5
              obtain ⟨hcut12, hA12, hC12⟩ := print_take_of (P := Tryd.prog) (Value.int .u8) 0 22 5 .i64 Tryd.underlying22 hi012 hsz12 A0 c0 l0 4 (by omega) (of_decide_eq_true (by first | (with_reducible assumption) | assumption)) HC0.out
              have HR235 := Aside0.mk (Kd.C_of_reads (h1 := fun _ => rfl) (hA12 _ (Kd.reads_of_C HR0.out)))
              have HC235 := Aside0.mk hC12
              clear hA12 hC12 hi012 hsz12
              have hcv13 := Kd.C_string (P := Tryd.prog) (A := A0) (c := c0) Tryd.underlying22 Tryd.underlying5 Tryd.underlying9 HR235.out
              simp only [show (4 : Int).toNat = 4 from rfl, List.length_take] at hcut12 hcv13
              have p236 : 0 ≤ (4 : Int) := (by omega)
              have q236 : 4 < (l0.length : Int) := of_decide_eq_true (by first | (with_reducible assumption) | assumption)
              obtain ⟨ad236, e236, hx236_0⟩ := Kd.at_int HR0.out 4 p236 q236
              cases e236
              (try simp only [show (4 : Int).toNat = 4 from rfl, Nat.reduceMul, Nat.reduceEqDiff, Go.Addr.add, ↓reduceIte] at hx236_0)
              have qi236 : (4 < l0.length) = True := eq_true (by omega)
              (try rw [show ((4 : Int)).toNat = 4 from rfl] at hx236_0)
              replace p236 := eq_true p236
              replace q236 := eq_true q236
              have p237 : 0 ≤ (4 : Int) := (by omega)
              have q237 : 4 < (l0.length : Int) := of_decide_eq_true (by first | (with_reducible assumption) | assumption)
              obtain ⟨ad237, e237, hx237_0⟩ := Kd.at_int HR0.out 4 p237 q237
              obtain rfl : ad236 = ad237 := (by injection e237)
              (try simp only [show (4 : Int).toNat = 4 from rfl, Nat.reduceMul, Nat.reduceEqDiff, Go.Addr.add, ↓reduceIte] at hx237_0)
              have qi237 : (4 < l0.length) = True := eq_true (by omega)
              (try rw [show ((4 : Int)).toNat = 4 from rfl] at hx237_0)
              replace p237 := eq_true p237
              replace q237 := eq_true q237
              have p238 : 0 ≤ (4 : Int) := (by omega)
              have q238 : 4 < (l0.length : Int) := of_decide_eq_true (by first | (with_reducible assumption) | assumption)
              obtain ⟨ad238, e238, hx238_0⟩ := Kd.at_int HR0.out 4 p238 q238
              obtain rfl : ad236 = ad238 := (by injection e238)
              (try simp only [show (4 : Int).toNat = 4 from rfl, Nat.reduceMul, Nat.reduceEqDiff, Go.Addr.add, ↓reduceIte] at hx238_0)
              have qi238 : (4 < l0.length) = True := eq_true (by omega)
              (try rw [show ((4 : Int)).toNat = 4 from rfl] at hx238_0)
              replace p238 := eq_true p238
              replace q238 := eq_true q238
              go_enter Tryd.func48, Tryd.ntmps48
              go_wp2
              go_ret
              exact ⟨by first | rfl | (simp; done) | (simp [*]; done), by repeat (first | exact Drawn0.refl _ | apply Drawn0.step)⟩
        · rw [if_neg c5] at H
          exact absurd H (by simp)
      · rw [if_neg c4] at H
        have c4b0 : ((strOfNums (l0.take 4)).toList == ([106, 108, 111, 103] : List UInt8)) = false := beq_eq_false_iff_ne.mpr c4
        have c4b1 : ((strOfNums (l0.take 4)).toList != ([106, 108, 111, 103] : List UInt8)) = true := bne_iff_ne.mpr c4
        obtain rfl := Option.some.inj H
        obtain ⟨i014, hi014, _, hsz14, _⟩ := info_parts info5
        obtain ⟨hcut14, hA14, hC14⟩ := print_take_of (P := Tryd.prog) (Value.int .u8) 0 22 5 .i64 Tryd.underlying22 hi014 hsz14 A0 c0 l0 4 (by omega) (of_decide_eq_true (by first | (with_reducible assumption) | assumption)) HC0.out
        have HR235 := Aside0.mk (Kd.C_of_reads (h1 := fun _ => rfl) (hA14 _ (Kd.reads_of_C HR0.out)))
        have HC235 := Aside0.mk hC14
        clear hA14 hC14 hi014 hsz14
        have hcv15 := Kd.C_string (P := Tryd.prog) (A := A0) (c := c0) Tryd.underlying22 Tryd.underlying5 Tryd.underlying9 HR235.out
        simp only [show (4 : Int).toNat = 4 from rfl, List.length_take] at hcut14 hcv15
        go_enter Tryd.func48, Tryd.ntmps48
        go_wp2
        go_ret
        exact ⟨by first | rfl | (simp; done) | (simp [*]; done), by repeat (first | exact Drawn0.refl _ | apply Drawn0.step)⟩
    · rw [if_neg c3] at H
      exact absurd H (by simp)
  · rw [if_neg c2] at H
    have c2b0 : ((l0.length : Int) == 64) = false := beq_eq_false_iff_ne.mpr c2
    have c2b1 : ((l0.length : Int) != 64) = true := bne_iff_ne.mpr c2
    obtain rfl := Option.some.inj H
    go_enter Tryd.func48, Tryd.ntmps48
    go_wp2
    go_ret
    exact ⟨by first | rfl | (simp; done) | (simp [*]; done), by repeat (first | exact Drawn0.refl _ | apply Drawn0.step)⟩

/-! ### impl_parse: function 26 -/
/-- Behind a store of zeros over zeros: the struct, any other block, the size. -/
theorem parse_zero {w : World} {gb : Nat} (h : w.heap[gb]? = some (.cells #[.int .i64 0, .int .i64 0, .int .i64 0, .slice none 0 0] 54 (0, 0))) : ((((w.setCell ⟨gb, 0, none⟩ (.int .i64 0)).setCell ⟨gb, 1, none⟩ (.int .i64 0)).setCell ⟨gb, 2, none⟩ (.int .i64 0)).setCell ⟨gb, 3, none⟩ (.slice none 0 0)).heap[gb]? = some (.cells #[.int .i64 0, .int .i64 0, .int .i64 0, .slice none 0 0] 54 (0, 0)) := by
  refine blk_put (cs := #[.int .i64 0, .int .i64 0, .int .i64 0, .slice none 0 0]) ?_ 3 _ rfl
  refine blk_put (cs := #[.int .i64 0, .int .i64 0, .int .i64 0, .slice none 0 0]) ?_ 2 _ rfl
  refine blk_put (cs := #[.int .i64 0, .int .i64 0, .int .i64 0, .slice none 0 0]) ?_ 1 _ rfl
  exact blk_put (cs := #[.int .i64 0, .int .i64 0, .int .i64 0, .slice none 0 0]) h 0 _ rfl
theorem parse_far {w : World} {gb g : Nat} {t : TypeId} {cs : Array Value} (h : w.heap[g]? = some (.cells cs t (0, 0))) (hn : g ≠ gb) : ((((w.setCell ⟨gb, 0, none⟩ (.int .i64 0)).setCell ⟨gb, 1, none⟩ (.int .i64 0)).setCell ⟨gb, 2, none⟩ (.int .i64 0)).setCell ⟨gb, 3, none⟩ (.slice none 0 0)).heap[g]? = some (.cells cs t (0, 0)) := blk_far (blk_far (blk_far (blk_far h hn _) hn _) hn _) hn _
theorem parse_size {w : World} {gb : Nat} : ((((w.setCell ⟨gb, 0, none⟩ (.int .i64 0)).setCell ⟨gb, 1, none⟩ (.int .i64 0)).setCell ⟨gb, 2, none⟩ (.int .i64 0)).setCell ⟨gb, 3, none⟩ (.slice none 0 0)).heap.size = w.heap.size := by simp [World.setCell]
theorem parse_below {w w0 : World} {gb : Nat} (h : Below w0.heap.size w0 w) (hg : w0.heap.size ≤ gb) : Below w0.heap.size w0 ((((w.setCell ⟨gb, 0, none⟩ (.int .i64 0)).setCell ⟨gb, 1, none⟩ (.int .i64 0)).setCell ⟨gb, 2, none⟩ (.int .i64 0)).setCell ⟨gb, 3, none⟩ (.slice none 0 0)) := (((h.setCell hg _).setCell hg _).setCell hg _).setCell hg _
theorem blk_new' {w : World} {n : Nat} (h : w.heap.size = n) (o : Obj) : (w.alloc o).heap[n]? = some o := h ▸ blk_new w o
def impl_parse.f (k : Nat) (l0 : List Int) (a1 : Int) : Option (Int × Int × Int × ByteArray × Int) := (impl_BlockKind.f l0).bind fun t => if t = 0 then some (0, 0, 0, ⟨#[]⟩, 1) else if t = a1 then (impl_num.f k l0 6 2).bind fun n => (impl_num.f k l0 8 4).bind fun m => some (t, n, m, strOfNums l0, 0) else some (0, 0, 0, ⟨#[]⟩, 1)
theorem impl_parse.mono : ∀ a0 a1 k, LeO (impl_parse.f k a0 a1) (impl_parse.f (k + 1) a0 a1) := fun _ _ k => LeO.bind (LeO.refl _) (fun _ => LeO.ite (LeO.refl _) (LeO.ite (LeO.bind (impl_num.mono _ _ _ k) (fun _ => LeO.bind (impl_num.mono _ _ _ k) (fun _ => LeO.refl _))) (LeO.refl _)))
set_option maxHeartbeats 4000000 in
theorem impl_parse.calls {bE : Addr} (k : Nat) (A0 : Option Addr) (c0 : Nat) (l0 : List Int) (a1 : Int) (r1 : Int) (r2 : Int) (r3 : Int) (r4 : ByteArray) (r5 : Int) (w : World) (hr0 : Kd.C (Kd.int .u8) w A0 l0.length l0) (hc0 : l0.length ≤ c0) (h : impl_parse.f k l0 a1 = some (r1, r2, r3, r4, r5)) (hG0 : Erh.GlobE bE w) :
    Calls Tryd.prog 26 #[.slice A0 l0.length c0, .int .i64 a1] w fun e w' => ∃ (AV : Option Addr) (nV cV : Nat) (v5 : Value), e = .returned (.tuple #[.agg #[.int .i64 r1, .int .i64 r2, .int .i64 r3, .slice AV nV cV], v5]) ∧ Erh.GoodV bE w' r5 v5 ∧ (r5 = 0 → Value.slice AV nV cV = .slice A0 l0.length c0 ∧ r4 = strOfNums l0) ∧ Below w.heap.size w w' := by
  have hu := Tryd.underlying54
  have hu2 := Tryd.underlying77
  obtain ⟨t, A10, H⟩ := Option.bind_eq_some_iff.mp h
  clear h
  have A1 := Aside0.mk A10
  clear A10
  have HB := Aside0.mk (Below.refl w.heap.size w)
  have HR0 := Aside0.mk hr0
  have HC0 := Aside0.mk hc0
  clear hr0 hc0
  by_cases c : t = 0 ∨ ¬ t = a1
  · have e5 : (r1, r2, r3, r4, r5) = (0, 0, 0, (⟨#[]⟩ : ByteArray), 1) := by
      rcases c with c | c
      · rw [if_pos c] at H; exact (Option.some.inj H).symm
      · by_cases c0 : t = 0
        · rw [if_pos c0] at H; exact (Option.some.inj H).symm
        · rw [if_neg c0, if_neg c] at H; exact (Option.some.inj H).symm
    simp only [Prod.mk.injEq] at e5
    obtain ⟨rfl, rfl, rfl, rfl, rfl⟩ := e5
    clear H
    have cb : ((t == 0) = true) ∨ ((t == 0) = false ∧ (t != a1) = true) := by
      by_cases c0 : t = 0
      · exact .inl (beq_iff_eq.2 c0)
      · exact .inr ⟨beq_eq_false_iff_ne.2 c0, bne_iff_ne.2 (c.resolve_left c0)⟩
    clear c
    rcases cb with cb | ⟨cb, cb2⟩
    all_goals
      go_enter Tryd.func26, Tryd.ntmps26
      go_wp2_with (first
        | ((with_reducible refine gate_dst (N := 4) rfl ?_); refine box_event ?hg (N := 4) ?hd (cs := #[.int .i64 0, .int .i64 0, .int .i64 0, .slice none 0 0]) (t := 54) ?hr ?_; (case hd => rfl); (case hg => rfl); (case hr => first | (go_simp; done) | (go_simp; rfl)); intro gb hgb w1 hbox hb; have GE := Aside0.mk (show w.heap.size ≤ gb by rw [hgb]; exact Nat.le_refl _); have BK1 := Aside0.mk hbox; have HB1 := Aside0.mk (below_step HB.out hb); have hc1 := blk_cell BK1.out; clear HB hb hbox hgb)
        | ((with_reducible refine gate_callee (f := 48) rfl ?_); refine goesL_ (some 8) rfl rfl Tryd.func48 (by kernel_rfl) rfl #[.slice A0 l0.length c0] rfl (by (try simp only [List.map_toArray, List.map_cons, List.map_nil]); first | done | rfl) ?_; (with_reducible refine (impl_BlockKind.calls _ _ l0 t _ (Kd.C_below HR0.out HB1.out) HC0.out A1.out).mono ?_); rintro e w2 ⟨rfl, hd⟩; refine ⟨_, rfl, ?_⟩; have BK2 := Aside0.mk (blk_below BK1.out hd.below); have HB2 := Aside0.mk (below_step HB1.out hd.below); clear hc1 hd BK1 HB1; have hc2 := blk_cell BK2.out; have hf2 := blk_frozen BK2.out; have hg0 := (Erh.GlobE.below hG0 HB2.out).1; have hne : gb ≠ 0 := (by have h0 := Erh.cell_lt hG0.1; have h1 := GE.out; intro e; subst e; exact absurd (Nat.lt_of_lt_of_le h0 h1) (Nat.lt_irrefl _)); have hfar : ∀ (W : World) (i : Nat) (v : Value), (W.setCell ⟨gb, i, none⟩ v).cell? ⟨0, 0, none⟩ = W.cell? ⟨0, 0, none⟩ := (fun W i v => World.cell?_setCell_other _ _ _ _ (fun e => hne (congrArg Addr.block e))); have hal0 : ∀ o : Obj, (w2.alloc o).cell? ⟨0, 0, none⟩ = some (.iface 122 (.pointer (some bE))) := (fun o => (World.cell?_alloc_lt _ _ _ (Erh.cell_lt hg0)).trans hg0); have halg : ∀ (o : Obj) (i : Nat), (w2.alloc o).cell? ⟨gb, i, none⟩ = (#[Value.int .i64 0, .int .i64 0, .int .i64 0, .slice none 0 0] : Array Value)[i]? := (fun o i => blk_cell (blk_alloc BK2.out o) i); have half : ∀ (o : Obj) (i : Nat), (w2.alloc o).frozen? ⟨gb, i, none⟩ = false := (fun o i => blk_frozen (blk_alloc BK2.out o) i)))
      go_region
      all_goals go_wp2
      · refine bodyPost_ret (results_ct rfl _ _ gb 54 #[.int .i64 0, .int .i64 0, .int .i64 0, .slice none 0 0] (0, 0) _ rfl (blk_drew (parse_zero (blk_alloc BK2.out _))) hu rfl (by kernel_rfl)) rfl ?_
        exact ⟨_, _, _, _, rfl, .inr ⟨rfl, _, _, rfl, blk_drew (parse_far (blk_new _ _) (Nat.ne_of_gt (blk_lt BK2.out))), rfl⟩, (fun h => by cases h), below_drew1 (parse_below (below_alloc HB2.out _) GE.out)⟩
      · refine bodyPost_ret (results_ct rfl _ _ gb 54 #[.int .i64 0, .int .i64 0, .int .i64 0, .slice none 0 0] (0, 0) _ rfl (blk_drew (blk_alloc (parse_zero BK2.out) _)) hu rfl (by kernel_rfl)) rfl ?_
        exact ⟨_, _, _, _, rfl, .inr ⟨rfl, _, _, rfl, blk_drew (blk_new' parse_size _), rfl⟩, (fun h => by cases h), below_drew1 (below_alloc (parse_below HB2.out GE.out) _)⟩
  · have c0 : ¬ t = 0 := fun e => c (.inl e)
    have c1 : t = a1 := by
      by_cases e : t = a1
      · exact e
      · exact absurd (.inr e) c
    rw [if_neg c0, if_pos c1] at H
    obtain ⟨n, A20, H⟩ := Option.bind_eq_some_iff.mp H
    obtain ⟨m, A30, H⟩ := Option.bind_eq_some_iff.mp H
    have A2 := Aside0.mk A20
    have A3 := Aside0.mk A30
    clear A20 A30
    have e5 := Option.some.inj H
    simp only [Prod.mk.injEq] at e5
    obtain ⟨rfl, rfl, rfl, rfl, rfl⟩ := e5
    clear H
    have cb : (t == 0) = false := beq_eq_false_iff_ne.2 c0
    have cb2 : (t != a1) = false := by rw [c1]; exact bne_self_eq_false _
    clear c c0 c1
    go_enter Tryd.func26, Tryd.ntmps26
    go_wp2_with (first
      | ((with_reducible refine gate_dst (N := 4) rfl ?_); refine box_event ?hg (N := 4) ?hd (cs := #[.int .i64 0, .int .i64 0, .int .i64 0, .slice none 0 0]) (t := 54) ?hr ?_; (case hd => rfl); (case hg => rfl); (case hr => first | (go_simp; done) | (go_simp; rfl)); intro gb hgb w1 hbox hb; have GE := Aside0.mk (show w.heap.size ≤ gb by rw [hgb]; exact Nat.le_refl _); have BK1 := Aside0.mk hbox; have HB1 := Aside0.mk (below_step HB.out hb); have hc1 := blk_cell BK1.out; clear HB hb hbox hgb)
      | ((with_reducible refine gate_callee (f := 48) rfl ?_); refine goesL_ (some 8) rfl rfl Tryd.func48 (by kernel_rfl) rfl #[.slice A0 l0.length c0] rfl (by (try simp only [List.map_toArray, List.map_cons, List.map_nil]); first | done | rfl) ?_; (with_reducible refine (impl_BlockKind.calls _ _ l0 t _ (Kd.C_below HR0.out HB1.out) HC0.out A1.out).mono ?_); rintro e w2 ⟨rfl, hd⟩; refine ⟨_, rfl, ?_⟩; have BK2 := Aside0.mk (blk_below BK1.out hd.below); have HB2 := Aside0.mk (below_step HB1.out hd.below); clear hc1 hd BK1 HB1; have hc2 := blk_cell BK2.out; have hf2 := blk_frozen BK2.out)
      | ((with_reducible refine gate_callee (f := 28) rfl ?_); refine goesL_ (some 24) rfl rfl Tryd.func28 (by kernel_rfl) rfl #[.slice A0 l0.length c0, .int .i64 6, .int .i64 2] rfl (by (try simp only [List.map_toArray, List.map_cons, List.map_nil]); first | done | rfl) ?_; (with_reducible refine (impl_num.calls k _ _ l0 6 2 n _ (Kd.C_below HR0.out HB2.out) HC0.out A2.out).mono ?_); rintro e w3 ⟨rfl, hd⟩; refine ⟨_, rfl, ?_⟩; have BK3 := Aside0.mk (blk_below BK2.out hd.below); have HB3 := Aside0.mk (below_step HB2.out hd.below); clear hd BK2 HB2)
      | ((with_reducible refine gate_callee (f := 28) rfl ?_); refine goesL_ (some 26) rfl rfl Tryd.func28 (by kernel_rfl) rfl #[.slice A0 l0.length c0, .int .i64 8, .int .i64 4] rfl (by (try simp only [List.map_toArray, List.map_cons, List.map_nil]); first | done | rfl) ?_; (with_reducible refine (impl_num.calls k _ _ l0 8 4 m _ (Kd.C_below HR0.out HB3.out) HC0.out A3.out).mono ?_); rintro e w4 ⟨rfl, hd⟩; refine ⟨_, rfl, ?_⟩; have BK4 := Aside0.mk (blk_below BK3.out hd.below); have HB4 := Aside0.mk (below_step HB3.out hd.below); clear hd BK3 HB3 hc2 hf2; have hc4 := blk_cell BK4.out; have hf4 := blk_frozen BK4.out))
    refine bodyPost_ret (results_ct rfl _ _ gb 54 #[.int .i64 t, .int .i64 n, .int .i64 m, .slice A0 l0.length c0] (0, 0) _ rfl (by refine blk_put (cs := #[.int .i64 t, .int .i64 n, .int .i64 m, .slice none 0 0]) ?_ 3 _ rfl; refine blk_put (cs := #[.int .i64 t, .int .i64 n, .int .i64 0, .slice none 0 0]) ?_ 2 _ rfl; refine blk_put (cs := #[.int .i64 t, .int .i64 0, .int .i64 0, .slice none 0 0]) ?_ 1 _ rfl; refine blk_put (cs := #[.int .i64 0, .int .i64 0, .int .i64 0, .slice none 0 0]) ?_ 0 _ rfl; exact BK4.out) hu rfl (by kernel_rfl)) rfl ?_
    exact ⟨_, _, _, _, rfl, .inl ⟨rfl, rfl⟩, (by first | exact fun _ => ⟨rfl, rfl⟩ | simp), (by repeat (first | exact HB4.out | refine below_set ?_ GE.out))⟩


/-! ### impl_good: function 27 -/
def impl_good.f (e : Int) : Option (Bool) := some (decide (e = 0))
theorem impl_good.calls {bE : Addr} {v : Value} (e : Int) (r : Bool) (w : World) (h : impl_good.f e = some r) (hE : Erh.GoodV bE w e v) (hG0 : Erh.GlobE bE w) :
    Calls Tryd.prog 27 #[v] w fun x w' => x = .returned (.bool r) ∧ Below w.heap.size w w' := by
  obtain rfl := Option.some.inj h
  exact Erh.good_calls bE e v w hE hG0
theorem good_zero {e : Int} (h : impl_good.f e = some true) : e = 0 := of_decide_eq_true (Option.some.inj h)


/-! ### impl_jblock_held: function 29 -/
/-- bytes.Equal of what is wanted and the block. -/
def impl_jblock_held.f (a0_0 : Int) (a0_1 : Int) (a0_2 : Int) (a0_3 : ByteArray) (l1 : List Int) : Option (Int) := if (Lib.bytesOf l1 == a0_3.data.toList) = true then some 0 else some 1
set_option maxHeartbeats 4000000 in
theorem impl_jblock_held.calls {bE : Addr} {A0 : Option Addr} {c0 : Nat} {l0 : List Int} {v3 : Value} (a0_0 : Int) (a0_1 : Int) (a0_2 : Int) (a0_3 : ByteArray) (A1 : Option Addr) (c1 : Nat) (l1 : List Int) (r : Int) (w : World) (hr1 : Kd.C (Kd.int .u8) w A1 l1.length l1) (hc1 : l1.length ≤ c1) (h : impl_jblock_held.f a0_0 a0_1 a0_2 a0_3 l1 = some r)
    (hv : v3 = .slice A0 l0.length c0 ∧ a0_3 = strOfNums l0) (hr0 : Kd.C (Kd.int .u8) w A0 l0.length l0) (hG0 : Erh.GlobE bE w) :
    Calls Tryd.prog 29 #[.agg #[.int .i64 a0_0, .int .i64 a0_1, .int .i64 a0_2, v3], .slice A1 l1.length c1] w fun e w' => ∃ v : Value, e = .returned v ∧ Erh.GoodV bE w' r v ∧ Below w.heap.size w w' := by
  obtain ⟨rfl, rfl⟩ := hv
  have hu := Tryd.underlying54
  have W1 := Erh.GlobE.below hG0 ((Below.refl w.heap.size w).alloc (Nat.le_refl _) (.cells #[.int .i64 a0_0, .int .i64 a0_1, .int .i64 a0_2, .slice A0 l0.length c0] 54))
  have hg0 := W1.1
  have hg1 := Aside0.mk W1
  clear W1
  have Q1 := Aside0.mk hr1
  have Q0 := Aside0.mk hr0
  clear hr1 hr0
  unfold impl_jblock_held.f at h
  have e0 : (strOfNums l0).data.toList = Lib.bytesOf l0 := by rw [← Lib.toList_data]; exact Lib.strOfNums_toList l0
  rw [e0] at h
  by_cases c : (Lib.bytesOf l1 == Lib.bytesOf l0) = true
  · rw [if_pos c] at h
    obtain rfl := Option.some.inj h
    go_enter Tryd.func29, Tryd.ntmps29
    go_wp2_with (first
      | ((with_reducible refine gate_callee (f := 52) rfl ?_); refine goesL_ (some 8) rfl rfl Tryd.func52 (by kernel_rfl) rfl #[.slice A1 l1.length c1, .slice A0 l0.length c0] rfl (by (try simp only [List.map_toArray, List.map_cons, List.map_nil]); first | done | rfl) ?_; (with_reducible refine (Tryd.bytes_Equal _ _ l1 l0 _ (Kd.C_string (P := Tryd.prog) (A := A1) (c := c1) Tryd.underlying22 Tryd.underlying5 Tryd.underlying9 (Kd.C_alloc Q1.out _)) (Kd.C_string (P := Tryd.prog) (A := A0) (c := c0) Tryd.underlying22 Tryd.underlying5 Tryd.underlying9 (Kd.C_alloc Q0.out _))).mono ?_); rintro e w2 ⟨rfl, rfl⟩; rw [c]; refine ⟨_, rfl, ?_⟩))
    go_ret
    exact ⟨_, rfl, .inl ⟨rfl, rfl⟩, (Below.refl _ _).alloc (Nat.le_refl _) _⟩
  · rw [if_neg c] at h
    have c' : (Lib.bytesOf l1 == Lib.bytesOf l0) = false := by simpa using c
    obtain rfl := Option.some.inj h
    go_enter Tryd.func29, Tryd.ntmps29
    go_wp2_with (first
      | ((with_reducible refine gate_callee (f := 52) rfl ?_); refine goesL_ (some 8) rfl rfl Tryd.func52 (by kernel_rfl) rfl #[.slice A1 l1.length c1, .slice A0 l0.length c0] rfl (by (try simp only [List.map_toArray, List.map_cons, List.map_nil]); first | done | rfl) ?_; (with_reducible refine (Tryd.bytes_Equal _ _ l1 l0 _ (Kd.C_string (P := Tryd.prog) (A := A1) (c := c1) Tryd.underlying22 Tryd.underlying5 Tryd.underlying9 (Kd.C_alloc Q1.out _)) (Kd.C_string (P := Tryd.prog) (A := A0) (c := c0) Tryd.underlying22 Tryd.underlying5 Tryd.underlying9 (Kd.C_alloc Q0.out _))).mono ?_); rintro e w2 ⟨rfl, rfl⟩; rw [c']; refine ⟨_, rfl, ?_⟩))
    go_ret
    refine ⟨_, rfl, .inr ⟨rfl, _, #[.int .i64 a0_0, .iface 122 (.pointer (some bE))], rfl, blk_new' (by simp) _, rfl⟩, ((Below.refl _ _).alloc (Nat.le_refl _) _).alloc (by simp) _⟩


/-! ### impl_in: function 53 -/
def impl_in.f (a0 : Int) (a1 : Int) (a2 : Int) : Option (Bool) := if a0 ≥ a1 then (some (decide (a0 ≤ a2))) else (some false)
set_option maxHeartbeats 8000000 in
set_option maxRecDepth 100000 in
theorem impl_in.calls (a0 : Int) (a1 : Int) (a2 : Int) (r : Bool) (w : World) (h : impl_in.f a0 a1 a2 = some r) :
    Calls Tryd.prog 53 #[.int .i64 a0, .int .i64 a1, .int .i64 a2] w fun e w' => e = .returned (.bool r) ∧ Drawn0 w w' := by
  have H : (if a0 ≥ a1 then (some (decide (a0 ≤ a2))) else (some false)) = some r := h
  clear h
  by_cases c4 : a0 ≥ a1
  · rw [if_pos c4] at H
    have c4b0 : decide (a1 ≤ a0) = true := decide_eq_true c4
    clear c4
    obtain rfl := Option.some.inj H
    go_enter Tryd.func53, Tryd.ntmps53
    go_wp2
    go_ret
    exact ⟨by first | rfl | (simp; done) | (simp [*]; done), by repeat (first | exact Drawn0.refl _ | apply Drawn0.step)⟩
  · rw [if_neg c4] at H
    have c4b0 : decide (a1 ≤ a0) = false := decide_eq_false c4
    clear c4
    obtain rfl := Option.some.inj H
    go_enter Tryd.func53, Tryd.ntmps53
    go_wp2
    go_ret
    exact ⟨by first | rfl | (simp; done) | (simp [*]; done), by repeat (first | exact Drawn0.refl _ | apply Drawn0.step)⟩

/-! ### impl_PutNumber: function 74 -/
mutual
def impl_PutNumber.j0 : Nat → Int → Int → Bool → Option (List Int)
  | 0, _, _, _ => none
  | k + 1, x0, x1, x27 => if x27 = true then (some ([] : List Int)) else (if 0 ≤ x1 then (if (x1 : Int).toNat ≤ 281474976710656 then ((some (List.replicate (x1 : Int).toNat 0 : List Int)).bind fun y239 => (impl_PutNumber.l0 k x0 x1 y239 (y239.length : Int) 0)) else (none)) else (none))
def impl_PutNumber.l0 : Nat → Int → Int → List Int → Int → Int → Option (List Int)
  | 0, _, _, _, _, _ => none
  | k + 1, x0, x1, x5, x31, x32 => if x32 < x31 then (if 0 ≤ (wrap64 (8 * (wrap64 ((wrap64 (x1 - 1)) - x32)))) then (if 0 ≤ x32 then (if x32 < (x5.length : Int) then (impl_PutNumber.l0 k x0 x1 (x5.set (x32 : Int).toNat ((shr .i64 x0 (wrap64 (8 * (wrap64 ((wrap64 (x1 - 1)) - x32))))) % 256)) x31 (wrap64 (x32 + 1))) else (none)) else (none)) else (none)) else (some x5)
end
def impl_PutNumber.f (k : Nat) (a0 : Int) (a1 : Int) : Option (List Int) := if a1 < 1 then (impl_PutNumber.j0 k a0 a1 true) else (if a1 > 8 then (impl_PutNumber.j0 k a0 a1 true) else (if a0 < 0 then (impl_PutNumber.j0 k a0 a1 true) else (if a1 < 8 then (if 0 ≤ (wrap64 (8 * a1)) then (impl_PutNumber.j0 k a0 a1 ((shr .i64 a0 (wrap64 (8 * a1))) != 0)) else (none)) else (impl_PutNumber.j0 k a0 a1 false))))
theorem impl_PutNumber.mono_l : ∀ k, (∀ y0 y1 y2, LeO (impl_PutNumber.j0 k y0 y1 y2) (impl_PutNumber.j0 (k + 1) y0 y1 y2)) ∧ (∀ y0 y1 y2 y3 y4, LeO (impl_PutNumber.l0 k y0 y1 y2 y3 y4) (impl_PutNumber.l0 (k + 1) y0 y1 y2 y3 y4))
  | 0 => ⟨fun _ _ _ r h => by simp [impl_PutNumber.j0] at h, fun _ _ _ _ _ r h => by simp [impl_PutNumber.l0] at h⟩
  | k + 1 => by
    obtain ⟨ih0, ih1⟩ := impl_PutNumber.mono_l k
    refine ⟨?_, ?_⟩
    · intro y0 y1 y2
      unfold impl_PutNumber.j0
      repeat' first
      | (with_reducible exact ih0 _ _ _)
      | (with_reducible exact ih1 _ _ _ _ _)
      | (with_reducible exact LeO.refl _)
      | (with_reducible exact LeO.none _)
      | (with_reducible refine LeO.ite ?_ ?_)
      | (with_reducible refine LeO.bind ?_ (fun _ => ?_))
      | exact ih0 _ _ _
      | exact ih1 _ _ _ _ _
      | exact LeO.none _
      | refine LeO.ite ?_ ?_
      | refine LeO.bind ?_ (fun _ => ?_)
    · intro y0 y1 y2 y3 y4
      unfold impl_PutNumber.l0
      repeat' first
      | (with_reducible exact ih0 _ _ _)
      | (with_reducible exact ih1 _ _ _ _ _)
      | (with_reducible exact LeO.refl _)
      | (with_reducible exact LeO.none _)
      | (with_reducible refine LeO.ite ?_ ?_)
      | (with_reducible refine LeO.bind ?_ (fun _ => ?_))
      | exact ih0 _ _ _
      | exact ih1 _ _ _ _ _
      | exact LeO.none _
      | refine LeO.ite ?_ ?_
      | refine LeO.bind ?_ (fun _ => ?_)
theorem impl_PutNumber.mono : ∀ a0 a1 k, LeO (impl_PutNumber.f k a0 a1) (impl_PutNumber.f (k + 1) a0 a1) := by
  intro a0 a1 k
  obtain ⟨ih0, ih1⟩ := impl_PutNumber.mono_l k
  unfold impl_PutNumber.f
  repeat' first
      | (with_reducible exact ih0 _ _ _)
      | (with_reducible exact ih1 _ _ _ _ _)
      | (with_reducible exact LeO.refl _)
      | (with_reducible exact LeO.none _)
      | (with_reducible refine LeO.ite ?_ ?_)
      | (with_reducible refine LeO.bind ?_ (fun _ => ?_))
      | exact ih0 _ _ _
      | exact ih1 _ _ _ _ _
      | exact LeO.none _
      | refine LeO.ite ?_ ?_
      | refine LeO.bind ?_ (fun _ => ?_)
set_option maxHeartbeats 8000000 in
set_option maxRecDepth 100000 in
theorem impl_PutNumber.calls (k : Nat) (a0 : Int) (a1 : Int) (r : List Int) (w : World) (h : impl_PutNumber.f k a0 a1 = some r) :
    Calls Tryd.prog 74 #[.int .i64 a0, .int .i64 a1] w fun e w' => ∃ v0_ : Value, e = .returned (v0_) ∧ Kd.R (Kd.int .u8) 5 w' w.heap.size (fun _ => True) v0_ r ∧ Below w.heap.size w w' := by
  have HB := Aside0.mk (Below.refl w.heap.size w)
  have H : (if a1 < 1 then (impl_PutNumber.j0 k a0 a1 true) else (if a1 > 8 then (impl_PutNumber.j0 k a0 a1 true) else (if a0 < 0 then (impl_PutNumber.j0 k a0 a1 true) else (if a1 < 8 then (if 0 ≤ (wrap64 (8 * a1)) then (impl_PutNumber.j0 k a0 a1 ((shr .i64 a0 (wrap64 (8 * a1))) != 0)) else (none)) else (impl_PutNumber.j0 k a0 a1 false))))) = some r := h
  clear h
  have HC3 := Aside0.mk H
  clear H
  go_enter Tryd.func74, Tryd.ntmps74
  go_upto_region 1 with (fail)
  go_cut [27] (fun v27 wc => ∃ (kq : Nat) (x27_2 : Bool), v27 = .bool x27_2 ∧ Aside0 (impl_PutNumber.j0 kq a0 a1 x27_2 = some r) ∧ Aside0 (kq ≤ k) ∧ Aside0 (Below w.heap.size w wc))
  case first =>
    have H := HC3.out
    clear HC3
    by_cases c4 : a1 < 1
    · rw [if_pos c4] at H
      have c4b0 : decide (a1 < 1) = true := decide_eq_true c4
      clear c4
      (first | rw [c4b0] | (simp only [i64_w, i32_w]; rw [c4b0]) | skip)
      have H' := Aside0.mk H
      clear H
      go_wp2
      go_meet
      case rel => exact ⟨_, (true), (by first | rfl | (simp; done) | (simp [*]; done)), H', ⟨by first | omega | exact Nat.le_refl _⟩, ⟨by repeat (first | (with_reducible first | exact HB.out | apply below_alloc | apply pw_below_drewN | apply below_drew1) | exact HB.out)⟩⟩
    · rw [if_neg c4] at H
      have c4b0 : decide (a1 < 1) = false := decide_eq_false c4
      clear c4
      (first | rw [c4b0] | (simp only [i64_w, i32_w]; rw [c4b0]) | skip)
      by_cases c5 : a1 > 8
      · rw [if_pos c5] at H
        have c5b0 : decide (8 < a1) = true := decide_eq_true c5
        clear c5
        have H' := Aside0.mk H
        clear H
        go_wp2
        go_meet
        case rel => exact ⟨_, (true), (by first | rfl | (simp; done) | (simp [*]; done)), H', ⟨by first | omega | exact Nat.le_refl _⟩, ⟨by repeat (first | (with_reducible first | exact HB.out | apply below_alloc | apply pw_below_drewN | apply below_drew1) | exact HB.out)⟩⟩
      · rw [if_neg c5] at H
        have c5b0 : decide (8 < a1) = false := decide_eq_false c5
        clear c5
        by_cases c6 : a0 < 0
        · rw [if_pos c6] at H
          have c6b0 : decide (a0 < 0) = true := decide_eq_true c6
          clear c6
          have H' := Aside0.mk H
          clear H
          go_wp2
          go_meet
          case rel => exact ⟨_, (true), (by first | rfl | (simp; done) | (simp [*]; done)), H', ⟨by first | omega | exact Nat.le_refl _⟩, ⟨by repeat (first | (with_reducible first | exact HB.out | apply below_alloc | apply pw_below_drewN | apply below_drew1) | exact HB.out)⟩⟩
        · rw [if_neg c6] at H
          have c6b0 : decide (a0 < 0) = false := decide_eq_false c6
          clear c6
          by_cases c7 : a1 < 8
          · rw [if_pos c7] at H
            have c7b0 : decide (a1 < 8) = true := decide_eq_true c7
            clear c7
            obtain ⟨ji8, hji8⟩ : ∃ j_ : Int, (wrap64 (8 * a1)) = j_ := ⟨_, rfl⟩
            replace H : (if 0 ≤ (ji8) then (impl_PutNumber.j0 k a0 a1 ((shr .i64 a0 (ji8)) != 0)) else (none)) = some r := by first | (rw [hji8] at H; exact H) | (simp only [hji8] at H ⊢; exact H)
            have hji8w : (IntKind.i64.wrap (8 * a1)) = ji8 := (i64_w _).trans hji8
            by_cases c9 : 0 ≤ (ji8)
            · rw [if_pos c9] at H
              have c9b0 := eq_true c9
              have c9b1 : decide (0 ≤ (ji8)) = true := decide_eq_true c9
              clear c9
              obtain ⟨ji10, hji10⟩ : ∃ j_ : Int, (shr .i64 a0 (ji8)) = j_ := ⟨_, rfl⟩
              replace H : (impl_PutNumber.j0 k a0 a1 ((ji10) != 0)) = some r := by first | (rw [hji10] at H; exact H) | (simp only [hji10] at H ⊢; exact H)
              have hji10_ : (a0 / 2 ^ min (ji8).toNat 64) = ji10 := hji10
              have hji10z : (ji8) ≤ 64 → (a0 / 2 ^ (ji8).toNat) = ji10 := shr_small hji10
              have H' := Aside0.mk H
              clear H
              go_wp2
              go_meet
              case rel => exact ⟨_, (((ji10) != 0)), (by first | rfl | (simp; done) | (simp only [← hji10] <;> (first | rfl | simp)) | (simp [*]; done)), H', ⟨by first | omega | exact Nat.le_refl _⟩, ⟨by repeat (first | (with_reducible first | exact HB.out | apply below_alloc | apply pw_below_drewN | apply below_drew1) | exact HB.out)⟩⟩
            · rw [if_neg c9] at H
              exact absurd H (by simp)
          · rw [if_neg c7] at H
            have c7b0 : decide (a1 < 8) = false := decide_eq_false c7
            clear c7
            have H' := Aside0.mk H
            clear H
            go_wp2
            go_meet
            case rel => exact ⟨_, (false), (by first | rfl | (simp; done) | (simp [*]; done)), H', ⟨by first | omega | exact Nat.le_refl _⟩, ⟨by repeat (first | (with_reducible first | exact HB.out | apply below_alloc | apply pw_below_drewN | apply below_drew1) | exact HB.out)⟩⟩
  case rest =>
    clear HC3
    try clear p2
    try clear c4
    try clear c4b0
    try clear c5
    try clear c5b0
    try clear c6
    try clear c6b0
    try clear p6
    try clear c7
    try clear c7b0
    try clear c9
    try clear c9b0
    try clear c9b1
    obtain ⟨kq, x27_2, rfl, HA, HJ2, HB⟩ := hcut
    cases kq with
    | zero => exact absurd HA.out (by simp [impl_PutNumber.j0])
    | succ kj2 =>
      have H := HA.out
      clear HA
      simp only [impl_PutNumber.j0] at H
      by_cases c11 : x27_2 = true
      · subst c11
        have H1 : (some ([] : List Int)) = some r := by rw [if_pos rfl] at H; exact H
        clear H
        have H := H1
        clear H1
        obtain rfl := Option.some.inj H
        go_wp2
        go_ret
        exact ⟨_, by first | rfl | (simp [errW_none, errW_some] <;> rfl) | (simp [*, errW_none, errW_some] <;> rfl), by first | exact Kd.R_nil _ _ _ _ _ | exact Kd.N_nil _ _ _ _ _ | exact Kd.V_nil _ _ _ _ _ | exact Kd.Q_nil _ _ _ _ _ | exact Kd.S_nil _ _ _ _ _, by repeat (first | (with_reducible first | exact HB.out | apply below_alloc | apply pw_below_drewN | apply below_drew1) | exact HB.out)⟩
      · replace c11 := Bool.eq_false_iff.mpr c11
        subst c11
        have H1 : (if 0 ≤ a1 then (if (a1 : Int).toNat ≤ 281474976710656 then ((some (List.replicate (a1 : Int).toNat 0 : List Int)).bind fun y239 => (impl_PutNumber.l0 kj2 a0 a1 y239 (y239.length : Int) 0)) else (none)) else (none)) = some r := by rw [if_neg (show ¬ (false = true) by decide)] at H; exact H
        clear H
        have H := H1
        clear H1
        by_cases c12 : 0 ≤ a1
        · rw [if_pos c12] at H
          have c12b0 := eq_true c12
          have c12b1 : decide (0 ≤ a1) = true := decide_eq_true c12
          clear c12
          by_cases c13 : (a1 : Int).toNat ≤ 281474976710656
          · rw [if_pos c13] at H
            have c13b0 := eq_true c13
            have c13b1 : decide ((a1 : Int).toNat ≤ 281474976710656) = true := decide_eq_true c13
            clear c13
            obtain ⟨y239, hy239⟩ : ∃ y_ : List Int, y_ = (List.replicate (a1 : Int).toNat 0) := ⟨_, rfl⟩
            replace H : (impl_PutNumber.l0 kj2 a0 a1 y239 (y239.length : Int) 0) = some r := by first | (rw [hy239]; with_reducible exact H) | (have H2_ := (Option.bind_some _ _).symm.trans H; rw [hy239]; with_reducible exact H2_) | (have H2_ := (Option.bind_some _ _).symm.trans H; with_reducible exact H2_) | with_reducible exact H | (rw [hy239]; exact H) | exact H
            have Ny239 := Aside0.mk hy239
            clear hy239
            have H' := Aside0.mk H
            clear H
            go_wp2_with (first | ((with_reducible refine gate_dst (N := 29) rfl ?_); refine Kd.R_make (Kd.int .u8) _ 5 rfl (N := 29) rfl 22 _ _ rfl a1 rfl rfl Tryd.underlying22 (.int .u8 0) 1 info5 rfl (by decide) (by omega) 0 (ok := fun _ => True) (okp := fun _ => True) rfl (fun _ hk => hk) trivial (of_decide_eq_true (by first | (with_reducible assumption) | assumption)) (Nat.le_trans (Nat.mul_le_mul_right _ (of_decide_eq_true (by first | (with_reducible assumption) | assumption) : a1.toNat ≤ 281474976710656)) (by omega)) (Below.refl _ _) (Nat.le_refl _) ?_; intro v240 w14 ho15 hb hg_ hnew_; clear hg_ hnew_; (first | rw [← Ny239.out] at ho15 | (simp only [Int.reduceToNat] at ho15; rw [← Ny239.out] at ho15)); have n0_ := Aside0.mk (Kd.R_lower ho15 (below_size (by repeat (first | (with_reducible first | exact HB.out | apply below_alloc | apply pw_below_drewN | apply below_drew1) | exact HB.out)))); have n1_ := Aside0.mk (below_step (by repeat (first | (with_reducible first | exact HB.out | apply below_alloc | apply pw_below_drewN | apply below_drew1) | exact HB.out)) hb); clear HB; have HO241 := n0_; have HB := n1_; clear n0_ n1_; clear hb ho15; obtain ⟨Ao16, co16, eo16⟩ := Kd.R_slice HO241.out; subst eo16))
            go_loopg [32] kj2 (fun kq v32 w' => ∃ (x5_2 : List Int) (x32_2 : Int), v32 = .int .i64 x32_2 ∧ Aside0 (impl_PutNumber.l0 kq a0 a1 x5_2 (y239.length : Int) x32_2 = some r) ∧ Aside0 (kq ≤ kj2) ∧ Aside0 (Kd.R (Kd.int .u8) 5 w' w.heap.size (fun _ => True) (.slice Ao16 y239.length co16) x5_2) ∧ Aside0 (Below w.heap.size w w'))
            case atStart => exact ⟨(y239), (0), (by first | rfl | (simp; done) | (simp [*]; done)), H', ⟨Nat.le_refl _⟩, ⟨by (with_reducible repeat (first | apply Kd.R_alloc | apply Kd.R_drewN | apply Kd.R_drew)); exact HO241.out⟩, ⟨by repeat (first | (with_reducible first | exact HB.out | apply below_alloc | apply pw_below_drewN | apply below_drew1) | exact HB.out)⟩⟩
            case round =>
              clear H'
              try clear c1
              try clear p2
              try clear c4
              try clear c4b0
              try clear c5
              try clear c5b0
              try clear c6
              try clear c6b0
              try clear p6
              try clear c7
              try clear c7b0
              try clear c9
              try clear c9b0
              try clear c9b1
              try clear c11
              try clear c12
              try clear c12b0
              try clear c12b1
              try clear c13
              try clear c13b0
              try clear c13b1
              try clear p2
              try clear p6
              obtain ⟨x5_2, x32_2, rfl, HA, HK2, HO_5, HB⟩ := hrel
              have hl5_2 := (Kd.R_reads' HO_5.out).1
              rw [hl5_2] at HO_5
              (try simp only [hl5_2])
              cases gk with
              | zero => exact absurd HA.out (by simp [impl_PutNumber.l0])
              | succ k2 =>
                have H := HA.out
                clear HA
                simp only [impl_PutNumber.l0] at H
                by_cases c17 : x32_2 < (y239.length : Int)
                · rw [if_pos c17] at H
                  have c17b0 : decide (x32_2 < (y239.length : Int)) = true := decide_eq_true c17
                  clear c17
                  obtain ⟨ji18, hji18⟩ : ∃ j_ : Int, (wrap64 (8 * (wrap64 ((wrap64 (a1 - 1)) - x32_2)))) = j_ := ⟨_, rfl⟩
                  replace H : (if 0 ≤ (ji18) then (if 0 ≤ x32_2 then (if x32_2 < (x5_2.length : Int) then (impl_PutNumber.l0 k2 a0 a1 (x5_2.set (x32_2 : Int).toNat ((shr .i64 a0 (ji18)) % 256)) (y239.length : Int) (wrap64 (x32_2 + 1))) else (none)) else (none)) else (none)) = some r := by first | (rw [hji18] at H; exact H) | (simp only [hji18] at H ⊢; exact H)
                  have hji18w : (IntKind.i64.wrap (8 * (wrap64 ((wrap64 (a1 - 1)) - x32_2)))) = ji18 := (i64_w _).trans hji18
                  by_cases c19 : 0 ≤ (ji18)
                  · rw [if_pos c19] at H
                    have c19b0 := eq_true c19
                    have c19b1 : decide (0 ≤ (ji18)) = true := decide_eq_true c19
                    clear c19
                    obtain ⟨ji20, hji20⟩ : ∃ j_ : Int, (shr .i64 a0 (ji18)) = j_ := ⟨_, rfl⟩
                    replace H : (if 0 ≤ x32_2 then (if x32_2 < (x5_2.length : Int) then (impl_PutNumber.l0 k2 a0 a1 (x5_2.set (x32_2 : Int).toNat ((ji20) % 256)) (y239.length : Int) (wrap64 (x32_2 + 1))) else (none)) else (none)) = some r := by first | (rw [hji20] at H; exact H) | (simp only [hji20] at H ⊢; exact H)
                    have hji20_ : (a0 / 2 ^ min (ji18).toNat 64) = ji20 := hji20
                    have hji20z : (ji18) ≤ 64 → (a0 / 2 ^ (ji18).toNat) = ji20 := shr_small hji20
                    by_cases c21 : 0 ≤ x32_2
                    · rw [if_pos c21] at H
                      have c21b0 : decide (0 ≤ x32_2) = true := decide_eq_true c21
                      clear c21
                      by_cases c22 : x32_2 < (x5_2.length : Int)
                      · rw [if_pos c22] at H
                        have c22b0 : decide (x32_2 < (x5_2.length : Int)) = true := decide_eq_true c22
                        clear c22
                        obtain ⟨y242, hy242⟩ : ∃ y_ : List Int, y_ = (x5_2.set (x32_2 : Int).toNat ((ji20) % 256)) := ⟨_, rfl⟩
                        replace H : (impl_PutNumber.l0 k2 a0 a1 y242 (y239.length : Int) (wrap64 (x32_2 + 1))) = some r := by first | (rw [hy242]; with_reducible exact H) | (have H2_ := (Option.bind_some _ _).symm.trans H; rw [hy242]; with_reducible exact H2_) | (have H2_ := (Option.bind_some _ _).symm.trans H; with_reducible exact H2_) | with_reducible exact H | (rw [hy242]; exact H) | exact H
                        have Ny242 := Aside0.mk hy242
                        clear hy242
                        have H' := Aside0.mk H
                        clear H
                        have p23 : 0 ≤ (x32_2 : Int) := of_decide_eq_true (by first | (with_reducible assumption) | assumption)
                        have q23 : (x32_2 : Int) < ((x5_2.length : Int) : Int) := of_decide_eq_true (by first | (with_reducible assumption) | assumption)
                        obtain ⟨go23, co23, eo23, gb23, gl23, cl23, HG23⟩ := Kd.R_form HO_5.out (by omega)
                        (first | cases eo23 | (injection eo23 with ea_ en_ ec_; (first | subst ea_ | (injection ea_ with ea_; subst ea_)); subst ec_; clear en_))
                        have GB23 := Aside0.mk gb23
                        have GG23 := Aside0.mk HG23
                        clear gb23 gl23 HG23
                        obtain ⟨hx23_0, hf23_0⟩ := Kd.R_celln 0 HO_5.out (x32_2 : Int) p23 q23
                        replace p23 := eq_true p23
                        replace q23 := eq_true q23
                        have HP24 := Kd.R_putg HO_5.out (x32_2 : Int) ((ji20) % 256)
                        go_wp2_with (first | ((with_reducible refine gate_store (t := 5) (p := 45) rfl ?_); refine store_event (t := 5) (p := 45) (v := ?vo_w25) (w1 := (wr.setCell ⟨go23, (x32_2 : Int).toNat, none⟩ (.int .u8 ((ji20) % 256)))) ?hg ?ho ?hn ?hr ?_; (case ho => rfl); (case hg => rfl); (case hn => rfl); (case hr => first | (go_simp; done) | (go_simp; rfl)); intro w25 hw; have hg : wr.grownBy w25 (some go23) := (by rw [hw]; exact HP24.2); have hp_ : Kd.R (Kd.int .u8) 5 w25 w.heap.size (fun _ => True) (.slice (some ⟨go23, 0, none⟩) x5_2.length co16) y242 := (by rw [hw, Ny242.out]; exact HP24.1); clear HP24; have n0_ := Aside0.mk (hp_); have n1_ := Aside0.mk ((by rw [hw]; exact below_set (HB.out) GB23.out : Below w.heap.size w w25)); clear HO_5; clear HB; have HO_5 := n0_; have HB := n1_; clear n0_ n1_; clear hg hw hp_))
                        (try simp only [← hl5_2])
                        go_roundg k2
                        case measure => have := HJ2.out; have := HK2.out; omega
                        case rel => exact ⟨(y242), (wrap64 (x32_2 + 1)), (by first | rfl | (simp; done) | (simp [*]; done)), H', ⟨by have := HJ2.out; have := HK2.out; omega⟩, ⟨by (try simp only [hl5_2]); (with_reducible repeat (first | apply Kd.R_alloc | apply Kd.R_drewN | apply Kd.R_drew)); exact HO_5.out⟩, ⟨by repeat (first | (with_reducible first | exact HB.out | apply below_alloc | apply pw_below_drewN | apply below_drew1) | exact HB.out)⟩⟩
                      · rw [if_neg c22] at H
                        exact absurd H (by simp)
                    · rw [if_neg c21] at H
                      exact absurd H (by simp)
                  · rw [if_neg c19] at H
                    exact absurd H (by simp)
                · rw [if_neg c17] at H
                  have c17b0 : decide (x32_2 < (y239.length : Int)) = false := decide_eq_false c17
                  have c17b2 : decide (x32_2 < (x5_2.length : Int)) = false := by rw [← hl5_2]; exact c17b0
                  clear c17
                  obtain rfl := Option.some.inj H
                  go_wp2
                  go_ret
                  exact ⟨_, by first | rfl | (simp [errW_none, errW_some] <;> rfl) | (simp [*, errW_none, errW_some] <;> rfl), by (with_reducible repeat (first | apply Kd.R_alloc | apply Kd.R_drewN | apply Kd.R_drew)); exact HO_5.out, by repeat (first | (with_reducible first | exact HB.out | apply below_alloc | apply pw_below_drewN | apply below_drew1) | exact HB.out)⟩
          · rw [if_neg c13] at H
            exact absurd H (by simp)
        · rw [if_neg c12] at H
          exact absurd H (by simp)

/-! ### impl_put: function 55 -/
section
open Go.Proofs.YtmlahbgogbjfpaaDoor.Cpy
/-- put: the number's bytes laid over the row from a place on. -/
def impl_put.f (k : Nat) (l0 : List Int) (a1 : Int) (a2 : Int) (a3 : Int) : Option (List Int) := (impl_PutNumber.f k a2 a3).bind fun t => if 0 ≤ a1 then (if a1 ≤ (l0.length : Int) then some (splice l0 a1.toNat (t.take (l0.length - a1.toNat))) else none) else none
theorem impl_put.mono : ∀ a0 a1 a2 a3 k, LeO (impl_put.f k a0 a1 a2 a3) (impl_put.f (k + 1) a0 a1 a2 a3) := fun _ _ a2 a3 k => LeO.bind (impl_PutNumber.mono a2 a3 k) (fun _ => LeO.refl _)
set_option maxHeartbeats 8000000 in
set_option maxRecDepth 100000 in
theorem impl_put.calls (k : Nat) (P0_ : Nat → Prop) (u9000_ : Value) (l0 : List Int) (a1 : Int) (a2 : Int) (a3 : Int) (r : List Int) (w0 w : World) (hB : Below w0.heap.size w0 w) (ho0 : Kd.R (Kd.int .u8) 5 w w0.heap.size P0_ u9000_ l0) (h : impl_put.f k l0 a1 a2 a3 = some r) :
    Calls Tryd.prog 55 #[u9000_, .int .i64 a1, .int .i64 a2, .int .i64 a3] w fun e w' => e = .returned (.tuple #[]) ∧ Kd.R (Kd.int .u8) 5 w' w0.heap.size (fun k_ => (P0_ k_ ∨ w.heap.size ≤ k_)) u9000_ r ∧ Below w0.heap.size w0 w' ∧ Kept w w' (fun k_ => P0_ k_) := by
  obtain ⟨t, A1, H⟩ := Option.bind_eq_some_iff.mp h
  clear h
  have C1 := Aside0.mk A1
  clear A1
  by_cases p1 : 0 ≤ a1
  rotate_left
  · rw [if_neg p1] at H; cases H
  rw [if_pos p1] at H
  by_cases p2 : a1 ≤ (l0.length : Int)
  rotate_left
  · rw [if_neg p2] at H; cases H
  rw [if_pos p2] at H
  obtain ⟨i, rfl⟩ := Int.eq_ofNat_of_zero_le p1
  have hin : i ≤ l0.length := by omega
  rw [Int.toNat_natCast] at H
  have HO := Aside0.mk ho0
  have HB := Aside0.mk hB
  have hsz : w0.heap.size ≤ w.heap.size := hB.size
  have HS := Aside0.mk hsz
  have own := Kd.own_of_R (enc := Value.int .u8) ho0
  have hok := ho0.1
  clear ho0 hB hsz p1 p2
  by_cases hm : t.length = 0 ∨ l0.length - i = 0
  · have hr : r = l0 := by
      have e0 : t.take (l0.length - i) = [] := by
        rcases hm with h | h
        · rw [List.eq_nil_of_length_eq_zero h]; simp
        · rw [h]; simp
      rw [← Option.some.inj H, e0]; simp [splice]
    clear H
    subst hr
    obtain ⟨A, c, hv, hlc, hC⟩ := Kd.R_reads HO.out
    obtain ⟨i0, hi, hzz⟩ := Option.map_eq_some_iff.1 info5
    simp only [Prod.mk.injEq] at hzz
    obtain ⟨A', hsl, _⟩ := print_cut_of (Value.int .u8) (0 : Int) 22 5 .i64 Tryd.underlying22 hi hzz.2.1 A r.length c i hin
    subst hv
    have hmin : Nat.min t.length (r.length - i) = 0 := by
      have : Nat.min t.length (r.length - i) ≤ t.length := Nat.min_le_left _ _
      have : Nat.min t.length (r.length - i) ≤ r.length - i := Nat.min_le_right _ _
      omega
    clear hC own hi hzz hin hok
    have HM := Aside0.mk hmin
    clear hmin hm hlc
    go_enter Tryd.func55, Tryd.ntmps55
    go_region_law (first
      | (refine goes_ Tryd.func74 (by kernel_rfl) rfl #[.int .i64 a2, .int .i64 a3] (by rfl) rfl rfl (by kernel_rfl) ?_; refine (impl_PutNumber.calls k a2 a3 t _ C1.out).mono ?_; rintro e w1 ⟨v0, rfl, hR, hb⟩; obtain ⟨At, ct, rfl, _, _⟩ := Kd.R_reads hR; have HR1 := Aside0.mk ((below_drew1 (Below.refl w.heap.size w)).trans hb); clear hR hb; refine ⟨_, rfl, ?_⟩)
      | (refine copy_no rfl (.tmp 10) (.tmp 13) 22 22 rfl 5 Tryd.underlying22 (by kernel_rfl) A' At (r.length - i) (c - i) t.length ct (by kernel_rfl) (by kernel_rfl) HM.out ?_))
    all_goals
      go_end0
      refine ⟨rfl, Kd.R_mono (Kd.R_below HO.out HR1.out) (fun k_ hk => .inl hk), ?_, Kept.of_below HR1.out _⟩
      exact HB.out.trans (HR1.out.mono HS.out)
  · have hm1 : 0 < t.length := by omega
    have hm2 : i < l0.length := by omega
    rcases own.2 with ⟨_, hn0⟩ | ⟨g, cap, cur, rfl, hbg, hcur, hnc, hcm, hcs, ht⟩
    · omega
    have hgs : g < w.heap.size := blk_lt hcur
    have hPg : P0_ g := hok g (by simp [Value.ownBlock])
    obtain ⟨i0, hi, hzz⟩ := Option.map_eq_some_iff.1 info5
    simp only [Prod.mk.injEq] at hzz
    have hsl : ∀ W : World, (Instr.slice 22 (.slice (some ⟨g, 0, none⟩) l0.length cap) (some (.int .i64 (i : Int))) none none).run Tryd.prog W = .ok (.slice (some ⟨g, i, none⟩) (l0.length - i) (cap - i)) W := by
      intro W
      have hel : Tryd.prog.elem 22 = 5 := by simp [Program.elem, Tryd.underlying22]
      have hu : Tryd.prog.underlying 22 = some (.slice (Tryd.prog.elem 22)) := by rw [hel]; exact Tryd.underlying22
      rw [run_slice_l W 22 (some ⟨g, 0, none⟩) l0.length cap hu .i64 (i : Int) (Int.natCast_nonneg _) (by omega), hel]
      have hne : ¬ cap = i := by omega
      by_cases hi0 : i = 0
      · subst hi0; simp [sizeOf, typeInfo, hi, hzz.2.1, sliced, Result.andThen, hne, Addr.add]
      · simp [sizeOf, typeInfo, hi, hzz.2.1, sliced, Result.andThen, hne, Addr.add, hi0]
    have HT := Aside0.mk (show 0 < t.length ∧ i < l0.length from ⟨hm1, hm2⟩)
    have HH := Aside0.mk H
    have HG := Aside0.mk (show g < w.heap.size ∧ P0_ g ∧ w0.heap.size ≤ g from ⟨hgs, hPg, hbg⟩)
    clear own hok hm hm1 hm2 hcur hnc hcm hcs ht hgs hPg hbg hi hzz hin H
    go_enter Tryd.func55, Tryd.ntmps55
    go_region_law (first
      | (refine goes_ Tryd.func74 (by kernel_rfl) rfl #[.int .i64 a2, .int .i64 a3] (by rfl) rfl rfl (by kernel_rfl) ?_; refine (impl_PutNumber.calls k a2 a3 t _ C1.out).mono ?_; rintro e w1 ⟨v0, rfl, hR, hb⟩; obtain ⟨At, ct, rfl, _, hC⟩ := Kd.R_reads hR; have HR1 := Aside0.mk ((below_drew1 (Below.refl w.heap.size w)).trans hb); clear hR hb; obtain ⟨ad, rfl, hsrc⟩ := src_cells hC (min t.length (l0.length - i)) (Nat.min_le_left _ _) (by have := HT.out; omega); have HSRC := Aside0.mk hsrc; obtain ⟨cur1, hcur1, hcs1, _, hown1⟩ := own_splice (Kd.own_of_R (enc := Value.int .u8) (Kd.R_below HO.out HR1.out)) i (nums .u8 (t.take (min t.length (l0.length - i)))) (by rw [nums_len, List.length_take]; have := HT.out; omega); have HC1 := Aside0.mk hcur1; have HC2 := Aside0.mk hcs1; have HC3 := Aside0.mk hown1; clear hsrc hcur1 hcs1 hown1 hC; refine ⟨_, rfl, ?_⟩)
      | (refine copy_at rfl (.tmp 10) (.tmp 13) 22 22 rfl 5 Tryd.underlying22 (by kernel_rfl) g i (l0.length - i) (cap - i) ad t.length ct (by kernel_rfl) (by kernel_rfl) cur1 5 HC1.out (nums .u8 (t.take (min t.length (l0.length - i)))) (by rw [nums_len, List.length_take]; exact Nat.min_eq_left (Nat.min_le_left _ _)) HSRC.out HC2.out (by intro v hv; simp only [nums, List.mem_map] at hv; obtain ⟨q, _, rfl⟩ := hv; rfl) ?_))
    all_goals
      go_end0
      have hr : nums .u8 r = splice (nums .u8 l0) i (nums .u8 (t.take (min t.length (l0.length - i)))) := by
        rw [nums_splice, ← Option.some.inj HH.out]
        congr 2
        rcases Nat.le_total t.length (l0.length - i) with h | h
        · rw [Nat.min_eq_left h, List.take_of_length_le (Nat.le_refl _), List.take_of_length_le h]
        · rw [Nat.min_eq_right h]
      have hrl : r.length = l0.length := by
        have h1 := congrArg List.length hr
        rw [nums_len, length_splice _ _ _ (by rw [nums_len, nums_len, List.length_take]; have := HT.out; omega), nums_len] at h1
        exact h1
      have key : ∀ W : World, W.ownsRow w0.heap.size 5 1 (.slice (some ⟨g, 0, none⟩) l0.length cap) l0.length (splice (encs (Value.int .u8) l0) i (nums .u8 (t.take (min t.length (l0.length - i))))) → W.ownsRow w0.heap.size 5 1 (.slice (some ⟨g, 0, none⟩) l0.length cap) r.length (encs (Value.int .u8) r) := fun W h => by
        have e : encs (Value.int .u8) r = splice (encs (Value.int .u8) l0) i (nums .u8 (t.take (min t.length (l0.length - i)))) := hr
        rw [hrl, e]; exact h
      have ho2 := key _ HC3.out
      refine ⟨rfl, Kd.R_of_own ho2 (fun k_ hk => .inl ?_), ?_, kept_setRow (Kept.of_below HR1.out _) g _ (.inl HG.out.2.1)⟩
      · simp [Value.ownBlock] at hk; subst hk; exact HG.out.2.1
      · exact below_setRow (HB.out.trans (HR1.out.mono HS.out)) HG.out.2.2 _
end


/-! ### impl_head: function 54 -/
section
open Go.Proofs.YtmlahbgogbjfpaaDoor.Cpy
/-- The header of a journal's block: the magic, the kind, the count, the sequence number, zeros behind. -/
def impl_head.f (k : Nat) (a0 : Int) (a1 : Int) (a2 : Int) : Option (List Int) := (impl_put.f k ((splice (List.replicate 64 0) 0 [106, 108, 111, 103]).set 4 (a0 % 256)) 6 a1 2).bind fun t => impl_put.f k t 8 a2 4
theorem impl_head.mono : ∀ a0 a1 a2 k, LeO (impl_head.f k a0 a1 a2) (impl_head.f (k + 1) a0 a1 a2) := fun _ _ _ k => LeO.bind (impl_put.mono _ _ _ _ k) (fun _ => impl_put.mono _ _ _ _ k)
theorem impl_head.bytes : bytesOf (⟨#[106, 108, 111, 103]⟩ : ByteArray) = [106, 108, 111, 103] := by rfl
theorem impl_head.len : (splice (List.replicate 64 (0 : Int)) 0 [106, 108, 111, 103]).length = 64 := by rfl
set_option maxHeartbeats 8000000 in
set_option maxRecDepth 100000 in
theorem impl_head.image (k : Nat) (a0 : Int) (a1 : Int) (a2 : Int) (r : List Int) (w : World) (h : impl_head.f k a0 a1 a2 = some r) :
    Calls Tryd.prog 73 #[.agg #[.int .i64 a0, .int .i64 a1, .int .i64 a2]] w fun e w' => ∃ v0_ : Value, e = .returned (v0_) ∧ Kd.R (Kd.int .u8) 5 w' w.heap.size (fun _ => True) v0_ r ∧ Below w.heap.size w w' := by
  obtain ⟨t, A1, A2⟩ := Option.bind_eq_some_iff.mp h
  clear h
  have C1 := Aside0.mk A1
  have C2 := Aside0.mk A2
  clear A1 A2
  have HB := Aside0.mk (Below.refl w.heap.size w)
  go_enter Tryd.func73, Tryd.ntmps73
  go_wp2_with (first
    | ((with_reducible refine gate_dst (N := 1) rfl ?_); refine box_event ?hg (N := 1) ?hd (cs := #[.int .i64 a0, .int .i64 a1, .int .i64 a2]) (t := 52) ?hr ?_; (case hd => rfl); (case hg => rfl); (case hr => first | (go_simp; done) | (go_simp; rfl)); intro gb hgb w1 hbox hb; have HG := Aside0.mk (show w.heap.size ≤ gb ∧ gb < w1.heap.size from ⟨by omega, blk_lt hbox⟩); have BK := Aside0.mk hbox; have HB1 := Aside0.mk (below_step HB.out hb); clear HB hb hbox hgb)
    | ((with_reducible refine gate_dst (N := 4) rfl ?_); refine Kd.R_make (Kd.int .u8) (w0 := w) w.heap.size 5 rfl (N := 4) rfl 22 _ _ rfl (64 : Int) rfl rfl Tryd.underlying22 (.int .u8 0) 1 info5 rfl (by decide) (by omega) (0 : Int) (ok := fun _ => True) (okp := fun _ => True) rfl (fun _ hk => hk) trivial (by decide) (by decide) HB1.out HB1.out.size ?_; intro v2 w2 ho hb hg hnew; obtain ⟨g, cap, ev, gb2, gl2, cl2, hg2⟩ := Kd.R_form ho (by decide); subst ev; have hgg : w1.heap.size ≤ g := (by obtain ⟨b, hb1, hb2⟩ := hnew; cases hb1; exact hb2); have HG2 := Aside0.mk hgg; have BK2 := Aside0.mk (blk_grown BK.out hg (by simp)); have HO2 := Aside0.mk ho; have HB2 := Aside0.mk hb; have HGB := Aside0.mk gb2; clear HB1 ho hb hg hnew hgg gb2 gl2 cl2 hg2 BK)
    | (refine Cpy.wpList_copy_str rfl (.tmp 5) (.const (.string ⟨#[106, 108, 111, 103]⟩)) 22 9 rfl Tryd.underlying22 (by kernel_rfl) 64 cap rfl ⟨#[106, 108, 111, 103]⟩ rfl (by decide) HO2.out (by decide) ?_; intro w3 ho hg; rw [impl_head.bytes] at ho; have BK3 := Aside0.mk (blk_grown BK2.out hg (by have := HG2.out; have := HG.out; intro e; have e2 : gb = g := Option.some.inj e; omega)); have HB3 := Aside0.mk (Box.below_grown HB2.out hg HGB.out); have HO3 := Aside0.mk ho; have hcf := Kd.R_celln 0 ho 4 (by decide) (by decide); obtain ⟨hx4, hf4⟩ := hcf; simp only [show (4 : Int).toNat = 4 from rfl] at hx4 hf4; have HP := Aside0.mk (Kd.R_putg ho 4 (a0 % 256)); have hc3 := blk_cell BK3.out; clear HO2 HB2 BK2 ho hg)
    | ((with_reducible refine gate_store (t := 5) (p := 11) rfl ?_); refine store_event (t := 5) (p := 11) (v := ?vo) (w1 := (w3.setCell ⟨g, 4, none⟩ (.int .u8 (a0 % 256)))) ?hg ?ho ?hn ?hr ?_; (case ho => rfl); (case hg => rfl); (case hn => rfl); (case hr => first | (go_simp; done) | (go_simp; rfl)); intro w4 hw; have hg : w3.grownBy w4 (some g) := (by rw [hw]; exact HP.out.2); have ho : Kd.R (Kd.int .u8) 5 w4 w.heap.size (fun _ => True) (.slice (some ⟨g, 0, none⟩) 64 cap) ((splice (List.replicate 64 0) 0 [106, 108, 111, 103]).set 4 (a0 % 256)) := (by rw [hw]; exact HP.out.1); have BK4 := Aside0.mk (blk_grown BK3.out hg (by have := HG2.out; have := HG.out; intro e; have e2 : gb = g := Option.some.inj e; omega)); have HB4 := Aside0.mk (Box.below_grown HB3.out hg HGB.out); have HO4 := Aside0.mk ho; clear hx4 hf4 HP hc3; have hc4 := blk_cell BK4.out; clear HO3 HB3 BK3 ho hg hw)
    | ((with_reducible refine gate_callee (f := 55) rfl ?_); refine goesL_ (some 15) rfl rfl Tryd.func55 (by kernel_rfl) rfl #[.slice (some ⟨g, 0, none⟩) 64 cap, .int .i64 6, .int .i64 a1, .int .i64 2] rfl (by (try simp only [List.map_toArray, List.map_cons, List.map_nil]); first | done | rfl) ?_; (with_reducible refine (impl_put.calls k (fun k => some k = (Value.slice (some ⟨g, 0, none⟩) 64 cap).ownBlock) _ _ 6 a1 2 t w _ HB4.out (Kd.R_tight rfl HO4.out) C1.out).mono ?_); rintro e w5 ⟨rfl, ho, hb, hk⟩; refine ⟨_, rfl, ?_⟩; have BK5 := Aside0.mk (blk_kept BK4.out hk (by have := HG2.out; have := HG.out; intro e; have e2 : gb = g := Option.some.inj e; omega)); have HB5 := Aside0.mk hb; have HO5 := Aside0.mk (Kd.R_tight rfl ho); clear hc4; have hc5 := blk_cell BK5.out; clear HO4 HB4 BK4 ho hb hk)
    | ((with_reducible refine gate_callee (f := 55) rfl ?_); refine goesL_ (some 19) rfl rfl Tryd.func55 (by kernel_rfl) rfl #[.slice (some ⟨g, 0, none⟩) 64 cap, .int .i64 8, .int .i64 a2, .int .i64 4] rfl (by (try simp only [List.map_toArray, List.map_cons, List.map_nil]); first | done | rfl) ?_; (with_reducible refine (impl_put.calls k (fun k => some k = (Value.slice (some ⟨g, 0, none⟩) 64 cap).ownBlock) _ _ 8 a2 4 r w _ HB5.out HO5.out C2.out).mono ?_); rintro e w6 ⟨rfl, ho, hb, hk⟩; refine ⟨_, rfl, ?_⟩; have HB6 := Aside0.mk hb; have HO6 := Aside0.mk (Kd.R_mono ho (fun _ _ => trivial)); clear hc5 HO5 HB5 BK5 ho hb hk)
    | fail)
  go_ret
  exact ⟨_, rfl, HO6.out, HB6.out⟩
set_option maxHeartbeats 8000000 in
set_option maxRecDepth 100000 in
theorem impl_head.calls (k : Nat) (a0 : Int) (a1 : Int) (a2 : Int) (r : List Int) (w : World) (h : impl_head.f k a0 a1 a2 = some r) :
    Calls Tryd.prog 54 #[.int .i64 a0, .int .i64 a1, .int .i64 a2] w fun e w' => ∃ v0_ : Value, e = .returned (v0_) ∧ Kd.R (Kd.int .u8) 5 w' w.heap.size (fun _ => True) v0_ r ∧ Below w.heap.size w w' := by
  have C1 := Aside0.mk h
  clear h
  have hfd : ∀ (x1 x2 x3 : Int) (W : World), (Instr.field 54 (.agg #[.int .i64 x1, .int .i64 x2, .int .i64 x3, .slice none 0 0]) 0).run Tryd.prog W = .ok (.agg #[.int .i64 x1, .int .i64 x2, .int .i64 x3]) W := fun _ _ _ _ => by kernel_rfl
  go_enter Tryd.func54, Tryd.ntmps54
  go_wp2_with (first
    | (go_at_call 73; (with_reducible refine (impl_head.image k a0 a1 a2 r _ C1.out).mono ?_); rintro e w6 ⟨v0, rfl, ho, hb⟩; have HB6 := Aside0.mk hb; have HO6 := Aside0.mk ho; clear ho hb)
    | fail)
  go_ret
  exact ⟨_, rfl, HO6.out, HB6.out⟩
end


end Go.Proofs.YtmlahbgogbjfpaaDoor.PFnExactDecodeDescriptor
