-- written by a program of this session (wip/src/print2.py)
import Derived.Test.YtmlahbgogbjfpaaDoorPFnExactDecodeDescriptorx0
import Derived.Test.YtmlahbgogbjfpaaDoorPFnExactDecodeDescriptorx1
import Derived.Test.YtmlahbgogbjfpaaDoorPFnExactDecodeDescriptorx4
import Derived.Test.YtmlahbgogbjfpaaDoorPFnExactDecodeDescriptorx7
import Derived.Test.YtmlahbgogbjfpaaDoorPFnExactDecodeDescriptorx8
namespace Go.Proofs.YtmlahbgogbjfpaaDoor.PFnExactDecodeDescriptor
open Go.RowKit Go.Proofs.YtmlahbgogbjfpaaDoorW.PrintWords Go.Proofs.YtmlahbgogbjfpaaDoorW.PrintLast Go.Proofs.YtmlahbgogbjfpaaDoorW.PrintMore
attribute [local go_sem] max2_int min2_int max_two min_two max_three min_three max_four min_four   -- for this text's walks alone
set_option linter.unusedVariables false
set_option linter.unusedSimpArgs false

/-! ### laws_heldTagS: function 63 -/
def laws_heldTagS.l0 : Nat → List (S67) → Int → Int → Option (Int)
  | 0, _, _, _ => none
  | k + 1, x0, x1, x5 => if x5 < (x0.length : Int) then (if 0 ≤ x5 then (if ((rd_T67 x0 x5).f0) = x1 then (if (((rd_T67 x0 x5).f1) != ((Int.tmod (wrap64 (x1 + 1)) 3) == 0)) = true then (some (-1)) else (laws_heldTagS.l0 k x0 (wrap64 ((wrap64 (x1 + 1)) + 1)) (wrap64 (x5 + 1)))) else (some (-1))) else (none)) else (some x1)
def laws_heldTagS.f (k : Nat) (l0 : List (S67)) (a1 : Int) : Option (Int) := laws_heldTagS.l0 k l0 a1 0
theorem laws_heldTagS.mono_l : ∀ k, (∀ y0 y1 y2, LeO (laws_heldTagS.l0 k y0 y1 y2) (laws_heldTagS.l0 (k + 1) y0 y1 y2))
  | 0 => fun _ _ _ r h => by simp [laws_heldTagS.l0] at h
  | k + 1 => by
    have ih0 := laws_heldTagS.mono_l k
    · intro y0 y1 y2
      unfold laws_heldTagS.l0
      repeat' first
      | (with_reducible exact ih0 _ _ _)
      | (with_reducible exact LeO.refl _)
      | (with_reducible exact LeO.none _)
      | (with_reducible refine LeO.ite ?_ ?_)
      | (with_reducible refine LeO.bind ?_ (fun _ => ?_))
      | exact ih0 _ _ _
      | exact LeO.none _
      | refine LeO.ite ?_ ?_
      | refine LeO.bind ?_ (fun _ => ?_)
theorem laws_heldTagS.mono : ∀ a0 a1 k, LeO (laws_heldTagS.f k a0 a1) (laws_heldTagS.f (k + 1) a0 a1) := by
  intro a0 a1 k
  have ih0 := laws_heldTagS.mono_l k
  unfold laws_heldTagS.f
  repeat' first
      | (with_reducible exact ih0 _ _ _)
      | (with_reducible exact LeO.refl _)
      | (with_reducible exact LeO.none _)
      | (with_reducible refine LeO.ite ?_ ?_)
      | (with_reducible refine LeO.bind ?_ (fun _ => ?_))
      | exact ih0 _ _ _
      | exact LeO.none _
      | refine LeO.ite ?_ ?_
      | refine LeO.bind ?_ (fun _ => ?_)
set_option maxHeartbeats 8000000 in
set_option maxRecDepth 100000 in
theorem laws_heldTagS.calls (k : Nat) (A0 : Option Addr) (c0 : Nat) (l0 : List (S67)) (a1 : Int) (r : Int) (w : World) (hr0 : Kd.C k67 w A0 l0.length l0) (hc0 : l0.length ≤ c0) (h : laws_heldTagS.f k l0 a1 = some r) :
    Calls Tryd.prog 63 #[.slice A0 l0.length c0, .int .i64 a1] w fun e w' => e = .returned (.int .i64 r) ∧ Drawn0 w w' := by
  have HR0 := Aside0.mk hr0
  have HC0 := Aside0.mk hc0
  clear hr0 hc0
  have H : (laws_heldTagS.l0 k l0 a1 0) = some r := h
  clear h
  have H' := Aside0.mk H
  clear H
  go_enter Tryd.func63, Tryd.ntmps63
  go_wp2
  go_loopg [1, 5] k (fun kq v1 v5 w' => ∃ (x1_1 : Int) (x5_1 : Int), v1 = .int .i64 x1_1 ∧ v5 = .int .i64 x5_1 ∧ Aside0 (laws_heldTagS.l0 kq l0 x1_1 x5_1 = some r) ∧ Aside0 (kq ≤ k) ∧ Drawn0 w w')
  case atStart => exact ⟨(a1), (0), (by first | rfl | (simp; done) | (simp [*]; done)), (by first | rfl | (simp; done) | (simp [*]; done)), H', ⟨Nat.le_refl _⟩, by repeat (first | exact Drawn0.refl _ | apply Drawn0.step)⟩
  case round =>
    clear H'
    try clear p2
    obtain ⟨x1_1, x5_1, rfl, rfl, HA, HK1, ⟨m1, rfl⟩⟩ := hrel
    cases gk with
    | zero => exact absurd HA.out (by simp [laws_heldTagS.l0])
    | succ k1 =>
      have H := HA.out
      clear HA
      simp only [laws_heldTagS.l0] at H
      by_cases c3 : x5_1 < (l0.length : Int)
      · rw [if_pos c3] at H
        have c3b0 : decide (x5_1 < (l0.length : Int)) = true := decide_eq_true c3
        clear c3
        by_cases c4 : 0 ≤ x5_1
        · rw [if_pos c4] at H
          have c4b0 : decide (0 ≤ x5_1) = true := decide_eq_true c4
          clear c4
          by_cases c5 : ((rd_T67 l0 x5_1).f0) = x1_1
          · rw [if_pos c5] at H
            have c5b0 : (((rd_T67 l0 x5_1).f0) == x1_1) = true := beq_iff_eq.mpr c5
            have c5b1 : (((rd_T67 l0 x5_1).f0) != x1_1) = false := bne_eq_false_iff_eq.mpr c5
            clear c5
            by_cases c6 : (((rd_T67 l0 x5_1).f1) != ((Int.tmod (wrap64 (x1_1 + 1)) 3) == 0)) = true
            · rw [if_pos c6] at H
              have c6b0 : (((rd_T67 l0 x5_1).f1) != ((Int.tmod (wrap64 (x1_1 + 1)) 3) == 0)) = true := c6
              (try (have c6b1 : decide (((rd_T67 l0 x5_1).f1) = ((Int.tmod (wrap64 (x1_1 + 1)) 3) == 0)) = false := by simpa using c6))
              (try (have c6b2 : (((rd_T67 l0 x5_1).f1) == ((Int.tmod (wrap64 (x1_1 + 1)) 3) == 0)) = false := by simpa using c6))
              (try (have c6b3 : ¬ (((rd_T67 l0 x5_1).f1) = ((Int.tmod (wrap64 (x1_1 + 1)) 3) == 0)) := by simpa using c6))
              clear c6
              obtain rfl := Option.some.inj H
              have p300 : 0 ≤ (x5_1 : Int) := of_decide_eq_true (by first | (with_reducible assumption) | assumption)
              have q300 : x5_1 < (l0.length : Int) := of_decide_eq_true (by first | (with_reducible assumption) | assumption)
              obtain ⟨ad300, e300, hx300_0, hx300_1⟩ := at_T67 HR0.out x5_1 p300 q300
              cases e300
              replace p300 := eq_true p300
              replace q300 := eq_true q300
              have p301 : 0 ≤ (x5_1 : Int) := of_decide_eq_true (by first | (with_reducible assumption) | assumption)
              have q301 : x5_1 < (l0.length : Int) := of_decide_eq_true (by first | (with_reducible assumption) | assumption)
              obtain ⟨ad301, e301, hx301_0, hx301_1⟩ := at_T67 HR0.out x5_1 p301 q301
              obtain rfl : ad300 = ad301 := (by injection e301)
              replace p301 := eq_true p301
              replace q301 := eq_true q301
              go_wp2
              go_ret
              exact ⟨by first | rfl | (simp; done) | (simp [*]; done), by repeat (first | exact Drawn0.refl _ | apply Drawn0.step)⟩
            · rw [if_neg c6] at H
              have c6b0 : (((rd_T67 l0 x5_1).f1) != ((Int.tmod (wrap64 (x1_1 + 1)) 3) == 0)) = false := by simpa using c6
              (try (have c6b1 : decide (((rd_T67 l0 x5_1).f1) = ((Int.tmod (wrap64 (x1_1 + 1)) 3) == 0)) = true := by simpa using c6))
              (try (have c6b2 : (((rd_T67 l0 x5_1).f1) == ((Int.tmod (wrap64 (x1_1 + 1)) 3) == 0)) = true := by simpa using c6))
              clear c6
              have H' := Aside0.mk H
              clear H
              have p300 : 0 ≤ (x5_1 : Int) := of_decide_eq_true (by first | (with_reducible assumption) | assumption)
              have q300 : x5_1 < (l0.length : Int) := of_decide_eq_true (by first | (with_reducible assumption) | assumption)
              obtain ⟨ad300, e300, hx300_0, hx300_1⟩ := at_T67 HR0.out x5_1 p300 q300
              cases e300
              replace p300 := eq_true p300
              replace q300 := eq_true q300
              have p301 : 0 ≤ (x5_1 : Int) := of_decide_eq_true (by first | (with_reducible assumption) | assumption)
              have q301 : x5_1 < (l0.length : Int) := of_decide_eq_true (by first | (with_reducible assumption) | assumption)
              obtain ⟨ad301, e301, hx301_0, hx301_1⟩ := at_T67 HR0.out x5_1 p301 q301
              obtain rfl : ad300 = ad301 := (by injection e301)
              replace p301 := eq_true p301
              replace q301 := eq_true q301
              go_wp2
              go_roundg k1
              case measure => have := HK1.out; omega
              case rel => exact ⟨(wrap64 ((wrap64 (x1_1 + 1)) + 1)), (wrap64 (x5_1 + 1)), (by first | rfl | (simp; done) | (simp [*]; done)), (by first | rfl | (simp; done) | (simp [*]; done)), H', ⟨by have := HK1.out; omega⟩, by repeat (first | exact Drawn0.refl _ | apply Drawn0.step)⟩
          · rw [if_neg c5] at H
            have c5b0 : (((rd_T67 l0 x5_1).f0) == x1_1) = false := beq_eq_false_iff_ne.mpr c5
            have c5b1 : (((rd_T67 l0 x5_1).f0) != x1_1) = true := bne_iff_ne.mpr c5
            obtain rfl := Option.some.inj H
            have p300 : 0 ≤ (x5_1 : Int) := of_decide_eq_true (by first | (with_reducible assumption) | assumption)
            have q300 : x5_1 < (l0.length : Int) := of_decide_eq_true (by first | (with_reducible assumption) | assumption)
            obtain ⟨ad300, e300, hx300_0, hx300_1⟩ := at_T67 HR0.out x5_1 p300 q300
            cases e300
            replace p300 := eq_true p300
            replace q300 := eq_true q300
            go_wp2
            go_ret
            exact ⟨by first | rfl | (simp; done) | (simp [*]; done), by repeat (first | exact Drawn0.refl _ | apply Drawn0.step)⟩
        · rw [if_neg c4] at H
          exact absurd H (by simp)
      · rw [if_neg c3] at H
        have c3b0 : decide (x5_1 < (l0.length : Int)) = false := decide_eq_false c3
        clear c3
        obtain rfl := Option.some.inj H
        go_wp2
        go_ret
        exact ⟨by first | rfl | (simp; done) | (simp [*]; done), by repeat (first | exact Drawn0.refl _ | apply Drawn0.step)⟩

/-! ### laws_heldDescriptor: function 41 -/
def laws_heldDescriptor.f (k : Nat) (a0_0 : Int) (l0_1 : List (S67)) (a1 : Int) : Option (Int) := (laws_heldTagS.f k l0_1 a1).bind fun t303 => (if t303 < 0 then (some (-1)) else (some t303))
theorem laws_heldDescriptor.mono : ∀ a0 a1 a2 k, LeO (laws_heldDescriptor.f k a0 a1 a2) (laws_heldDescriptor.f (k + 1) a0 a1 a2) := by
  intro a0 a1 a2 k
  unfold laws_heldDescriptor.f
  repeat' first
      | (with_reducible exact laws_heldTagS.mono _ _ _)
      | (with_reducible exact LeO.refl _)
      | (with_reducible exact LeO.none _)
      | (with_reducible refine LeO.ite ?_ ?_)
      | (with_reducible refine LeO.bind ?_ (fun _ => ?_))
      | exact laws_heldTagS.mono _ _ _
      | exact LeO.none _
      | refine LeO.ite ?_ ?_
      | refine LeO.bind ?_ (fun _ => ?_)
set_option maxHeartbeats 8000000 in
set_option maxRecDepth 100000 in
theorem laws_heldDescriptor.calls (k : Nat) (a0_0 : Int) (A0_1 : Option Addr) (c0_1 : Nat) (l0_1 : List (S67)) (a1 : Int) (r : Int) (w : World) (hr0_1 : Kd.C k67 w A0_1 l0_1.length l0_1) (hc0_1 : l0_1.length ≤ c0_1) (h : laws_heldDescriptor.f k a0_0 l0_1 a1 = some r) :
    Calls Tryd.prog 41 #[.agg #[.int .i64 a0_0, .slice A0_1 l0_1.length c0_1], .int .i64 a1] w fun e w' => e = .returned (.int .i64 r) ∧ Below w.heap.size w w' := by
  have hu43 := Tryd.underlying43
  have HR0_1 := Aside0.mk hr0_1
  have HC0_1 := Aside0.mk hc0_1
  clear hr0_1 hc0_1
  have HB := Aside0.mk (Below.refl w.heap.size w)
  have H : ((laws_heldTagS.f k l0_1 a1).bind fun t303 => (if t303 < 0 then (some (-1)) else (some t303))) = some r := h
  clear h
  replace H := Option.bind_eq_some_iff.mp H
  obtain ⟨t303, A30, H⟩ := H
  replace H : (if t303 < 0 then (some (-1)) else (some t303)) = some r := H
  have A3 := Aside0.mk A30
  clear A30
  by_cases c4 : t303 < 0
  · rw [if_pos c4] at H
    have c4b0 : decide (t303 < 0) = true := decide_eq_true c4
    clear c4
    obtain rfl := Option.some.inj H
    go_enter Tryd.func41, Tryd.ntmps41
    go_wp2_with (first | ((with_reducible refine gate_dst (N := 2) rfl ?_); refine box_event ?hg (N := 2) ?hd (cs := #[.int .i64 a0_0, .slice A0_1 l0_1.length c0_1]) (t := 43) ?hr ?_; (case hd => rfl); (case hg => rfl); (case hr => first | (go_simp; done) | (go_simp; rfl)); intro gb302 hg w5 hbox hb; have n0_ := Aside0.mk (below_step (by repeat (first | (with_reducible first | exact HB.out | apply below_alloc | apply pw_below_drewN | apply below_drew1) | exact HB.out)) hb); have n1_ := Aside0.mk (hbox); have n2_ := Aside0.mk ((by rw [hg]; exact (below_size (by repeat (first | (with_reducible first | exact HB.out | apply below_alloc | apply pw_below_drewN | apply below_drew1) | exact HB.out))) : w.heap.size ≤ gb302)); have n3_ := Aside0.mk ((by rw [hg]; exact (below_size (by repeat (first | (with_reducible first | exact HB.out | apply below_alloc | apply pw_below_drewN | apply below_drew1) | exact HB.out))) : w.heap.size ≤ gb302)); clear HB; have HB := n0_; have BK302 := n1_; have GW302 := n2_; have GE302 := n3_; clear n0_ n1_ n2_ n3_; clear hb hbox hg; have hcz6_0 : w5.cell? ⟨gb302, 0, none⟩ = some (.int .i64 a0_0) := (blk_cell BK302.out 0).trans rfl; have hcz6_1 : w5.cell? ⟨gb302, 1, none⟩ = some (.slice A0_1 l0_1.length c0_1) := (blk_cell BK302.out 1).trans rfl; have hfz6_0 := blk_frozen BK302.out 0; have hfz6_1 := blk_frozen BK302.out 1) | ((with_reducible refine gate_callee (f := 63) rfl ?_); refine goesL_ (some 8) rfl rfl Tryd.func63 (by kernel_rfl) rfl #[.slice A0_1 l0_1.length c0_1, .int .i64 a1] rfl (by (try simp only [List.map_toArray, List.map_cons, List.map_nil]); first | done | rfl | (simp only [List.length_drop, List.length_take]; rfl)) ?_; (with_reducible refine (laws_heldTagS.calls k _ _ l0_1 a1 t303 _ ?side1 ?side2 A3.out).mono ?_); (case side1 => repeat (first | exact (Kd.C_below HR0_1.out HB.out) | (with_reducible refine Kd.C_alloc ?_ _) | (with_reducible refine Kd.C_drewN ?_ _) | (with_reducible refine Kd.C_drew ?_))); (case side2 => exact HC0_1.out); rintro e w' ⟨rfl, ⟨nd, rfl⟩⟩; refine ⟨_, rfl, ?_⟩))
    go_ret
    exact ⟨by first | rfl | (simp [errW_none, errW_some] <;> rfl) | (simp [*, errW_none, errW_some] <;> rfl), by repeat (first | (with_reducible first | exact HB.out | apply below_alloc | apply pw_below_drewN | apply below_drew1 | refine below_set ?_ GE302.out) | exact HB.out)⟩
  · rw [if_neg c4] at H
    have c4b0 : decide (t303 < 0) = false := decide_eq_false c4
    clear c4
    obtain rfl := Option.some.inj H
    go_enter Tryd.func41, Tryd.ntmps41
    go_wp2_with (first | ((with_reducible refine gate_dst (N := 2) rfl ?_); refine box_event ?hg (N := 2) ?hd (cs := #[.int .i64 a0_0, .slice A0_1 l0_1.length c0_1]) (t := 43) ?hr ?_; (case hd => rfl); (case hg => rfl); (case hr => first | (go_simp; done) | (go_simp; rfl)); intro gb302 hg w7 hbox hb; have n0_ := Aside0.mk (below_step (by repeat (first | (with_reducible first | exact HB.out | apply below_alloc | apply pw_below_drewN | apply below_drew1) | exact HB.out)) hb); have n1_ := Aside0.mk (hbox); have n2_ := Aside0.mk ((by rw [hg]; exact (below_size (by repeat (first | (with_reducible first | exact HB.out | apply below_alloc | apply pw_below_drewN | apply below_drew1) | exact HB.out))) : w.heap.size ≤ gb302)); have n3_ := Aside0.mk ((by rw [hg]; exact (below_size (by repeat (first | (with_reducible first | exact HB.out | apply below_alloc | apply pw_below_drewN | apply below_drew1) | exact HB.out))) : w.heap.size ≤ gb302)); clear HB; have HB := n0_; have BK302 := n1_; have GW302 := n2_; have GE302 := n3_; clear n0_ n1_ n2_ n3_; clear hb hbox hg; have hcz8_0 : w7.cell? ⟨gb302, 0, none⟩ = some (.int .i64 a0_0) := (blk_cell BK302.out 0).trans rfl; have hcz8_1 : w7.cell? ⟨gb302, 1, none⟩ = some (.slice A0_1 l0_1.length c0_1) := (blk_cell BK302.out 1).trans rfl; have hfz8_0 := blk_frozen BK302.out 0; have hfz8_1 := blk_frozen BK302.out 1) | ((with_reducible refine gate_callee (f := 63) rfl ?_); refine goesL_ (some 8) rfl rfl Tryd.func63 (by kernel_rfl) rfl #[.slice A0_1 l0_1.length c0_1, .int .i64 a1] rfl (by (try simp only [List.map_toArray, List.map_cons, List.map_nil]); first | done | rfl | (simp only [List.length_drop, List.length_take]; rfl)) ?_; (with_reducible refine (laws_heldTagS.calls k _ _ l0_1 a1 t303 _ ?side1 ?side2 A3.out).mono ?_); (case side1 => repeat (first | exact (Kd.C_below HR0_1.out HB.out) | (with_reducible refine Kd.C_alloc ?_ _) | (with_reducible refine Kd.C_drewN ?_ _) | (with_reducible refine Kd.C_drew ?_))); (case side2 => exact HC0_1.out); rintro e w' ⟨rfl, ⟨nd, rfl⟩⟩; refine ⟨_, rfl, ?_⟩))
    go_ret
    exact ⟨by first | rfl | (simp [errW_none, errW_some] <;> rfl) | (simp [*, errW_none, errW_some] <;> rfl), by repeat (first | (with_reducible first | exact HB.out | apply below_alloc | apply pw_below_drewN | apply below_drew1 | refine below_set ?_ GE302.out) | exact HB.out)⟩

/-! ### laws_heldDescriptorResult: function 21 -/
def laws_heldDescriptorResult.f (k : Nat) (a0_0 : Bool) (a0_1 : Int) (l0_2 : List (S67)) (a1 : Int) : Option (Int) := (laws_heldDescriptor.f k a0_1 l0_2 a1).bind fun t305 => (if t305 < 0 then (some (-1)) else (some t305))
theorem laws_heldDescriptorResult.mono : ∀ a0 a1 a2 a3 k, LeO (laws_heldDescriptorResult.f k a0 a1 a2 a3) (laws_heldDescriptorResult.f (k + 1) a0 a1 a2 a3) := by
  intro a0 a1 a2 a3 k
  unfold laws_heldDescriptorResult.f
  repeat' first
      | (with_reducible exact laws_heldDescriptor.mono _ _ _ _)
      | (with_reducible exact LeO.refl _)
      | (with_reducible exact LeO.none _)
      | (with_reducible refine LeO.ite ?_ ?_)
      | (with_reducible refine LeO.bind ?_ (fun _ => ?_))
      | exact laws_heldDescriptor.mono _ _ _ _
      | exact LeO.none _
      | refine LeO.ite ?_ ?_
      | refine LeO.bind ?_ (fun _ => ?_)
set_option maxHeartbeats 8000000 in
set_option maxRecDepth 100000 in
theorem laws_heldDescriptorResult.calls (k : Nat) (a0_0 : Bool) (a0_1 : Int) (A0_2 : Option Addr) (c0_2 : Nat) (l0_2 : List (S67)) (a1 : Int) (r : Int) (w : World) (hr0_2 : Kd.C k67 w A0_2 l0_2.length l0_2) (hc0_2 : l0_2.length ≤ c0_2) (h : laws_heldDescriptorResult.f k a0_0 a0_1 l0_2 a1 = some r) :
    Calls Tryd.prog 21 #[.agg #[.bool a0_0, .int .i64 a0_1, .slice A0_2 l0_2.length c0_2], .int .i64 a1] w fun e w' => e = .returned (.int .i64 r) ∧ Below w.heap.size w w' := by
  have hu45 := Tryd.underlying45
  have hu43 := Tryd.underlying43
  have HR0_2 := Aside0.mk hr0_2
  have HC0_2 := Aside0.mk hc0_2
  clear hr0_2 hc0_2
  have HB := Aside0.mk (Below.refl w.heap.size w)
  have H : ((laws_heldDescriptor.f k a0_1 l0_2 a1).bind fun t305 => (if t305 < 0 then (some (-1)) else (some t305))) = some r := h
  clear h
  replace H := Option.bind_eq_some_iff.mp H
  obtain ⟨t305, A30, H⟩ := H
  replace H : (if t305 < 0 then (some (-1)) else (some t305)) = some r := H
  have A3 := Aside0.mk A30
  clear A30
  by_cases c4 : t305 < 0
  · rw [if_pos c4] at H
    have c4b0 : decide (t305 < 0) = true := decide_eq_true c4
    clear c4
    obtain rfl := Option.some.inj H
    go_enter Tryd.func21, Tryd.ntmps21
    go_wp2_with (first | ((with_reducible refine gate_dst (N := 2) rfl ?_); refine box_event ?hg (N := 2) ?hd (cs := #[.bool a0_0, .int .i64 a0_1, .slice A0_2 l0_2.length c0_2]) (t := 45) ?hr ?_; (case hd => rfl); (case hg => rfl); (case hr => first | (go_simp; done) | (go_simp; rfl)); intro gb304 hg w5 hbox hb; have n0_ := Aside0.mk (below_step (by repeat (first | (with_reducible first | exact HB.out | apply below_alloc | apply pw_below_drewN | apply below_drew1) | exact HB.out)) hb); have n1_ := Aside0.mk (hbox); have n2_ := Aside0.mk ((by rw [hg]; exact (below_size (by repeat (first | (with_reducible first | exact HB.out | apply below_alloc | apply pw_below_drewN | apply below_drew1) | exact HB.out))) : w.heap.size ≤ gb304)); have n3_ := Aside0.mk ((by rw [hg]; exact (below_size (by repeat (first | (with_reducible first | exact HB.out | apply below_alloc | apply pw_below_drewN | apply below_drew1) | exact HB.out))) : w.heap.size ≤ gb304)); clear HB; have HB := n0_; have BK304 := n1_; have GW304 := n2_; have GE304 := n3_; clear n0_ n1_ n2_ n3_; clear hb hbox hg; have hcz6_0 : w5.cell? ⟨gb304, 0, none⟩ = some (.bool a0_0) := (blk_cell BK304.out 0).trans rfl; have hcz6_1 : w5.cell? ⟨gb304, 1, none⟩ = some (.int .i64 a0_1) := (blk_cell BK304.out 1).trans rfl; have hcz6_2 : w5.cell? ⟨gb304, 2, none⟩ = some (.slice A0_2 l0_2.length c0_2) := (blk_cell BK304.out 2).trans rfl; have hfz6_0 := blk_frozen BK304.out 0; have hfz6_1 := blk_frozen BK304.out 1; have hfz6_2 := blk_frozen BK304.out 2) | ((with_reducible refine gate_callee (f := 41) rfl ?_); refine goesL_ (some 8) rfl rfl Tryd.func41 (by kernel_rfl) rfl #[.agg #[.int .i64 a0_1, .slice A0_2 l0_2.length c0_2], .int .i64 a1] rfl (by (try simp only [List.map_toArray, List.map_cons, List.map_nil]); first | done | rfl | (simp only [List.length_drop, List.length_take]; rfl)) ?_; (with_reducible refine (laws_heldDescriptor.calls k a0_1 _ _ l0_2 a1 t305 _ ?side1 ?side2 A3.out).mono ?_); (case side1 => repeat (first | exact (Kd.C_below HR0_2.out HB.out) | (with_reducible refine Kd.C_alloc ?_ _) | (with_reducible refine Kd.C_drewN ?_ _) | (with_reducible refine Kd.C_drew ?_))); (case side2 => exact HC0_2.out); rintro e w7 ⟨rfl, hb⟩; refine ⟨_, rfl, ?_⟩; have n0_ := Aside0.mk (blk_below (g := gb304) (o := .cells #[.bool a0_0, .int .i64 a0_1, .slice A0_2 l0_2.length c0_2] 45 (0, 0)) (by (with_reducible repeat (first | refine blk_drewN ?_ _ | refine blk_drew ?_ | refine blk_alloc ?_ _)); exact BK304.out) hb); have n1_ := Aside0.mk (below_step (by repeat (first | (with_reducible first | exact HB.out | apply below_alloc | apply pw_below_drewN | apply below_drew1 | refine below_set ?_ GE304.out) | exact HB.out)) hb); clear BK304; clear HB; have BK304 := n0_; have HB := n1_; clear n0_ n1_; (try clear hb); (try clear hb2); (try clear hk); (try clear hi)))
    go_ret
    exact ⟨by first | rfl | (simp [errW_none, errW_some] <;> rfl) | (simp [*, errW_none, errW_some] <;> rfl), by repeat (first | (with_reducible first | exact HB.out | apply below_alloc | apply pw_below_drewN | apply below_drew1 | refine below_set ?_ GE304.out) | exact HB.out)⟩
  · rw [if_neg c4] at H
    have c4b0 : decide (t305 < 0) = false := decide_eq_false c4
    clear c4
    obtain rfl := Option.some.inj H
    go_enter Tryd.func21, Tryd.ntmps21
    go_wp2_with (first | ((with_reducible refine gate_dst (N := 2) rfl ?_); refine box_event ?hg (N := 2) ?hd (cs := #[.bool a0_0, .int .i64 a0_1, .slice A0_2 l0_2.length c0_2]) (t := 45) ?hr ?_; (case hd => rfl); (case hg => rfl); (case hr => first | (go_simp; done) | (go_simp; rfl)); intro gb304 hg w8 hbox hb; have n0_ := Aside0.mk (below_step (by repeat (first | (with_reducible first | exact HB.out | apply below_alloc | apply pw_below_drewN | apply below_drew1) | exact HB.out)) hb); have n1_ := Aside0.mk (hbox); have n2_ := Aside0.mk ((by rw [hg]; exact (below_size (by repeat (first | (with_reducible first | exact HB.out | apply below_alloc | apply pw_below_drewN | apply below_drew1) | exact HB.out))) : w.heap.size ≤ gb304)); have n3_ := Aside0.mk ((by rw [hg]; exact (below_size (by repeat (first | (with_reducible first | exact HB.out | apply below_alloc | apply pw_below_drewN | apply below_drew1) | exact HB.out))) : w.heap.size ≤ gb304)); clear HB; have HB := n0_; have BK304 := n1_; have GW304 := n2_; have GE304 := n3_; clear n0_ n1_ n2_ n3_; clear hb hbox hg; have hcz9_0 : w8.cell? ⟨gb304, 0, none⟩ = some (.bool a0_0) := (blk_cell BK304.out 0).trans rfl; have hcz9_1 : w8.cell? ⟨gb304, 1, none⟩ = some (.int .i64 a0_1) := (blk_cell BK304.out 1).trans rfl; have hcz9_2 : w8.cell? ⟨gb304, 2, none⟩ = some (.slice A0_2 l0_2.length c0_2) := (blk_cell BK304.out 2).trans rfl; have hfz9_0 := blk_frozen BK304.out 0; have hfz9_1 := blk_frozen BK304.out 1; have hfz9_2 := blk_frozen BK304.out 2) | ((with_reducible refine gate_callee (f := 41) rfl ?_); refine goesL_ (some 8) rfl rfl Tryd.func41 (by kernel_rfl) rfl #[.agg #[.int .i64 a0_1, .slice A0_2 l0_2.length c0_2], .int .i64 a1] rfl (by (try simp only [List.map_toArray, List.map_cons, List.map_nil]); first | done | rfl | (simp only [List.length_drop, List.length_take]; rfl)) ?_; (with_reducible refine (laws_heldDescriptor.calls k a0_1 _ _ l0_2 a1 t305 _ ?side1 ?side2 A3.out).mono ?_); (case side1 => repeat (first | exact (Kd.C_below HR0_2.out HB.out) | (with_reducible refine Kd.C_alloc ?_ _) | (with_reducible refine Kd.C_drewN ?_ _) | (with_reducible refine Kd.C_drew ?_))); (case side2 => exact HC0_2.out); rintro e w10 ⟨rfl, hb⟩; refine ⟨_, rfl, ?_⟩; have n0_ := Aside0.mk (blk_below (g := gb304) (o := .cells #[.bool a0_0, .int .i64 a0_1, .slice A0_2 l0_2.length c0_2] 45 (0, 0)) (by (with_reducible repeat (first | refine blk_drewN ?_ _ | refine blk_drew ?_ | refine blk_alloc ?_ _)); exact BK304.out) hb); have n1_ := Aside0.mk (below_step (by repeat (first | (with_reducible first | exact HB.out | apply below_alloc | apply pw_below_drewN | apply below_drew1 | refine below_set ?_ GE304.out) | exact HB.out)) hb); clear BK304; clear HB; have BK304 := n0_; have HB := n1_; clear n0_ n1_; (try clear hb); (try clear hb2); (try clear hk); (try clear hi)))
    go_ret
    exact ⟨by first | rfl | (simp [errW_none, errW_some] <;> rfl) | (simp [*, errW_none, errW_some] <;> rfl), by repeat (first | (with_reducible first | exact HB.out | apply below_alloc | apply pw_below_drewN | apply below_drew1 | refine below_set ?_ GE304.out) | exact HB.out)⟩

/-! ### laws_FnExactDecodeDescriptor: function 5 -/
def laws_FnExactDecodeDescriptor.j0 : Nat → List Int → Bool → Bool → Int → List (S67) → Bool → Int → List (S67) → Option (Bool)
  | 0, _, _, _, _, _, _, _, _ => none
  | k + 1, x0, x39, x315000, x315001, x315002, x324000, x324001, x324002 => if x39 = true then (some false) else ((laws_markDescriptorResult.f k x324000 x324001 x324002 1).bind fun bt332 => ((laws_heldDescriptorResult.f k x324000 x324001 bt332.2 1).bind fun t334 => (if t334 < 0 then (some false) else (if t334 = bt332.1 then ((laws_toByteS.f k x0).bind fun t335 => ((impl_DecodeDescriptor.f k t335).bind fun bt338 => ((laws_eqDescriptorResult.f k bt338.1 bt338.2.1 bt338.2.2 x315000 x315001 x315002).bind fun t344 => (if t344 = true then ((laws_heldDescriptorResult.f k x324000 x324001 bt332.2 1).bind fun t345 => (if t345 < 0 then (some false) else (if t345 = bt332.1 then (some true) else (some false)))) else (some false))))) else (some false)))))
def laws_FnExactDecodeDescriptor.f (k : Nat) (l0 : List Int) : Option (Bool) := if (l0.length : Int) > 1048576 then (some true) else ((laws_toByteS.f k l0).bind fun t306 => ((spec_DecodeDescriptor.f k t306).bind fun bt309 => ((laws_toByteS.f k l0).bind fun t315 => ((impl_DecodeDescriptor.f k t315).bind fun bt318 => ((laws_eqDescriptorResult.f k bt318.1 bt318.2.1 bt318.2.2 bt309.1 bt309.2.1 bt309.2.2).bind fun t324 => (if t324 = true then ((laws_toByteS.f k l0).bind fun t325 => ((laws_eqByteS.f k t315 t325).bind fun t328 => (if t328 = true then ((laws_markByteS.f k t315 1).bind fun bt329 => (if bt329.1 < 0 then (laws_FnExactDecodeDescriptor.j0 k l0 true bt309.1 bt309.2.1 bt309.2.2 bt318.1 bt318.2.1 bt318.2.2) else ((laws_eqDescriptorResult.f k bt318.1 bt318.2.1 bt318.2.2 bt309.1 bt309.2.1 bt309.2.2).bind fun t331 => (laws_FnExactDecodeDescriptor.j0 k l0 (!t331) bt309.1 bt309.2.1 bt309.2.2 bt318.1 bt318.2.1 bt318.2.2)))) else (some false)))) else (some false)))))))
theorem laws_FnExactDecodeDescriptor.mono_l : ∀ k, (∀ y0 y1 y2 y3 y4 y5 y6 y7, LeO (laws_FnExactDecodeDescriptor.j0 k y0 y1 y2 y3 y4 y5 y6 y7) (laws_FnExactDecodeDescriptor.j0 (k + 1) y0 y1 y2 y3 y4 y5 y6 y7))
  | 0 => fun _ _ _ _ _ _ _ _ r h => by simp [laws_FnExactDecodeDescriptor.j0] at h
  | k + 1 => by
    have ih0 := laws_FnExactDecodeDescriptor.mono_l k
    · intro y0 y1 y2 y3 y4 y5 y6 y7
      unfold laws_FnExactDecodeDescriptor.j0
      repeat' first
      | (with_reducible exact ih0 _ _ _ _ _ _ _ _)
      | (with_reducible exact impl_DecodeDescriptor.mono _ _)
      | (with_reducible exact laws_eqByteS.mono _ _ _)
      | (with_reducible exact laws_eqDescriptorResult.mono _ _ _ _ _ _ _)
      | (with_reducible exact laws_heldDescriptorResult.mono _ _ _ _ _)
      | (with_reducible exact laws_markByteS.mono _ _ _)
      | (with_reducible exact laws_markDescriptorResult.mono _ _ _ _ _)
      | (with_reducible exact laws_toByteS.mono _ _)
      | (with_reducible exact spec_DecodeDescriptor.mono _ _)
      | (with_reducible exact LeO.refl _)
      | (with_reducible exact LeO.none _)
      | (with_reducible refine LeO.ite ?_ ?_)
      | (with_reducible refine LeO.bind ?_ (fun _ => ?_))
      | exact ih0 _ _ _ _ _ _ _ _
      | exact impl_DecodeDescriptor.mono _ _
      | exact laws_eqByteS.mono _ _ _
      | exact laws_eqDescriptorResult.mono _ _ _ _ _ _ _
      | exact laws_heldDescriptorResult.mono _ _ _ _ _
      | exact laws_markByteS.mono _ _ _
      | exact laws_markDescriptorResult.mono _ _ _ _ _
      | exact laws_toByteS.mono _ _
      | exact spec_DecodeDescriptor.mono _ _
      | exact LeO.none _
      | refine LeO.ite ?_ ?_
      | refine LeO.bind ?_ (fun _ => ?_)
theorem laws_FnExactDecodeDescriptor.mono : ∀ a0 k, LeO (laws_FnExactDecodeDescriptor.f k a0) (laws_FnExactDecodeDescriptor.f (k + 1) a0) := by
  intro a0 k
  have ih0 := laws_FnExactDecodeDescriptor.mono_l k
  unfold laws_FnExactDecodeDescriptor.f
  repeat' first
      | (with_reducible exact ih0 _ _ _ _ _ _ _ _)
      | (with_reducible exact impl_DecodeDescriptor.mono _ _)
      | (with_reducible exact laws_eqByteS.mono _ _ _)
      | (with_reducible exact laws_eqDescriptorResult.mono _ _ _ _ _ _ _)
      | (with_reducible exact laws_heldDescriptorResult.mono _ _ _ _ _)
      | (with_reducible exact laws_markByteS.mono _ _ _)
      | (with_reducible exact laws_markDescriptorResult.mono _ _ _ _ _)
      | (with_reducible exact laws_toByteS.mono _ _)
      | (with_reducible exact spec_DecodeDescriptor.mono _ _)
      | (with_reducible exact LeO.refl _)
      | (with_reducible exact LeO.none _)
      | (with_reducible refine LeO.ite ?_ ?_)
      | (with_reducible refine LeO.bind ?_ (fun _ => ?_))
      | exact ih0 _ _ _ _ _ _ _ _
      | exact impl_DecodeDescriptor.mono _ _
      | exact laws_eqByteS.mono _ _ _
      | exact laws_eqDescriptorResult.mono _ _ _ _ _ _ _
      | exact laws_heldDescriptorResult.mono _ _ _ _ _
      | exact laws_markByteS.mono _ _ _
      | exact laws_markDescriptorResult.mono _ _ _ _ _
      | exact laws_toByteS.mono _ _
      | exact spec_DecodeDescriptor.mono _ _
      | exact LeO.none _
      | refine LeO.ite ?_ ?_
      | refine LeO.bind ?_ (fun _ => ?_)
set_option maxHeartbeats 8000000 in
set_option maxRecDepth 100000 in
theorem laws_FnExactDecodeDescriptor.calls {bE : Addr} (k : Nat) (A0 : Option Addr) (c0 : Nat) (l0 : List Int) (r : Bool) (w : World) (hr0 : Kd.C (Kd.int .u8) w A0 l0.length l0) (hc0 : l0.length ≤ c0) (h : laws_FnExactDecodeDescriptor.f k l0 = some r) (hrt : Aside0 (r = true)) (hG0 : Erh.GlobE bE w) :
    Calls Tryd.prog 5 #[.slice A0 l0.length c0] w fun e w' => e = .returned (.bool r) ∧ Below w.heap.size w w' := by
  have hu45 := Tryd.underlying45
  have HR0 := Aside0.mk hr0
  have HC0 := Aside0.mk hc0
  clear hr0 hc0
  have HB := Aside0.mk (Below.refl w.heap.size w)
  have H : (if (l0.length : Int) > 1048576 then (some true) else ((laws_toByteS.f k l0).bind fun t306 => ((spec_DecodeDescriptor.f k t306).bind fun bt309 => ((laws_toByteS.f k l0).bind fun t315 => ((impl_DecodeDescriptor.f k t315).bind fun bt318 => ((laws_eqDescriptorResult.f k bt318.1 bt318.2.1 bt318.2.2 bt309.1 bt309.2.1 bt309.2.2).bind fun t324 => (if t324 = true then ((laws_toByteS.f k l0).bind fun t325 => ((laws_eqByteS.f k t315 t325).bind fun t328 => (if t328 = true then ((laws_markByteS.f k t315 1).bind fun bt329 => (if bt329.1 < 0 then (laws_FnExactDecodeDescriptor.j0 k l0 true bt309.1 bt309.2.1 bt309.2.2 bt318.1 bt318.2.1 bt318.2.2) else ((laws_eqDescriptorResult.f k bt318.1 bt318.2.1 bt318.2.2 bt309.1 bt309.2.1 bt309.2.2).bind fun t331 => (laws_FnExactDecodeDescriptor.j0 k l0 (!t331) bt309.1 bt309.2.1 bt309.2.2 bt318.1 bt318.2.1 bt318.2.2)))) else (some false)))) else (some false)))))))) = some r := h
  clear h
  by_cases c2 : (l0.length : Int) > 1048576
  · rw [if_pos c2] at H
    have c2b0 : decide (1048576 < (l0.length : Int)) = true := decide_eq_true c2
    have c2b1 : decide (1048576 < l0.length) = true := decide_eq_true (by omega)
    clear c2
    obtain rfl := Option.some.inj H
    go_enter Tryd.func5, Tryd.ntmps5
    go_wp2
    go_ret
    exact ⟨by first | rfl | (simp [errW_none, errW_some] <;> rfl) | (simp [*, errW_none, errW_some] <;> rfl), by repeat (first | (with_reducible first | exact HB.out | apply below_alloc | apply pw_below_drewN | apply below_drew1) | exact HB.out)⟩
  · rw [if_neg c2] at H
    have c2b0 : decide (1048576 < (l0.length : Int)) = false := decide_eq_false c2
    have c2b1 : decide (1048576 < l0.length) = false := decide_eq_false (by omega)
    clear c2
    replace H := Option.bind_eq_some_iff.mp H
    obtain ⟨t306, A30, H⟩ := H
    replace H : ((spec_DecodeDescriptor.f k t306).bind fun bt309 => ((laws_toByteS.f k l0).bind fun t315 => ((impl_DecodeDescriptor.f k t315).bind fun bt318 => ((laws_eqDescriptorResult.f k bt318.1 bt318.2.1 bt318.2.2 bt309.1 bt309.2.1 bt309.2.2).bind fun t324 => (if t324 = true then ((laws_toByteS.f k l0).bind fun t325 => ((laws_eqByteS.f k t315 t325).bind fun t328 => (if t328 = true then ((laws_markByteS.f k t315 1).bind fun bt329 => (if bt329.1 < 0 then (laws_FnExactDecodeDescriptor.j0 k l0 true bt309.1 bt309.2.1 bt309.2.2 bt318.1 bt318.2.1 bt318.2.2) else ((laws_eqDescriptorResult.f k bt318.1 bt318.2.1 bt318.2.2 bt309.1 bt309.2.1 bt309.2.2).bind fun t331 => (laws_FnExactDecodeDescriptor.j0 k l0 (!t331) bt309.1 bt309.2.1 bt309.2.2 bt318.1 bt318.2.1 bt318.2.2)))) else (some false)))) else (some false)))))) = some r := H
    have A3 := Aside0.mk A30
    clear A30
    replace H := Option.bind_eq_some_iff.mp H
    obtain ⟨⟨t309, t310, t311⟩, A40, H⟩ := H
    replace H : ((laws_toByteS.f k l0).bind fun t315 => ((impl_DecodeDescriptor.f k t315).bind fun bt318 => ((laws_eqDescriptorResult.f k bt318.1 bt318.2.1 bt318.2.2 t309 t310 t311).bind fun t324 => (if t324 = true then ((laws_toByteS.f k l0).bind fun t325 => ((laws_eqByteS.f k t315 t325).bind fun t328 => (if t328 = true then ((laws_markByteS.f k t315 1).bind fun bt329 => (if bt329.1 < 0 then (laws_FnExactDecodeDescriptor.j0 k l0 true t309 t310 t311 bt318.1 bt318.2.1 bt318.2.2) else ((laws_eqDescriptorResult.f k bt318.1 bt318.2.1 bt318.2.2 t309 t310 t311).bind fun t331 => (laws_FnExactDecodeDescriptor.j0 k l0 (!t331) t309 t310 t311 bt318.1 bt318.2.1 bt318.2.2)))) else (some false)))) else (some false))))) = some r := H
    have A4 := Aside0.mk A40
    clear A40
    replace H := Option.bind_eq_some_iff.mp H
    obtain ⟨t315, A50, H⟩ := H
    replace H : ((impl_DecodeDescriptor.f k t315).bind fun bt318 => ((laws_eqDescriptorResult.f k bt318.1 bt318.2.1 bt318.2.2 t309 t310 t311).bind fun t324 => (if t324 = true then ((laws_toByteS.f k l0).bind fun t325 => ((laws_eqByteS.f k t315 t325).bind fun t328 => (if t328 = true then ((laws_markByteS.f k t315 1).bind fun bt329 => (if bt329.1 < 0 then (laws_FnExactDecodeDescriptor.j0 k l0 true t309 t310 t311 bt318.1 bt318.2.1 bt318.2.2) else ((laws_eqDescriptorResult.f k bt318.1 bt318.2.1 bt318.2.2 t309 t310 t311).bind fun t331 => (laws_FnExactDecodeDescriptor.j0 k l0 (!t331) t309 t310 t311 bt318.1 bt318.2.1 bt318.2.2)))) else (some false)))) else (some false)))) = some r := H
    have A5 := Aside0.mk A50
    clear A50
    replace H := Option.bind_eq_some_iff.mp H
    obtain ⟨⟨t318, t319, t320⟩, A60, H⟩ := H
    replace H : ((laws_eqDescriptorResult.f k t318 t319 t320 t309 t310 t311).bind fun t324 => (if t324 = true then ((laws_toByteS.f k l0).bind fun t325 => ((laws_eqByteS.f k t315 t325).bind fun t328 => (if t328 = true then ((laws_markByteS.f k t315 1).bind fun bt329 => (if bt329.1 < 0 then (laws_FnExactDecodeDescriptor.j0 k l0 true t309 t310 t311 t318 t319 t320) else ((laws_eqDescriptorResult.f k t318 t319 t320 t309 t310 t311).bind fun t331 => (laws_FnExactDecodeDescriptor.j0 k l0 (!t331) t309 t310 t311 t318 t319 t320)))) else (some false)))) else (some false))) = some r := H
    have A6 := Aside0.mk A60
    clear A60
    replace H := Option.bind_eq_some_iff.mp H
    obtain ⟨t324, A70, H⟩ := H
    replace H : (if t324 = true then ((laws_toByteS.f k l0).bind fun t325 => ((laws_eqByteS.f k t315 t325).bind fun t328 => (if t328 = true then ((laws_markByteS.f k t315 1).bind fun bt329 => (if bt329.1 < 0 then (laws_FnExactDecodeDescriptor.j0 k l0 true t309 t310 t311 t318 t319 t320) else ((laws_eqDescriptorResult.f k t318 t319 t320 t309 t310 t311).bind fun t331 => (laws_FnExactDecodeDescriptor.j0 k l0 (!t331) t309 t310 t311 t318 t319 t320)))) else (some false)))) else (some false)) = some r := H
    have A7 := Aside0.mk A70
    clear A70
    by_cases c8 : t324 = true
    · subst c8
      have H1 : ((laws_toByteS.f k l0).bind fun t325 => ((laws_eqByteS.f k t315 t325).bind fun t328 => (if t328 = true then ((laws_markByteS.f k t315 1).bind fun bt329 => (if bt329.1 < 0 then (laws_FnExactDecodeDescriptor.j0 k l0 true t309 t310 t311 t318 t319 t320) else ((laws_eqDescriptorResult.f k t318 t319 t320 t309 t310 t311).bind fun t331 => (laws_FnExactDecodeDescriptor.j0 k l0 (!t331) t309 t310 t311 t318 t319 t320)))) else (some false)))) = some r := by rw [if_pos rfl] at H; exact H
      clear H
      have H := H1
      clear H1
      replace H := Option.bind_eq_some_iff.mp H
      obtain ⟨t325, A90, H⟩ := H
      replace H : ((laws_eqByteS.f k t315 t325).bind fun t328 => (if t328 = true then ((laws_markByteS.f k t315 1).bind fun bt329 => (if bt329.1 < 0 then (laws_FnExactDecodeDescriptor.j0 k l0 true t309 t310 t311 t318 t319 t320) else ((laws_eqDescriptorResult.f k t318 t319 t320 t309 t310 t311).bind fun t331 => (laws_FnExactDecodeDescriptor.j0 k l0 (!t331) t309 t310 t311 t318 t319 t320)))) else (some false))) = some r := H
      have A9 := Aside0.mk A90
      clear A90
      replace H := Option.bind_eq_some_iff.mp H
      obtain ⟨t328, A100, H⟩ := H
      replace H : (if t328 = true then ((laws_markByteS.f k t315 1).bind fun bt329 => (if bt329.1 < 0 then (laws_FnExactDecodeDescriptor.j0 k l0 true t309 t310 t311 t318 t319 t320) else ((laws_eqDescriptorResult.f k t318 t319 t320 t309 t310 t311).bind fun t331 => (laws_FnExactDecodeDescriptor.j0 k l0 (!t331) t309 t310 t311 t318 t319 t320)))) else (some false)) = some r := H
      have A10 := Aside0.mk A100
      clear A100
      by_cases c11 : t328 = true
      · subst c11
        have H1 : ((laws_markByteS.f k t315 1).bind fun bt329 => (if bt329.1 < 0 then (laws_FnExactDecodeDescriptor.j0 k l0 true t309 t310 t311 t318 t319 t320) else ((laws_eqDescriptorResult.f k t318 t319 t320 t309 t310 t311).bind fun t331 => (laws_FnExactDecodeDescriptor.j0 k l0 (!t331) t309 t310 t311 t318 t319 t320)))) = some r := by rw [if_pos rfl] at H; exact H
        clear H
        have H := H1
        clear H1
        replace H := Option.bind_eq_some_iff.mp H
        obtain ⟨⟨t329, t330⟩, A120, H⟩ := H
        replace H : (if t329 < 0 then (laws_FnExactDecodeDescriptor.j0 k l0 true t309 t310 t311 t318 t319 t320) else ((laws_eqDescriptorResult.f k t318 t319 t320 t309 t310 t311).bind fun t331 => (laws_FnExactDecodeDescriptor.j0 k l0 (!t331) t309 t310 t311 t318 t319 t320))) = some r := H
        have A12 := Aside0.mk A120
        clear A120
        have HC13 := Aside0.mk H
        clear H
        go_enter Tryd.func5, Tryd.ntmps5
        go_upto_region 12 with (first | ((with_reducible refine gate_callee (f := 7) rfl ?_); refine goesL_ (some 14) rfl rfl Tryd.func7 (by kernel_rfl) rfl #[.slice A0 l0.length c0] rfl (by (try simp only [List.map_toArray, List.map_cons, List.map_nil]); first | done | rfl | (simp only [List.length_drop, List.length_take]; rfl)) ?_; (with_reducible refine (laws_toByteS.calls k _ _ l0 t306 _ ?side1 ?side2 A3.out).mono ?_); (case side1 => repeat (first | exact HR0.out | (with_reducible refine Kd.C_alloc ?_ _) | (with_reducible refine Kd.C_drewN ?_ _) | (with_reducible refine Kd.C_drew ?_))); (case side2 => exact HC0.out); rintro e w14 ⟨v307, rfl, ho0, hb⟩; refine ⟨_, rfl, ?_⟩; have n0_ := Aside0.mk (Kd.R_lower ho0 (below_size (by repeat (first | (with_reducible first | exact HB.out | apply below_alloc | apply pw_below_drewN | apply below_drew1) | exact HB.out)))); have n1_ := Aside0.mk (below_step (by repeat (first | (with_reducible first | exact HB.out | apply below_alloc | apply pw_below_drewN | apply below_drew1) | exact HB.out)) hb); clear HB; have HO308 := n0_; have HB := n1_; clear n0_ n1_; (try clear hb); (try clear hb2); (try clear hk); (try clear hi); (try clear ho0); obtain ⟨Ao15, co15, eo15⟩ := Kd.R_slice HO308.out; subst eo15) | ((with_reducible refine gate_callee (f := 17) rfl ?_); refine goesL_ (some 15) rfl rfl Tryd.func17 (by kernel_rfl) rfl #[.slice Ao15 t306.length co15] rfl (by (try simp only [List.map_toArray, List.map_cons, List.map_nil]); first | done | rfl | (simp only [List.length_drop, List.length_take]; rfl)) ?_; (with_reducible refine (spec_DecodeDescriptor.calls k _ _ t306 t309 t310 t311 _ ?side1 ?side2 A4.out).mono ?_); (case side1 => repeat (first | exact (Kd.R_reads' HO308.out).2.2 | (with_reducible refine Kd.C_alloc ?_ _) | (with_reducible refine Kd.C_drewN ?_ _) | (with_reducible refine Kd.C_drew ?_))); (case side2 => exact (Kd.R_reads' HO308.out).2.1); rintro e w16 ⟨v312, rfl, ho0, hb⟩; refine ⟨_, rfl, ?_⟩; have n0_ := Aside0.mk (Kd.R_below (by (with_reducible repeat (first | apply Kd.R_alloc | apply Kd.R_drewN | apply Kd.R_drew)); exact HO308.out) hb); have n1_ := Aside0.mk (Kd.R_lower ho0 (below_size (by repeat (first | (with_reducible first | exact HB.out | apply below_alloc | apply pw_below_drewN | apply below_drew1) | exact HB.out)))); have n2_ := Aside0.mk (below_step (by repeat (first | (with_reducible first | exact HB.out | apply below_alloc | apply pw_below_drewN | apply below_drew1) | exact HB.out)) hb); clear HO308; clear HB; have HO308 := n0_; have HO313 := n1_; have HB := n2_; clear n0_ n1_ n2_; (try clear hb); (try clear hb2); (try clear hk); (try clear hi); (try clear ho0)) | ((with_reducible refine gate_dst (N := 3) rfl ?_); refine box_event ?hg (N := 3) ?hd (cs := #[.bool false, .int .i64 0, .slice none 0 0]) (t := 45) ?hr ?_; (case hd => rfl); (case hg => rfl); (case hr => first | (go_simp; done) | (go_simp; rfl)); intro gb314 hg w17 hbox hb; have n0_ := Aside0.mk (Kd.R_below (by (with_reducible repeat (first | apply Kd.R_alloc | apply Kd.R_drewN | apply Kd.R_drew)); exact HO308.out) hb); have n1_ := Aside0.mk (Kd.R_below (by (with_reducible repeat (first | apply Kd.R_alloc | apply Kd.R_drewN | apply Kd.R_drew)); exact HO313.out) hb); have n2_ := Aside0.mk (below_step (by repeat (first | (with_reducible first | exact HB.out | apply below_alloc | apply pw_below_drewN | apply below_drew1) | exact HB.out)) hb); have n3_ := Aside0.mk (hbox); have n4_ := Aside0.mk ((by rw [hg]; exact (below_size (by repeat (first | (with_reducible first | exact HB.out | apply below_alloc | apply pw_below_drewN | apply below_drew1) | exact HB.out))) : w.heap.size ≤ gb314)); have n5_ := Aside0.mk ((by rw [hg]; exact (below_size (by repeat (first | (with_reducible first | exact HB.out | apply below_alloc | apply pw_below_drewN | apply below_drew1) | exact HB.out))) : w.heap.size ≤ gb314)); clear HO308; clear HO313; clear HB; have HO308 := n0_; have HO313 := n1_; have HB := n2_; have BK314 := n3_; have GW314 := n4_; have GE314 := n5_; clear n0_ n1_ n2_ n3_ n4_ n5_; clear hb hbox hg; have hcz18_0 : w17.cell? ⟨gb314, 0, none⟩ = some (.bool false) := (blk_cell BK314.out 0).trans rfl; have hcz18_1 : w17.cell? ⟨gb314, 1, none⟩ = some (.int .i64 0) := (blk_cell BK314.out 1).trans rfl; have hcz18_2 : w17.cell? ⟨gb314, 2, none⟩ = some (.slice none 0 0) := (blk_cell BK314.out 2).trans rfl; have hfz18_0 := blk_frozen BK314.out 0; have hfz18_1 := blk_frozen BK314.out 1; have hfz18_2 := blk_frozen BK314.out 2; obtain ⟨Ao19, co19, eo19⟩ := Kd.R_slice HO313.out; subst eo19) | ((with_reducible refine gate_callee (f := 7) rfl ?_); refine goesL_ (some 17) rfl rfl Tryd.func7 (by kernel_rfl) rfl #[.slice A0 l0.length c0] rfl (by (try simp only [List.map_toArray, List.map_cons, List.map_nil]); first | done | rfl | (simp only [List.length_drop, List.length_take]; rfl)) ?_; (with_reducible refine (laws_toByteS.calls k _ _ l0 t315 _ ?side1 ?side2 A5.out).mono ?_); (case side1 => exact Kd.C_below HR0.out (by repeat (first | (with_reducible first | exact HB.out | apply below_alloc | apply pw_below_drewN | apply below_drew1 | refine below_set ?_ GE314.out) | exact HB.out))); (case side2 => exact HC0.out); rintro e w20 ⟨v316, rfl, ho0, hb⟩; refine ⟨_, rfl, ?_⟩; have n0_ := Aside0.mk (Kd.R_elder' (by (with_reducible repeat (first | apply Kd.R_alloc | apply Kd.R_drewN | apply Kd.R_drew)); exact (Kd.R_mono (Kd.R_far (p := ⟨gb314, 2, none⟩) (Kd.R_far (p := ⟨gb314, 1, none⟩) (Kd.R_far (p := ⟨gb314, 0, none⟩) (Kd.R_types HO308.out BK314.out (by decide)) (fun _ hk => hk.2) (.bool t309)) (fun _ hk => hk.2) (.int .i64 t310)) (fun _ hk => hk.2) (.slice Ao19 t311.length co19)) (fun _ h_ => h_.1))) (Kd.R_base ho0) hb); have n1_ := Aside0.mk (Kd.R_below (by (with_reducible repeat (first | apply Kd.R_alloc | apply Kd.R_drewN | apply Kd.R_drew)); exact (Kd.R_mono (Kd.R_far (p := ⟨gb314, 2, none⟩) (Kd.R_far (p := ⟨gb314, 1, none⟩) (Kd.R_far (p := ⟨gb314, 0, none⟩) (Kd.R_types HO313.out BK314.out (by decide)) (fun _ hk => hk.2) (.bool t309)) (fun _ hk => hk.2) (.int .i64 t310)) (fun _ hk => hk.2) (.slice Ao19 t311.length co19)) (fun _ h_ => h_.1))) hb); have n2_ := Aside0.mk (Kd.R_lower (Kd.R_new' ho0 (Kd.R_lt (by (with_reducible repeat (first | apply Kd.R_alloc | apply Kd.R_drewN | apply Kd.R_drew)); exact (Kd.R_mono (Kd.R_far (p := ⟨gb314, 2, none⟩) (Kd.R_far (p := ⟨gb314, 1, none⟩) (Kd.R_far (p := ⟨gb314, 0, none⟩) (Kd.R_types HO308.out BK314.out (by decide)) (fun _ hk => hk.2) (.bool t309)) (fun _ hk => hk.2) (.int .i64 t310)) (fun _ hk => hk.2) (.slice Ao19 t311.length co19)) (fun _ h_ => h_.1))))) (below_size (by repeat (first | (with_reducible first | exact HB.out | apply below_alloc | apply pw_below_drewN | apply below_drew1 | refine below_set ?_ GE314.out) | exact HB.out)))); have n3_ := Aside0.mk (blk_below (g := gb314) (o := .cells #[.bool t309, .int .i64 t310, .slice Ao19 t311.length co19] 45 (0, 0)) (by (with_reducible repeat (first | refine blk_drewN ?_ _ | refine blk_drew ?_ | refine blk_alloc ?_ _)); refine blk_put (cs := #[.bool t309, .int .i64 t310, .slice none 0 0]) ?_ 2 _ rfl; (with_reducible repeat (first | refine blk_drewN ?_ _ | refine blk_drew ?_ | refine blk_alloc ?_ _)); refine blk_put (cs := #[.bool t309, .int .i64 0, .slice none 0 0]) ?_ 1 _ rfl; (with_reducible repeat (first | refine blk_drewN ?_ _ | refine blk_drew ?_ | refine blk_alloc ?_ _)); refine blk_put (cs := #[.bool false, .int .i64 0, .slice none 0 0]) ?_ 0 _ rfl; (with_reducible repeat (first | refine blk_drewN ?_ _ | refine blk_drew ?_ | refine blk_alloc ?_ _)); exact BK314.out) hb); have n4_ := Aside0.mk (below_step (by repeat (first | (with_reducible first | exact HB.out | apply below_alloc | apply pw_below_drewN | apply below_drew1 | refine below_set ?_ GE314.out) | exact HB.out)) hb); clear HO308; clear HO313; clear BK314; clear HB; have HO308 := n0_; have HO313 := n1_; have HO317 := n2_; have BK314 := n3_; have HB := n4_; clear n0_ n1_ n2_ n3_ n4_; (try clear hb); (try clear hb2); (try clear hk); (try clear hi); (try clear ho0); obtain ⟨Ao21, co21, eo21⟩ := Kd.R_slice HO317.out; subst eo21) | ((with_reducible refine gate_callee (f := 18) rfl ?_); refine goesL_ (some 19) rfl rfl Tryd.func18 (by kernel_rfl) rfl #[.slice Ao21 t315.length co21] rfl (by (try simp only [List.map_toArray, List.map_cons, List.map_nil]); first | done | rfl | (simp only [List.length_drop, List.length_take]; rfl)) ?_; (with_reducible refine (impl_DecodeDescriptor.calls k _ _ t315 t318 t319 t320 _ ?side1 ?side2 A6.out (hG0.below (by repeat (first | (with_reducible first | exact HB.out | apply below_alloc | apply pw_below_drewN | apply below_drew1 | refine below_set ?_ GE314.out) | exact HB.out)))).mono ?_); (case side1 => repeat (first | exact (Kd.R_reads' HO317.out).2.2 | (with_reducible refine Kd.C_alloc ?_ _) | (with_reducible refine Kd.C_drewN ?_ _) | (with_reducible refine Kd.C_drew ?_))); (case side2 => exact (Kd.R_reads' HO317.out).2.1); rintro e w22 ⟨v321, rfl, ho0, hb⟩; refine ⟨_, rfl, ?_⟩; have n0_ := Aside0.mk (Kd.R_below (by (with_reducible repeat (first | apply Kd.R_alloc | apply Kd.R_drewN | apply Kd.R_drew)); exact HO308.out) hb); have n1_ := Aside0.mk (Kd.R_elder' (by (with_reducible repeat (first | apply Kd.R_alloc | apply Kd.R_drewN | apply Kd.R_drew)); exact HO313.out) (Kd.R_base ho0) hb); have n2_ := Aside0.mk (Kd.R_below (by (with_reducible repeat (first | apply Kd.R_alloc | apply Kd.R_drewN | apply Kd.R_drew)); exact HO317.out) hb); have n3_ := Aside0.mk (Kd.R_lower (Kd.R_new' ho0 (Kd.R_lt (by (with_reducible repeat (first | apply Kd.R_alloc | apply Kd.R_drewN | apply Kd.R_drew)); exact HO313.out))) (below_size (by repeat (first | (with_reducible first | exact HB.out | apply below_alloc | apply pw_below_drewN | apply below_drew1 | refine below_set ?_ GE314.out) | exact HB.out)))); have n4_ := Aside0.mk (blk_below (g := gb314) (o := .cells #[.bool t309, .int .i64 t310, .slice Ao19 t311.length co19] 45 (0, 0)) (by (with_reducible repeat (first | refine blk_drewN ?_ _ | refine blk_drew ?_ | refine blk_alloc ?_ _)); exact BK314.out) hb); have n5_ := Aside0.mk (below_step (by repeat (first | (with_reducible first | exact HB.out | apply below_alloc | apply pw_below_drewN | apply below_drew1 | refine below_set ?_ GE314.out) | exact HB.out)) hb); clear HO308; clear HO313; clear HO317; clear BK314; clear HB; have HO308 := n0_; have HO313 := n1_; have HO317 := n2_; have HO322 := n3_; have BK314 := n4_; have HB := n5_; clear n0_ n1_ n2_ n3_ n4_ n5_; (try clear hb); (try clear hb2); (try clear hk); (try clear hi); (try clear ho0)) | ((with_reducible refine gate_dst (N := 5) rfl ?_); refine box_event ?hg (N := 5) ?hd (cs := #[.bool false, .int .i64 0, .slice none 0 0]) (t := 45) ?hr ?_; (case hd => rfl); (case hg => rfl); (case hr => first | (go_simp; done) | (go_simp; rfl)); intro gb323 hg w23 hbox hb; have n0_ := Aside0.mk (Kd.R_below (by (with_reducible repeat (first | apply Kd.R_alloc | apply Kd.R_drewN | apply Kd.R_drew)); exact HO308.out) hb); have n1_ := Aside0.mk (Kd.R_below (by (with_reducible repeat (first | apply Kd.R_alloc | apply Kd.R_drewN | apply Kd.R_drew)); exact HO313.out) hb); have n2_ := Aside0.mk (Kd.R_below (by (with_reducible repeat (first | apply Kd.R_alloc | apply Kd.R_drewN | apply Kd.R_drew)); exact HO317.out) hb); have n3_ := Aside0.mk (Kd.R_below (by (with_reducible repeat (first | apply Kd.R_alloc | apply Kd.R_drewN | apply Kd.R_drew)); exact HO322.out) hb); have n4_ := Aside0.mk (blk_below (g := gb314) (o := .cells #[.bool t309, .int .i64 t310, .slice Ao19 t311.length co19] 45 (0, 0)) (by (with_reducible repeat (first | refine blk_drewN ?_ _ | refine blk_drew ?_ | refine blk_alloc ?_ _)); exact BK314.out) hb); have n5_ := Aside0.mk (below_step (by repeat (first | (with_reducible first | exact HB.out | apply below_alloc | apply pw_below_drewN | apply below_drew1 | refine below_set ?_ GE314.out) | exact HB.out)) hb); have n6_ := Aside0.mk (hbox); have n7_ := Aside0.mk ((by rw [hg]; exact (below_size (by repeat (first | (with_reducible first | exact HB.out | apply below_alloc | apply pw_below_drewN | apply below_drew1 | refine below_set ?_ GE314.out) | exact HB.out))) : w.heap.size ≤ gb323)); have n8_ := Aside0.mk ((by rw [hg]; exact (below_size (by repeat (first | (with_reducible first | exact HB.out | apply below_alloc | apply pw_below_drewN | apply below_drew1 | refine below_set ?_ GE314.out) | exact HB.out))) : w.heap.size ≤ gb323)); have n9_ := Aside0.mk ((by rw [hg]; exact Nat.ne_of_lt (blk_lt (g := gb314) (o := .cells #[.bool t309, .int .i64 t310, .slice Ao19 t311.length co19] 45 (0, 0)) (by (with_reducible repeat (first | refine blk_drewN ?_ _ | refine blk_drew ?_ | refine blk_alloc ?_ _)); exact BK314.out)) : gb314 ≠ gb323)); have n10_ := Aside0.mk ((by rw [hg]; exact Nat.ne_of_gt (blk_lt (g := gb314) (o := .cells #[.bool t309, .int .i64 t310, .slice Ao19 t311.length co19] 45 (0, 0)) (by (with_reducible repeat (first | refine blk_drewN ?_ _ | refine blk_drew ?_ | refine blk_alloc ?_ _)); exact BK314.out)) : gb323 ≠ gb314)); clear HO308; clear HO313; clear HO317; clear HO322; clear BK314; clear HB; have HO308 := n0_; have HO313 := n1_; have HO317 := n2_; have HO322 := n3_; have BK314 := n4_; have HB := n5_; have BK323 := n6_; have GW323 := n7_; have GE323 := n8_; have NB314_323 := n9_; have NB323_314 := n10_; clear n0_ n1_ n2_ n3_ n4_ n5_ n6_ n7_ n8_ n9_ n10_; clear hb hbox hg; have hnb24 := NB323_314.out; have hnc24 := NB314_323.out; have hcz25_0 : w23.cell? ⟨gb323, 0, none⟩ = some (.bool false) := (blk_cell BK323.out 0).trans rfl; have hcz25_1 : w23.cell? ⟨gb323, 1, none⟩ = some (.int .i64 0) := (blk_cell BK323.out 1).trans rfl; have hcz25_2 : w23.cell? ⟨gb323, 2, none⟩ = some (.slice none 0 0) := (blk_cell BK323.out 2).trans rfl; have hfz25_0 := blk_frozen BK323.out 0; have hfz25_1 := blk_frozen BK323.out 1; have hfz25_2 := blk_frozen BK323.out 2; obtain ⟨Ao26, co26, eo26⟩ := Kd.R_slice HO322.out; subst eo26; have hcz27_0 : w23.cell? ⟨gb314, 0, none⟩ = some (.bool t309) := (blk_cell BK314.out 0).trans rfl; have hcz27_1 : w23.cell? ⟨gb314, 1, none⟩ = some (.int .i64 t310) := (blk_cell BK314.out 1).trans rfl; have hcz27_2 : w23.cell? ⟨gb314, 2, none⟩ = some (.slice Ao19 t311.length co19) := (blk_cell BK314.out 2).trans rfl; have hfz27_0 := blk_frozen BK314.out 0; have hfz27_1 := blk_frozen BK314.out 1; have hfz27_2 := blk_frozen BK314.out 2) | ((with_reducible refine gate_callee (f := 19) rfl ?_); refine goesL_ (some 22) rfl rfl Tryd.func19 (by kernel_rfl) rfl #[.agg #[.bool t318, .int .i64 t319, .slice Ao26 t320.length co26], .agg #[.bool t309, .int .i64 t310, .slice Ao19 t311.length co19]] rfl (by (try simp only [List.map_toArray, List.map_cons, List.map_nil]); first | done | rfl | (simp only [List.length_drop, List.length_take]; rfl)) ?_; (with_reducible refine (laws_eqDescriptorResult.calls k t318 t319 _ _ t320 t309 t310 _ _ t311 true _ ?side1 ?side2 ?side3 ?side4 A7.out).mono ?_); (case side1 => refine (Kd.R_reads' (e := 67) (base := w.heap.size) (ok := fun k_ => (True ∧ some k_ ≠ (.slice Ao19 t311.length co19 : Value).ownBlock)) (n := t320.length) (c := co26) ?_).2.2; exact (by (with_reducible repeat (first | apply Kd.R_alloc | apply Kd.R_drewN | apply Kd.R_drew)); exact (Kd.R_mono (Kd.R_far (p := ⟨gb323, 2, none⟩) (Kd.R_far (p := ⟨gb323, 1, none⟩) (Kd.R_far (p := ⟨gb323, 0, none⟩) (Kd.R_types HO322.out BK323.out (by decide)) (fun _ hk => hk.2) (.bool t318)) (fun _ hk => hk.2) (.int .i64 t319)) (fun _ hk => hk.2) (.slice Ao26 t320.length co26)) (fun _ h_ => h_.1)))); (case side2 => exact (Kd.R_reads' HO322.out).2.1); (case side3 => refine (Kd.R_reads' (e := 67) (base := w.heap.size) (ok := fun k_ => (True ∧ some k_ ≠ (.slice Ao26 t320.length co26 : Value).ownBlock)) (n := t311.length) (c := co19) ?_).2.2; exact (by (with_reducible repeat (first | apply Kd.R_alloc | apply Kd.R_drewN | apply Kd.R_drew)); exact (Kd.R_mono (Kd.R_far (p := ⟨gb323, 2, none⟩) (Kd.R_far (p := ⟨gb323, 1, none⟩) (Kd.R_far (p := ⟨gb323, 0, none⟩) (Kd.R_types HO313.out BK323.out (by decide)) (fun _ hk => hk.2) (.bool t318)) (fun _ hk => hk.2) (.int .i64 t319)) (fun _ hk => hk.2) (.slice Ao26 t320.length co26)) (fun _ h_ => h_.1)))); (case side4 => exact (Kd.R_reads' HO313.out).2.1); rintro e w28 ⟨rfl, hb⟩; refine ⟨_, rfl, ?_⟩; have n0_ := Aside0.mk (Kd.R_below (by (with_reducible repeat (first | apply Kd.R_alloc | apply Kd.R_drewN | apply Kd.R_drew)); exact (Kd.R_mono (Kd.R_far (p := ⟨gb323, 2, none⟩) (Kd.R_far (p := ⟨gb323, 1, none⟩) (Kd.R_far (p := ⟨gb323, 0, none⟩) (Kd.R_types HO308.out BK323.out (by decide)) (fun _ hk => hk.2) (.bool t318)) (fun _ hk => hk.2) (.int .i64 t319)) (fun _ hk => hk.2) (.slice Ao26 t320.length co26)) (fun _ h_ => h_.1))) hb); have n1_ := Aside0.mk (Kd.R_below (by (with_reducible repeat (first | apply Kd.R_alloc | apply Kd.R_drewN | apply Kd.R_drew)); exact (Kd.R_mono (Kd.R_far (p := ⟨gb323, 2, none⟩) (Kd.R_far (p := ⟨gb323, 1, none⟩) (Kd.R_far (p := ⟨gb323, 0, none⟩) (Kd.R_types HO313.out BK323.out (by decide)) (fun _ hk => hk.2) (.bool t318)) (fun _ hk => hk.2) (.int .i64 t319)) (fun _ hk => hk.2) (.slice Ao26 t320.length co26)) (fun _ h_ => h_.1))) hb); have n2_ := Aside0.mk (Kd.R_below (by (with_reducible repeat (first | apply Kd.R_alloc | apply Kd.R_drewN | apply Kd.R_drew)); exact (Kd.R_mono (Kd.R_far (p := ⟨gb323, 2, none⟩) (Kd.R_far (p := ⟨gb323, 1, none⟩) (Kd.R_far (p := ⟨gb323, 0, none⟩) (Kd.R_types HO317.out BK323.out (by decide)) (fun _ hk => hk.2) (.bool t318)) (fun _ hk => hk.2) (.int .i64 t319)) (fun _ hk => hk.2) (.slice Ao26 t320.length co26)) (fun _ h_ => h_.1))) hb); have n3_ := Aside0.mk (Kd.R_below (by (with_reducible repeat (first | apply Kd.R_alloc | apply Kd.R_drewN | apply Kd.R_drew)); exact (Kd.R_mono (Kd.R_far (p := ⟨gb323, 2, none⟩) (Kd.R_far (p := ⟨gb323, 1, none⟩) (Kd.R_far (p := ⟨gb323, 0, none⟩) (Kd.R_types HO322.out BK323.out (by decide)) (fun _ hk => hk.2) (.bool t318)) (fun _ hk => hk.2) (.int .i64 t319)) (fun _ hk => hk.2) (.slice Ao26 t320.length co26)) (fun _ h_ => h_.1))) hb); have n4_ := Aside0.mk (blk_below (g := gb314) (o := .cells #[.bool t309, .int .i64 t310, .slice Ao19 t311.length co19] 45 (0, 0)) (by (with_reducible repeat (first | refine blk_drewN ?_ _ | refine blk_drew ?_ | refine blk_alloc ?_ _)); refine blk_far ?_ NB314_323.out _; (with_reducible repeat (first | refine blk_drewN ?_ _ | refine blk_drew ?_ | refine blk_alloc ?_ _)); refine blk_far ?_ NB314_323.out _; (with_reducible repeat (first | refine blk_drewN ?_ _ | refine blk_drew ?_ | refine blk_alloc ?_ _)); refine blk_far ?_ NB314_323.out _; (with_reducible repeat (first | refine blk_drewN ?_ _ | refine blk_drew ?_ | refine blk_alloc ?_ _)); exact BK314.out) hb); have n5_ := Aside0.mk (blk_below (g := gb323) (o := .cells #[.bool t318, .int .i64 t319, .slice Ao26 t320.length co26] 45 (0, 0)) (by (with_reducible repeat (first | refine blk_drewN ?_ _ | refine blk_drew ?_ | refine blk_alloc ?_ _)); refine blk_put (cs := #[.bool t318, .int .i64 t319, .slice none 0 0]) ?_ 2 _ rfl; (with_reducible repeat (first | refine blk_drewN ?_ _ | refine blk_drew ?_ | refine blk_alloc ?_ _)); refine blk_put (cs := #[.bool t318, .int .i64 0, .slice none 0 0]) ?_ 1 _ rfl; (with_reducible repeat (first | refine blk_drewN ?_ _ | refine blk_drew ?_ | refine blk_alloc ?_ _)); refine blk_put (cs := #[.bool false, .int .i64 0, .slice none 0 0]) ?_ 0 _ rfl; (with_reducible repeat (first | refine blk_drewN ?_ _ | refine blk_drew ?_ | refine blk_alloc ?_ _)); exact BK323.out) hb); have n6_ := Aside0.mk (below_step (by repeat (first | (with_reducible first | exact HB.out | apply below_alloc | apply pw_below_drewN | apply below_drew1 | refine below_set ?_ GE314.out | refine below_set ?_ GE323.out) | exact HB.out)) hb); clear HO308; clear HO313; clear HO317; clear HO322; clear BK314; clear BK323; clear HB; have HO308 := n0_; have HO313 := n1_; have HO317 := n2_; have HO322 := n3_; have BK314 := n4_; have BK323 := n5_; have HB := n6_; clear n0_ n1_ n2_ n3_ n4_ n5_ n6_; (try clear hb); (try clear hb2); (try clear hk); (try clear hi)) | ((with_reducible refine gate_callee (f := 7) rfl ?_); refine goesL_ (some 26) rfl rfl Tryd.func7 (by kernel_rfl) rfl #[.slice A0 l0.length c0] rfl (by (try simp only [List.map_toArray, List.map_cons, List.map_nil]); first | done | rfl | (simp only [List.length_drop, List.length_take]; rfl)) ?_; (with_reducible refine (laws_toByteS.calls k _ _ l0 t325 _ ?side1 ?side2 A9.out).mono ?_); (case side1 => repeat (first | exact (Kd.C_below HR0.out HB.out) | (with_reducible refine Kd.C_alloc ?_ _) | (with_reducible refine Kd.C_drewN ?_ _) | (with_reducible refine Kd.C_drew ?_))); (case side2 => exact HC0.out); rintro e w29 ⟨v326, rfl, ho0, hb⟩; refine ⟨_, rfl, ?_⟩; have n0_ := Aside0.mk (Kd.R_elder' (by (with_reducible repeat (first | apply Kd.R_alloc | apply Kd.R_drewN | apply Kd.R_drew)); exact HO308.out) (Kd.R_base ho0) hb); have n1_ := Aside0.mk (Kd.R_below (by (with_reducible repeat (first | apply Kd.R_alloc | apply Kd.R_drewN | apply Kd.R_drew)); exact HO313.out) hb); have n2_ := Aside0.mk (Kd.R_elder' (by (with_reducible repeat (first | apply Kd.R_alloc | apply Kd.R_drewN | apply Kd.R_drew)); exact HO317.out) (Kd.R_base ho0) hb); have n3_ := Aside0.mk (Kd.R_below (by (with_reducible repeat (first | apply Kd.R_alloc | apply Kd.R_drewN | apply Kd.R_drew)); exact HO322.out) hb); have n4_ := Aside0.mk (Kd.R_lower (Kd.R_new' (Kd.R_new' ho0 (Kd.R_lt (by (with_reducible repeat (first | apply Kd.R_alloc | apply Kd.R_drewN | apply Kd.R_drew)); exact HO308.out))) (Kd.R_lt (by (with_reducible repeat (first | apply Kd.R_alloc | apply Kd.R_drewN | apply Kd.R_drew)); exact HO317.out))) (below_size (by repeat (first | (with_reducible first | exact HB.out | apply below_alloc | apply pw_below_drewN | apply below_drew1 | refine below_set ?_ GE314.out | refine below_set ?_ GE323.out) | exact HB.out)))); have n5_ := Aside0.mk (blk_below (g := gb314) (o := .cells #[.bool t309, .int .i64 t310, .slice Ao19 t311.length co19] 45 (0, 0)) (by (with_reducible repeat (first | refine blk_drewN ?_ _ | refine blk_drew ?_ | refine blk_alloc ?_ _)); exact BK314.out) hb); have n6_ := Aside0.mk (blk_below (g := gb323) (o := .cells #[.bool t318, .int .i64 t319, .slice Ao26 t320.length co26] 45 (0, 0)) (by (with_reducible repeat (first | refine blk_drewN ?_ _ | refine blk_drew ?_ | refine blk_alloc ?_ _)); exact BK323.out) hb); have n7_ := Aside0.mk (below_step (by repeat (first | (with_reducible first | exact HB.out | apply below_alloc | apply pw_below_drewN | apply below_drew1 | refine below_set ?_ GE314.out | refine below_set ?_ GE323.out) | exact HB.out)) hb); clear HO308; clear HO313; clear HO317; clear HO322; clear BK314; clear BK323; clear HB; have HO308 := n0_; have HO313 := n1_; have HO317 := n2_; have HO322 := n3_; have HO327 := n4_; have BK314 := n5_; have BK323 := n6_; have HB := n7_; clear n0_ n1_ n2_ n3_ n4_ n5_ n6_ n7_; (try clear hb); (try clear hb2); (try clear hk); (try clear hi); (try clear ho0); obtain ⟨Ao30, co30, eo30⟩ := Kd.R_slice HO327.out; subst eo30) | ((with_reducible refine gate_callee (f := 10) rfl ?_); refine goesL_ (some 27) rfl rfl Tryd.func10 (by kernel_rfl) rfl #[.slice Ao21 t315.length co21, .slice Ao30 t325.length co30] rfl (by (try simp only [List.map_toArray, List.map_cons, List.map_nil]); first | done | rfl | (simp only [List.length_drop, List.length_take]; rfl)) ?_; (with_reducible refine (laws_eqByteS.calls k _ _ t315 _ _ t325 true _ ?side1 ?side2 ?side3 ?side4 A10.out).mono ?_); (case side1 => repeat (first | exact (Kd.R_reads' HO317.out).2.2 | (with_reducible refine Kd.C_alloc ?_ _) | (with_reducible refine Kd.C_drewN ?_ _) | (with_reducible refine Kd.C_drew ?_))); (case side2 => exact (Kd.R_reads' HO317.out).2.1); (case side3 => repeat (first | exact (Kd.R_reads' HO327.out).2.2 | (with_reducible refine Kd.C_alloc ?_ _) | (with_reducible refine Kd.C_drewN ?_ _) | (with_reducible refine Kd.C_drew ?_))); (case side4 => exact (Kd.R_reads' HO327.out).2.1); rintro e w' ⟨rfl, ⟨nd, rfl⟩⟩; refine ⟨_, rfl, ?_⟩) | ((with_reducible refine gate_callee (f := 14) rfl ?_); refine goesL_ (some 31) rfl rfl Tryd.func14 (by kernel_rfl) rfl #[.slice Ao21 t315.length co21, .int .i64 1] rfl (by (try simp only [List.map_toArray, List.map_cons, List.map_nil]); first | done | rfl | (simp only [List.length_drop, List.length_take]; rfl)) ?_; (with_reducible refine (laws_markByteS.calls k (fun k_ => some k_ = (.slice Ao21 t315.length co21 : Value).ownBlock) (.slice Ao21 t315.length co21) t315 1 t329 t330 w _ ?side1 ?side2 A12.out).mono ?_); (case side1 => repeat (first | (with_reducible first | exact HB.out | apply below_alloc | apply pw_below_drewN | apply below_drew1 | refine below_set ?_ GE314.out | refine below_set ?_ GE323.out) | exact HB.out)); (case side2 => exact Kd.R_tight rfl HO317.out); rintro e w31 ⟨rfl, hy0, hb, hkp⟩; refine ⟨_, rfl, ?_⟩; have n0_ := Aside0.mk (Kd.R_mono (ok' := fun k_ => some k_ ≠ (.slice Ao21 t315.length co21 : Value).ownBlock ∧ some k_ ≠ (.slice Ao30 t325.length co30 : Value).ownBlock) (Kd.R_keptB (HO308.out) hkp (fun k_ hk_ hs_ => (hk_.1.2) hs_)) (fun k_ hk_ => ⟨hk_.1.1.2, hk_.1.2⟩)); have n1_ := Aside0.mk (Kd.R_mono (ok' := fun k_ => some k_ ≠ (.slice Ao26 t320.length co26 : Value).ownBlock) (Kd.R_keptB ((Kd.R_apart' HO313.out (Kd.R_typed HO317.out) (by decide))) hkp (fun k_ hk_ hs_ => (hk_.2) hs_)) (fun k_ hk_ => hk_.1.1.2)); have n2_ := Aside0.mk (blk_kept (by (with_reducible repeat (first | refine blk_drewN ?_ _ | refine blk_drew ?_ | refine blk_alloc ?_ _)); exact BK314.out) hkp (fun hs_ => (fun e_ => (Kd.R_ne HO317.out BK314.out (by decide)) e_) hs_)); have n3_ := Aside0.mk (Kd.R_reok rfl hy0 (fun k_ e_ => HO317.out.1 k_ e_)); have n4_ := Aside0.mk (Kd.R_mono (ok' := fun k_ => some k_ ≠ (.slice Ao19 t311.length co19 : Value).ownBlock) (Kd.R_keptB ((Kd.R_apart' HO322.out (Kd.R_typed HO317.out) (by decide))) hkp (fun k_ hk_ hs_ => (hk_.2) hs_)) (fun k_ hk_ => hk_.1.1.2)); have n5_ := Aside0.mk (blk_kept (by (with_reducible repeat (first | refine blk_drewN ?_ _ | refine blk_drew ?_ | refine blk_alloc ?_ _)); exact BK323.out) hkp (fun hs_ => (fun e_ => (Kd.R_ne HO317.out BK323.out (by decide)) e_) hs_)); have n6_ := Aside0.mk (Kd.R_mono (ok' := fun k_ => some k_ ≠ (.slice Ao15 t306.length co15 : Value).ownBlock ∧ some k_ ≠ (.slice Ao21 t315.length co21 : Value).ownBlock) (Kd.R_keptB (HO327.out) hkp (fun k_ hk_ hs_ => (hk_.2) hs_)) (fun k_ hk_ => ⟨hk_.1.1.2, hk_.1.2⟩)); have n7_ := Aside0.mk (hb); clear HO308; clear HO313; clear BK314; clear HO317; clear HO322; clear BK323; clear HO327; clear HB; have HO308 := n0_; have HO313 := n1_; have BK314 := n2_; have HO317 := n3_; have HO322 := n4_; have BK323 := n5_; have HO327 := n6_; have HB := n7_; clear n0_ n1_ n2_ n3_ n4_ n5_ n6_ n7_; (try clear hb); (try clear hkp); (try clear hy0)))
        (try simp only [Act.put, List.setIfInBounds_toArray, List.set_cons_zero, List.set_cons_succ])
        go_cut [39] (fun v39 wc => ∃ (kq : Nat) (x39_12 : Bool), v39 = .bool x39_12 ∧ Aside0 (laws_FnExactDecodeDescriptor.j0 kq l0 x39_12 t309 t310 t311 t318 t319 t320 = some r) ∧ Aside0 (kq ≤ k) ∧ Aside0 (Kd.R k67 67 wc w.heap.size (fun k_ => some k_ ≠ ((.slice Ao26 t320.length co26) : Value).ownBlock) (.slice Ao19 t311.length co19) t311) ∧ Aside0 (Kd.R k67 67 wc w.heap.size (fun k_ => some k_ ≠ ((.slice Ao19 t311.length co19) : Value).ownBlock) (.slice Ao26 t320.length co26) t320) ∧ Aside0 (wc.heap[gb314]? = some (.cells #[.bool t309, .int .i64 t310, (.slice Ao19 t311.length co19)] 45 (0, 0))) ∧ Aside0 (wc.heap[gb323]? = some (.cells #[.bool t318, .int .i64 t319, (.slice Ao26 t320.length co26)] 45 (0, 0))) ∧ Aside0 (Below w.heap.size w wc))
        case first =>
          have H := HC13.out
          clear HC13
          by_cases c32 : t329 < 0
          · rw [if_pos c32] at H
            have c32b0 : decide (t329 < 0) = true := decide_eq_true c32
            clear c32
            (first | rw [c32b0] | (simp only [i64_w, i32_w]; rw [c32b0]) | skip)
            have H' := Aside0.mk H
            clear H
            go_wp2
            go_meet
            case rel => exact ⟨_, (true), (by first | rfl | (simp; done) | (simp [*]; done)), H', ⟨by first | omega | exact Nat.le_refl _⟩, ⟨by (with_reducible repeat (first | apply Kd.R_alloc | apply Kd.R_drewN | apply Kd.R_drew)); exact HO313.out⟩, ⟨by (with_reducible repeat (first | apply Kd.R_alloc | apply Kd.R_drewN | apply Kd.R_drew)); exact HO322.out⟩, ⟨by (with_reducible repeat (first | refine blk_drewN ?_ _ | refine blk_drew ?_ | refine blk_alloc ?_ _)); exact BK314.out⟩, ⟨by (with_reducible repeat (first | refine blk_drewN ?_ _ | refine blk_drew ?_ | refine blk_alloc ?_ _)); exact BK323.out⟩, ⟨by repeat (first | (with_reducible first | exact HB.out | apply below_alloc | apply pw_below_drewN | apply below_drew1 | refine below_set ?_ GE314.out | refine below_set ?_ GE323.out) | exact HB.out)⟩⟩
          · rw [if_neg c32] at H
            have c32b0 : decide (t329 < 0) = false := decide_eq_false c32
            clear c32
            (first | rw [c32b0] | (simp only [i64_w, i32_w]; rw [c32b0]) | skip)
            replace H := Option.bind_eq_some_iff.mp H
            obtain ⟨t331, A330, H⟩ := H
            replace H : (laws_FnExactDecodeDescriptor.j0 k l0 (!t331) t309 t310 t311 t318 t319 t320) = some r := H
            have A33 := Aside0.mk A330
            clear A330
            have H' := Aside0.mk H
            clear H
            have hnb34 := NB323_314.out
            have hnc34 := NB314_323.out
            have hcz35_0 : w31.cell? ⟨gb323, 0, none⟩ = some (.bool t318) := (blk_cell BK323.out 0).trans rfl
            have hcz35_1 : w31.cell? ⟨gb323, 1, none⟩ = some (.int .i64 t319) := (blk_cell BK323.out 1).trans rfl
            have hcz35_2 : w31.cell? ⟨gb323, 2, none⟩ = some (.slice Ao26 t320.length co26) := (blk_cell BK323.out 2).trans rfl
            have hfz35_0 := blk_frozen BK323.out 0
            have hfz35_1 := blk_frozen BK323.out 1
            have hfz35_2 := blk_frozen BK323.out 2
            have hcz36_0 : w31.cell? ⟨gb314, 0, none⟩ = some (.bool t309) := (blk_cell BK314.out 0).trans rfl
            have hcz36_1 : w31.cell? ⟨gb314, 1, none⟩ = some (.int .i64 t310) := (blk_cell BK314.out 1).trans rfl
            have hcz36_2 : w31.cell? ⟨gb314, 2, none⟩ = some (.slice Ao19 t311.length co19) := (blk_cell BK314.out 2).trans rfl
            have hfz36_0 := blk_frozen BK314.out 0
            have hfz36_1 := blk_frozen BK314.out 1
            have hfz36_2 := blk_frozen BK314.out 2
            go_wp2_with (first | (go_at_call 19; (with_reducible refine (laws_eqDescriptorResult.calls k t318 t319 _ _ t320 t309 t310 _ _ t311 t331 _ ?side1 ?side2 ?side3 ?side4 A33.out).mono ?_); (case side1 => repeat (first | exact (Kd.R_reads' HO322.out).2.2 | (with_reducible refine Kd.C_alloc ?_ _) | (with_reducible refine Kd.C_drewN ?_ _) | (with_reducible refine Kd.C_drew ?_))); (case side2 => exact (Kd.R_reads' HO322.out).2.1); (case side3 => repeat (first | exact (Kd.R_reads' HO313.out).2.2 | (with_reducible refine Kd.C_alloc ?_ _) | (with_reducible refine Kd.C_drewN ?_ _) | (with_reducible refine Kd.C_drew ?_))); (case side4 => exact (Kd.R_reads' HO313.out).2.1); rintro e w37 ⟨rfl, hb⟩; have n0_ := Aside0.mk (Kd.R_below (by (with_reducible repeat (first | apply Kd.R_alloc | apply Kd.R_drewN | apply Kd.R_drew)); exact HO308.out) hb); have n1_ := Aside0.mk (Kd.R_below (by (with_reducible repeat (first | apply Kd.R_alloc | apply Kd.R_drewN | apply Kd.R_drew)); exact HO313.out) hb); have n2_ := Aside0.mk (Kd.R_below (by (with_reducible repeat (first | apply Kd.R_alloc | apply Kd.R_drewN | apply Kd.R_drew)); exact HO317.out) hb); have n3_ := Aside0.mk (Kd.R_below (by (with_reducible repeat (first | apply Kd.R_alloc | apply Kd.R_drewN | apply Kd.R_drew)); exact HO322.out) hb); have n4_ := Aside0.mk (Kd.R_below (by (with_reducible repeat (first | apply Kd.R_alloc | apply Kd.R_drewN | apply Kd.R_drew)); exact HO327.out) hb); have n5_ := Aside0.mk (blk_below (g := gb314) (o := .cells #[.bool t309, .int .i64 t310, .slice Ao19 t311.length co19] 45 (0, 0)) (by (with_reducible repeat (first | refine blk_drewN ?_ _ | refine blk_drew ?_ | refine blk_alloc ?_ _)); exact BK314.out) hb); have n6_ := Aside0.mk (blk_below (g := gb323) (o := .cells #[.bool t318, .int .i64 t319, .slice Ao26 t320.length co26] 45 (0, 0)) (by (with_reducible repeat (first | refine blk_drewN ?_ _ | refine blk_drew ?_ | refine blk_alloc ?_ _)); exact BK323.out) hb); have n7_ := Aside0.mk (below_step (by repeat (first | (with_reducible first | exact HB.out | apply below_alloc | apply pw_below_drewN | apply below_drew1 | refine below_set ?_ GE314.out | refine below_set ?_ GE323.out) | exact HB.out)) hb); clear HO308; clear HO313; clear HO317; clear HO322; clear HO327; clear BK314; clear BK323; clear HB; have HO308 := n0_; have HO313 := n1_; have HO317 := n2_; have HO322 := n3_; have HO327 := n4_; have BK314 := n5_; have BK323 := n6_; have HB := n7_; clear n0_ n1_ n2_ n3_ n4_ n5_ n6_ n7_; (try clear hb); (try clear hb2); (try clear hk); (try clear hi)))
            go_meet
            case rel => exact ⟨_, (!t331), (by first | rfl | (simp; done) | (simp [*]; done)), H', ⟨by first | omega | exact Nat.le_refl _⟩, ⟨by (with_reducible repeat (first | apply Kd.R_alloc | apply Kd.R_drewN | apply Kd.R_drew)); exact HO313.out⟩, ⟨by (with_reducible repeat (first | apply Kd.R_alloc | apply Kd.R_drewN | apply Kd.R_drew)); exact HO322.out⟩, ⟨by (with_reducible repeat (first | refine blk_drewN ?_ _ | refine blk_drew ?_ | refine blk_alloc ?_ _)); exact BK314.out⟩, ⟨by (with_reducible repeat (first | refine blk_drewN ?_ _ | refine blk_drew ?_ | refine blk_alloc ?_ _)); exact BK323.out⟩, ⟨by repeat (first | (with_reducible first | exact HB.out | apply below_alloc | apply pw_below_drewN | apply below_drew1 | refine below_set ?_ GE314.out | refine below_set ?_ GE323.out) | exact HB.out)⟩⟩
        case rest =>
          clear HC13
          try clear c1
          try clear c2
          try clear c2b0
          try clear c2b1
          try clear p2
          try clear c3
          try clear c5
          try clear c7
          try clear c8
          try clear c10
          try clear c11
          try clear c14
          try clear c17
          try clear c18
          try clear c19
          try clear c24
          try clear c32
          try clear c32b0
          try clear c34
          try clear hcz18_0
          try clear hcz18_1
          try clear hcz18_2
          try clear hcz25_0
          try clear hcz25_1
          try clear hcz25_2
          try clear hcz27_0
          try clear hcz27_1
          try clear hcz27_2
          try clear hcz35_0
          try clear hcz35_1
          try clear hcz35_2
          try clear hcz36_0
          try clear hcz36_1
          try clear hcz36_2
          try clear hfz18_0
          try clear hfz18_1
          try clear hfz18_2
          try clear hfz25_0
          try clear hfz25_1
          try clear hfz25_2
          try clear hfz27_0
          try clear hfz27_1
          try clear hfz27_2
          try clear hfz35_0
          try clear hfz35_1
          try clear hfz35_2
          try clear hfz36_0
          try clear hfz36_1
          try clear hfz36_2
          obtain ⟨kq, x39_12, rfl, HA, HJ12, HO_315002, HO_324002, BK314, BK323, HB⟩ := hcut
          cases kq with
          | zero => exact absurd HA.out (by simp [laws_FnExactDecodeDescriptor.j0])
          | succ kj12 =>
            have H := HA.out
            clear HA
            simp only [laws_FnExactDecodeDescriptor.j0] at H
            by_cases c38 : x39_12 = true
            · subst c38
              have H1 : (some false) = some r := by rw [if_pos rfl] at H; exact H
              clear H
              have H := H1
              clear H1
              exact absurd ((Option.some.inj H).trans hrt.out) (by simp)
            · replace c38 := Bool.eq_false_iff.mpr c38
              subst c38
              have H1 : ((laws_markDescriptorResult.f kj12 t318 t319 t320 1).bind fun bt332 => ((laws_heldDescriptorResult.f kj12 t318 t319 bt332.2 1).bind fun t334 => (if t334 < 0 then (some false) else (if t334 = bt332.1 then ((laws_toByteS.f kj12 l0).bind fun t335 => ((impl_DecodeDescriptor.f kj12 t335).bind fun bt338 => ((laws_eqDescriptorResult.f kj12 bt338.1 bt338.2.1 bt338.2.2 t309 t310 t311).bind fun t344 => (if t344 = true then ((laws_heldDescriptorResult.f kj12 t318 t319 bt332.2 1).bind fun t345 => (if t345 < 0 then (some false) else (if t345 = bt332.1 then (some true) else (some false)))) else (some false))))) else (some false))))) = some r := by rw [if_neg (show ¬ (false = true) by decide)] at H; exact H
              clear H
              have H := H1
              clear H1
              replace H := Option.bind_eq_some_iff.mp H
              obtain ⟨⟨t332, t333⟩, A390, H⟩ := H
              replace H : ((laws_heldDescriptorResult.f kj12 t318 t319 t333 1).bind fun t334 => (if t334 < 0 then (some false) else (if t334 = t332 then ((laws_toByteS.f kj12 l0).bind fun t335 => ((impl_DecodeDescriptor.f kj12 t335).bind fun bt338 => ((laws_eqDescriptorResult.f kj12 bt338.1 bt338.2.1 bt338.2.2 t309 t310 t311).bind fun t344 => (if t344 = true then ((laws_heldDescriptorResult.f kj12 t318 t319 t333 1).bind fun t345 => (if t345 < 0 then (some false) else (if t345 = t332 then (some true) else (some false)))) else (some false))))) else (some false)))) = some r := H
              have A39 := Aside0.mk A390
              clear A390
              replace H := Option.bind_eq_some_iff.mp H
              obtain ⟨t334, A400, H⟩ := H
              replace H : (if t334 < 0 then (some false) else (if t334 = t332 then ((laws_toByteS.f kj12 l0).bind fun t335 => ((impl_DecodeDescriptor.f kj12 t335).bind fun bt338 => ((laws_eqDescriptorResult.f kj12 bt338.1 bt338.2.1 bt338.2.2 t309 t310 t311).bind fun t344 => (if t344 = true then ((laws_heldDescriptorResult.f kj12 t318 t319 t333 1).bind fun t345 => (if t345 < 0 then (some false) else (if t345 = t332 then (some true) else (some false)))) else (some false))))) else (some false))) = some r := H
              have A40 := Aside0.mk A400
              clear A400
              by_cases c41 : t334 < 0
              · rw [if_pos c41] at H
                have c41b0 : decide (t334 < 0) = true := decide_eq_true c41
                clear c41
                exact absurd ((Option.some.inj H).trans hrt.out) (by simp)
              · rw [if_neg c41] at H
                have c41b0 : decide (t334 < 0) = false := decide_eq_false c41
                clear c41
                by_cases c42 : t334 = t332
                · rw [if_pos c42] at H
                  have c42b0 : (t334 == t332) = true := beq_iff_eq.mpr c42
                  have c42b1 : (t334 != t332) = false := bne_eq_false_iff_eq.mpr c42
                  clear c42
                  replace H := Option.bind_eq_some_iff.mp H
                  obtain ⟨t335, A430, H⟩ := H
                  replace H : ((impl_DecodeDescriptor.f kj12 t335).bind fun bt338 => ((laws_eqDescriptorResult.f kj12 bt338.1 bt338.2.1 bt338.2.2 t309 t310 t311).bind fun t344 => (if t344 = true then ((laws_heldDescriptorResult.f kj12 t318 t319 t333 1).bind fun t345 => (if t345 < 0 then (some false) else (if t345 = t332 then (some true) else (some false)))) else (some false)))) = some r := H
                  have A43 := Aside0.mk A430
                  clear A430
                  replace H := Option.bind_eq_some_iff.mp H
                  obtain ⟨⟨t338, t339, t340⟩, A440, H⟩ := H
                  replace H : ((laws_eqDescriptorResult.f kj12 t338 t339 t340 t309 t310 t311).bind fun t344 => (if t344 = true then ((laws_heldDescriptorResult.f kj12 t318 t319 t333 1).bind fun t345 => (if t345 < 0 then (some false) else (if t345 = t332 then (some true) else (some false)))) else (some false))) = some r := H
                  have A44 := Aside0.mk A440
                  clear A440
                  replace H := Option.bind_eq_some_iff.mp H
                  obtain ⟨t344, A450, H⟩ := H
                  replace H : (if t344 = true then ((laws_heldDescriptorResult.f kj12 t318 t319 t333 1).bind fun t345 => (if t345 < 0 then (some false) else (if t345 = t332 then (some true) else (some false)))) else (some false)) = some r := H
                  have A45 := Aside0.mk A450
                  clear A450
                  by_cases c46 : t344 = true
                  · subst c46
                    have H1 : ((laws_heldDescriptorResult.f kj12 t318 t319 t333 1).bind fun t345 => (if t345 < 0 then (some false) else (if t345 = t332 then (some true) else (some false)))) = some r := by rw [if_pos rfl] at H; exact H
                    clear H
                    have H := H1
                    clear H1
                    replace H := Option.bind_eq_some_iff.mp H
                    obtain ⟨t345, A470, H⟩ := H
                    replace H : (if t345 < 0 then (some false) else (if t345 = t332 then (some true) else (some false))) = some r := H
                    have A47 := Aside0.mk A470
                    clear A470
                    by_cases c48 : t345 < 0
                    · rw [if_pos c48] at H
                      have c48b0 : decide (t345 < 0) = true := decide_eq_true c48
                      clear c48
                      exact absurd ((Option.some.inj H).trans hrt.out) (by simp)
                    · rw [if_neg c48] at H
                      have c48b0 : decide (t345 < 0) = false := decide_eq_false c48
                      clear c48
                      by_cases c49 : t345 = t332
                      · rw [if_pos c49] at H
                        have c49b0 : (t345 == t332) = true := beq_iff_eq.mpr c49
                        have c49b1 : (t345 != t332) = false := bne_eq_false_iff_eq.mpr c49
                        clear c49
                        obtain rfl := Option.some.inj H
                        have hnb50 := NB323_314.out
                        have hnc50 := NB314_323.out
                        have hcz51_0 : wc.cell? ⟨gb323, 0, none⟩ = some (.bool t318) := (blk_cell BK323.out 0).trans rfl
                        have hcz51_1 : wc.cell? ⟨gb323, 1, none⟩ = some (.int .i64 t319) := (blk_cell BK323.out 1).trans rfl
                        have hcz51_2 : wc.cell? ⟨gb323, 2, none⟩ = some (.slice Ao26 t320.length co26) := (blk_cell BK323.out 2).trans rfl
                        have hfz51_0 := blk_frozen BK323.out 0
                        have hfz51_1 := blk_frozen BK323.out 1
                        have hfz51_2 := blk_frozen BK323.out 2
                        go_wp2_with (first | ((with_reducible refine gate_callee (f := 20) rfl ?_); refine goesL_ (some 42) rfl rfl Tryd.func20 (by kernel_rfl) rfl #[.agg #[.bool t318, .int .i64 t319, .slice Ao26 t320.length co26], .int .i64 1] rfl (by (try simp only [List.map_toArray, List.map_cons, List.map_nil]); first | done | rfl | (simp only [List.length_drop, List.length_take]; rfl)) ?_; (with_reducible refine (laws_markDescriptorResult.calls kj12 t318 t319 (fun k_ => some k_ = (.slice Ao26 t320.length co26 : Value).ownBlock) (.slice Ao26 t320.length co26) t320 1 t332 t333 w _ ?side1 ?side2 A39.out).mono ?_); (case side1 => repeat (first | (with_reducible first | exact HB.out | apply below_alloc | apply pw_below_drewN | apply below_drew1 | refine below_set ?_ GE314.out | refine below_set ?_ GE323.out) | exact HB.out)); (case side2 => exact Kd.R_tight rfl HO_324002.out); rintro e w52 ⟨rfl, hy0, hb, hkp⟩; refine ⟨_, rfl, ?_⟩; have n0_ := Aside0.mk (Kd.R_mono (ok' := fun k_ => some k_ ≠ (.slice Ao26 t320.length co26 : Value).ownBlock) (Kd.R_keptB (HO_315002.out) hkp (fun k_ hk_ hs_ => (hk_) hs_)) (fun k_ hk_ => hk_.1)); have n1_ := Aside0.mk (Kd.R_reok rfl hy0 (fun k_ e_ => HO_324002.out.1 k_ e_)); have n2_ := Aside0.mk (blk_kept (by (with_reducible repeat (first | refine blk_drewN ?_ _ | refine blk_drew ?_ | refine blk_alloc ?_ _)); exact BK314.out) hkp (fun hs_ => (fun e_ => (Kd.R_ne HO_324002.out BK314.out (by decide)) e_) hs_)); have n3_ := Aside0.mk (blk_kept (by (with_reducible repeat (first | refine blk_drewN ?_ _ | refine blk_drew ?_ | refine blk_alloc ?_ _)); exact BK323.out) hkp (fun hs_ => (fun e_ => (Kd.R_ne HO_324002.out BK323.out (by decide)) e_) hs_)); have n4_ := Aside0.mk (hb); clear HO_315002; clear HO_324002; clear BK314; clear BK323; clear HB; have HO_315002 := n0_; have HO_324002 := n1_; have BK314 := n2_; have BK323 := n3_; have HB := n4_; clear n0_ n1_ n2_ n3_ n4_; (try clear hb); (try clear hkp); (try clear hy0); have hcz53_0 : w52.cell? ⟨gb323, 0, none⟩ = some (.bool t318) := (blk_cell BK323.out 0).trans rfl; have hcz53_1 : w52.cell? ⟨gb323, 1, none⟩ = some (.int .i64 t319) := (blk_cell BK323.out 1).trans rfl; have hcz53_2 : w52.cell? ⟨gb323, 2, none⟩ = some (.slice Ao26 t320.length co26) := (blk_cell BK323.out 2).trans rfl; have hfz53_0 := blk_frozen BK323.out 0; have hfz53_1 := blk_frozen BK323.out 1; have hfz53_2 := blk_frozen BK323.out 2) | ((with_reducible refine gate_callee (f := 21) rfl ?_); refine goesL_ (some 45) rfl rfl Tryd.func21 (by kernel_rfl) rfl #[.agg #[.bool t318, .int .i64 t319, .slice Ao26 t333.length co26], .int .i64 1] rfl (by (try simp only [List.map_toArray, List.map_cons, List.map_nil]); first | done | (rw [show t333.length = t320.length from (Kd.R_reads' HO_324002.out).1.symm] <;> rfl) | rfl | (simp only [List.length_drop, List.length_take]; rfl)) ?_; (with_reducible refine (laws_heldDescriptorResult.calls kj12 t318 t319 _ _ t333 1 t334 _ ?side1 ?side2 A40.out).mono ?_); (case side1 => repeat (first | exact (Kd.R_reads' HO_324002.out).2.2 | (with_reducible refine Kd.C_alloc ?_ _) | (with_reducible refine Kd.C_drewN ?_ _) | (with_reducible refine Kd.C_drew ?_))); (case side2 => rw [show t333.length = t320.length from (Kd.R_reads' HO_324002.out).1.symm]; exact (Kd.R_reads' HO_324002.out).2.1); rintro e w54 ⟨rfl, hb⟩; refine ⟨_, rfl, ?_⟩; have n0_ := Aside0.mk (Kd.R_below (by (with_reducible repeat (first | apply Kd.R_alloc | apply Kd.R_drewN | apply Kd.R_drew)); exact HO_315002.out) hb); have n1_ := Aside0.mk (Kd.R_below (by (with_reducible repeat (first | apply Kd.R_alloc | apply Kd.R_drewN | apply Kd.R_drew)); exact HO_324002.out) hb); have n2_ := Aside0.mk (blk_below (g := gb314) (o := .cells #[.bool t309, .int .i64 t310, .slice Ao19 t311.length co19] 45 (0, 0)) (by (with_reducible repeat (first | refine blk_drewN ?_ _ | refine blk_drew ?_ | refine blk_alloc ?_ _)); exact BK314.out) hb); have n3_ := Aside0.mk (blk_below (g := gb323) (o := .cells #[.bool t318, .int .i64 t319, .slice Ao26 t320.length co26] 45 (0, 0)) (by (with_reducible repeat (first | refine blk_drewN ?_ _ | refine blk_drew ?_ | refine blk_alloc ?_ _)); exact BK323.out) hb); have n4_ := Aside0.mk (below_step (by repeat (first | (with_reducible first | exact HB.out | apply below_alloc | apply pw_below_drewN | apply below_drew1 | refine below_set ?_ GE314.out | refine below_set ?_ GE323.out) | exact HB.out)) hb); clear HO_315002; clear HO_324002; clear BK314; clear BK323; clear HB; have HO_315002 := n0_; have HO_324002 := n1_; have BK314 := n2_; have BK323 := n3_; have HB := n4_; clear n0_ n1_ n2_ n3_ n4_; (try clear hb); (try clear hb2); (try clear hk); (try clear hi)) | ((with_reducible refine gate_callee (f := 7) rfl ?_); refine goesL_ (some 52) rfl rfl Tryd.func7 (by kernel_rfl) rfl #[.slice A0 l0.length c0] rfl (by (try simp only [List.map_toArray, List.map_cons, List.map_nil]); first | done | rfl | (simp only [List.length_drop, List.length_take]; rfl)) ?_; (with_reducible refine (laws_toByteS.calls kj12 _ _ l0 t335 _ ?side1 ?side2 A43.out).mono ?_); (case side1 => repeat (first | exact (Kd.C_below HR0.out HB.out) | (with_reducible refine Kd.C_alloc ?_ _) | (with_reducible refine Kd.C_drewN ?_ _) | (with_reducible refine Kd.C_drew ?_))); (case side2 => exact HC0.out); rintro e w55 ⟨v336, rfl, ho0, hb⟩; refine ⟨_, rfl, ?_⟩; have n0_ := Aside0.mk (Kd.R_below (by (with_reducible repeat (first | apply Kd.R_alloc | apply Kd.R_drewN | apply Kd.R_drew)); exact HO_315002.out) hb); have n1_ := Aside0.mk (Kd.R_below (by (with_reducible repeat (first | apply Kd.R_alloc | apply Kd.R_drewN | apply Kd.R_drew)); exact HO_324002.out) hb); have n2_ := Aside0.mk (Kd.R_lower ho0 (below_size (by repeat (first | (with_reducible first | exact HB.out | apply below_alloc | apply pw_below_drewN | apply below_drew1 | refine below_set ?_ GE314.out | refine below_set ?_ GE323.out) | exact HB.out)))); have n3_ := Aside0.mk (blk_below (g := gb314) (o := .cells #[.bool t309, .int .i64 t310, .slice Ao19 t311.length co19] 45 (0, 0)) (by (with_reducible repeat (first | refine blk_drewN ?_ _ | refine blk_drew ?_ | refine blk_alloc ?_ _)); exact BK314.out) hb); have n4_ := Aside0.mk (blk_below (g := gb323) (o := .cells #[.bool t318, .int .i64 t319, .slice Ao26 t320.length co26] 45 (0, 0)) (by (with_reducible repeat (first | refine blk_drewN ?_ _ | refine blk_drew ?_ | refine blk_alloc ?_ _)); exact BK323.out) hb); have n5_ := Aside0.mk (below_step (by repeat (first | (with_reducible first | exact HB.out | apply below_alloc | apply pw_below_drewN | apply below_drew1 | refine below_set ?_ GE314.out | refine below_set ?_ GE323.out) | exact HB.out)) hb); clear HO_315002; clear HO_324002; clear BK314; clear BK323; clear HB; have HO_315002 := n0_; have HO_324002 := n1_; have HO337 := n2_; have BK314 := n3_; have BK323 := n4_; have HB := n5_; clear n0_ n1_ n2_ n3_ n4_ n5_; (try clear hb); (try clear hb2); (try clear hk); (try clear hi); (try clear ho0); obtain ⟨Ao56, co56, eo56⟩ := Kd.R_slice HO337.out; subst eo56) | ((with_reducible refine gate_callee (f := 18) rfl ?_); refine goesL_ (some 53) rfl rfl Tryd.func18 (by kernel_rfl) rfl #[.slice Ao56 t335.length co56] rfl (by (try simp only [List.map_toArray, List.map_cons, List.map_nil]); first | done | rfl | (simp only [List.length_drop, List.length_take]; rfl)) ?_; (with_reducible refine (impl_DecodeDescriptor.calls kj12 _ _ t335 t338 t339 t340 _ ?side1 ?side2 A44.out (hG0.below (by repeat (first | (with_reducible first | exact HB.out | apply below_alloc | apply pw_below_drewN | apply below_drew1 | refine below_set ?_ GE314.out | refine below_set ?_ GE323.out) | exact HB.out)))).mono ?_); (case side1 => repeat (first | exact (Kd.R_reads' HO337.out).2.2 | (with_reducible refine Kd.C_alloc ?_ _) | (with_reducible refine Kd.C_drewN ?_ _) | (with_reducible refine Kd.C_drew ?_))); (case side2 => exact (Kd.R_reads' HO337.out).2.1); rintro e w57 ⟨v341, rfl, ho0, hb⟩; refine ⟨_, rfl, ?_⟩; have n0_ := Aside0.mk (Kd.R_elder' (by (with_reducible repeat (first | apply Kd.R_alloc | apply Kd.R_drewN | apply Kd.R_drew)); exact HO_315002.out) (Kd.R_base ho0) hb); have n1_ := Aside0.mk (Kd.R_elder' (by (with_reducible repeat (first | apply Kd.R_alloc | apply Kd.R_drewN | apply Kd.R_drew)); exact HO_324002.out) (Kd.R_base ho0) hb); have n2_ := Aside0.mk (Kd.R_below (by (with_reducible repeat (first | apply Kd.R_alloc | apply Kd.R_drewN | apply Kd.R_drew)); exact HO337.out) hb); have n3_ := Aside0.mk (Kd.R_lower (Kd.R_new' (Kd.R_new' ho0 (Kd.R_lt (by (with_reducible repeat (first | apply Kd.R_alloc | apply Kd.R_drewN | apply Kd.R_drew)); exact HO_315002.out))) (Kd.R_lt (by (with_reducible repeat (first | apply Kd.R_alloc | apply Kd.R_drewN | apply Kd.R_drew)); exact HO_324002.out))) (below_size (by repeat (first | (with_reducible first | exact HB.out | apply below_alloc | apply pw_below_drewN | apply below_drew1 | refine below_set ?_ GE314.out | refine below_set ?_ GE323.out) | exact HB.out)))); have n4_ := Aside0.mk (blk_below (g := gb314) (o := .cells #[.bool t309, .int .i64 t310, .slice Ao19 t311.length co19] 45 (0, 0)) (by (with_reducible repeat (first | refine blk_drewN ?_ _ | refine blk_drew ?_ | refine blk_alloc ?_ _)); exact BK314.out) hb); have n5_ := Aside0.mk (blk_below (g := gb323) (o := .cells #[.bool t318, .int .i64 t319, .slice Ao26 t320.length co26] 45 (0, 0)) (by (with_reducible repeat (first | refine blk_drewN ?_ _ | refine blk_drew ?_ | refine blk_alloc ?_ _)); exact BK323.out) hb); have n6_ := Aside0.mk (below_step (by repeat (first | (with_reducible first | exact HB.out | apply below_alloc | apply pw_below_drewN | apply below_drew1 | refine below_set ?_ GE314.out | refine below_set ?_ GE323.out) | exact HB.out)) hb); clear HO_315002; clear HO_324002; clear HO337; clear BK314; clear BK323; clear HB; have HO_315002 := n0_; have HO_324002 := n1_; have HO337 := n2_; have HO342 := n3_; have BK314 := n4_; have BK323 := n5_; have HB := n6_; clear n0_ n1_ n2_ n3_ n4_ n5_ n6_; (try clear hb); (try clear hb2); (try clear hk); (try clear hi); (try clear ho0)) | ((with_reducible refine gate_dst (N := 9) rfl ?_); refine box_event ?hg (N := 9) ?hd (cs := #[.bool false, .int .i64 0, .slice none 0 0]) (t := 45) ?hr ?_; (case hd => rfl); (case hg => rfl); (case hr => first | (go_simp; done) | (go_simp; rfl)); intro gb343 hg w58 hbox hb; have n0_ := Aside0.mk (Kd.R_below (by (with_reducible repeat (first | apply Kd.R_alloc | apply Kd.R_drewN | apply Kd.R_drew)); exact HO_315002.out) hb); have n1_ := Aside0.mk (Kd.R_below (by (with_reducible repeat (first | apply Kd.R_alloc | apply Kd.R_drewN | apply Kd.R_drew)); exact HO_324002.out) hb); have n2_ := Aside0.mk (Kd.R_below (by (with_reducible repeat (first | apply Kd.R_alloc | apply Kd.R_drewN | apply Kd.R_drew)); exact HO337.out) hb); have n3_ := Aside0.mk (Kd.R_below (by (with_reducible repeat (first | apply Kd.R_alloc | apply Kd.R_drewN | apply Kd.R_drew)); exact HO342.out) hb); have n4_ := Aside0.mk (blk_below (g := gb314) (o := .cells #[.bool t309, .int .i64 t310, .slice Ao19 t311.length co19] 45 (0, 0)) (by (with_reducible repeat (first | refine blk_drewN ?_ _ | refine blk_drew ?_ | refine blk_alloc ?_ _)); exact BK314.out) hb); have n5_ := Aside0.mk (blk_below (g := gb323) (o := .cells #[.bool t318, .int .i64 t319, .slice Ao26 t320.length co26] 45 (0, 0)) (by (with_reducible repeat (first | refine blk_drewN ?_ _ | refine blk_drew ?_ | refine blk_alloc ?_ _)); exact BK323.out) hb); have n6_ := Aside0.mk (below_step (by repeat (first | (with_reducible first | exact HB.out | apply below_alloc | apply pw_below_drewN | apply below_drew1 | refine below_set ?_ GE314.out | refine below_set ?_ GE323.out) | exact HB.out)) hb); have n7_ := Aside0.mk (hbox); have n8_ := Aside0.mk ((by rw [hg]; exact (below_size (by repeat (first | (with_reducible first | exact HB.out | apply below_alloc | apply pw_below_drewN | apply below_drew1 | refine below_set ?_ GE314.out | refine below_set ?_ GE323.out) | exact HB.out))) : w.heap.size ≤ gb343)); have n9_ := Aside0.mk ((by rw [hg]; exact (below_size (by repeat (first | (with_reducible first | exact HB.out | apply below_alloc | apply pw_below_drewN | apply below_drew1 | refine below_set ?_ GE314.out | refine below_set ?_ GE323.out) | exact HB.out))) : w.heap.size ≤ gb343)); have n10_ := Aside0.mk ((by rw [hg]; exact Nat.ne_of_lt (blk_lt (g := gb314) (o := .cells #[.bool t309, .int .i64 t310, .slice Ao19 t311.length co19] 45 (0, 0)) (by (with_reducible repeat (first | refine blk_drewN ?_ _ | refine blk_drew ?_ | refine blk_alloc ?_ _)); exact BK314.out)) : gb314 ≠ gb343)); have n11_ := Aside0.mk ((by rw [hg]; exact Nat.ne_of_gt (blk_lt (g := gb314) (o := .cells #[.bool t309, .int .i64 t310, .slice Ao19 t311.length co19] 45 (0, 0)) (by (with_reducible repeat (first | refine blk_drewN ?_ _ | refine blk_drew ?_ | refine blk_alloc ?_ _)); exact BK314.out)) : gb343 ≠ gb314)); have n12_ := Aside0.mk ((by rw [hg]; exact Nat.ne_of_lt (blk_lt (g := gb323) (o := .cells #[.bool t318, .int .i64 t319, .slice Ao26 t320.length co26] 45 (0, 0)) (by (with_reducible repeat (first | refine blk_drewN ?_ _ | refine blk_drew ?_ | refine blk_alloc ?_ _)); exact BK323.out)) : gb323 ≠ gb343)); have n13_ := Aside0.mk ((by rw [hg]; exact Nat.ne_of_gt (blk_lt (g := gb323) (o := .cells #[.bool t318, .int .i64 t319, .slice Ao26 t320.length co26] 45 (0, 0)) (by (with_reducible repeat (first | refine blk_drewN ?_ _ | refine blk_drew ?_ | refine blk_alloc ?_ _)); exact BK323.out)) : gb343 ≠ gb323)); clear HO_315002; clear HO_324002; clear HO337; clear HO342; clear BK314; clear BK323; clear HB; have HO_315002 := n0_; have HO_324002 := n1_; have HO337 := n2_; have HO342 := n3_; have BK314 := n4_; have BK323 := n5_; have HB := n6_; have BK343 := n7_; have GW343 := n8_; have GE343 := n9_; have NB314_343 := n10_; have NB343_314 := n11_; have NB323_343 := n12_; have NB343_323 := n13_; clear n0_ n1_ n2_ n3_ n4_ n5_ n6_ n7_ n8_ n9_ n10_ n11_ n12_ n13_; clear hb hbox hg; have hnb59 := NB343_314.out; have hnc59 := NB314_343.out; have hnb60 := NB343_323.out; have hnc60 := NB323_343.out; have hcz61_0 : w58.cell? ⟨gb343, 0, none⟩ = some (.bool false) := (blk_cell BK343.out 0).trans rfl; have hcz61_1 : w58.cell? ⟨gb343, 1, none⟩ = some (.int .i64 0) := (blk_cell BK343.out 1).trans rfl; have hcz61_2 : w58.cell? ⟨gb343, 2, none⟩ = some (.slice none 0 0) := (blk_cell BK343.out 2).trans rfl; have hfz61_0 := blk_frozen BK343.out 0; have hfz61_1 := blk_frozen BK343.out 1; have hfz61_2 := blk_frozen BK343.out 2; obtain ⟨Ao62, co62, eo62⟩ := Kd.R_slice HO342.out; subst eo62; have hcz63_0 : w58.cell? ⟨gb314, 0, none⟩ = some (.bool t309) := (blk_cell BK314.out 0).trans rfl; have hcz63_1 : w58.cell? ⟨gb314, 1, none⟩ = some (.int .i64 t310) := (blk_cell BK314.out 1).trans rfl; have hcz63_2 : w58.cell? ⟨gb314, 2, none⟩ = some (.slice Ao19 t311.length co19) := (blk_cell BK314.out 2).trans rfl; have hfz63_0 := blk_frozen BK314.out 0; have hfz63_1 := blk_frozen BK314.out 1; have hfz63_2 := blk_frozen BK314.out 2) | ((with_reducible refine gate_callee (f := 19) rfl ?_); refine goesL_ (some 56) rfl rfl Tryd.func19 (by kernel_rfl) rfl #[.agg #[.bool t338, .int .i64 t339, .slice Ao62 t340.length co62], .agg #[.bool t309, .int .i64 t310, .slice Ao19 t311.length co19]] rfl (by (try simp only [List.map_toArray, List.map_cons, List.map_nil]); first | done | rfl | (simp only [List.length_drop, List.length_take]; rfl)) ?_; (with_reducible refine (laws_eqDescriptorResult.calls kj12 t338 t339 _ _ t340 t309 t310 _ _ t311 true _ ?side1 ?side2 ?side3 ?side4 A45.out).mono ?_); (case side1 => refine (Kd.R_reads' (e := 67) (base := w.heap.size) (ok := fun k_ => ((True ∧ some k_ ≠ (.slice Ao19 t311.length co19 : Value).ownBlock) ∧ some k_ ≠ (.slice Ao26 t320.length co26 : Value).ownBlock)) (n := t340.length) (c := co62) ?_).2.2; exact (by (with_reducible repeat (first | apply Kd.R_alloc | apply Kd.R_drewN | apply Kd.R_drew)); exact (Kd.R_mono (Kd.R_far (p := ⟨gb343, 2, none⟩) (Kd.R_far (p := ⟨gb343, 1, none⟩) (Kd.R_far (p := ⟨gb343, 0, none⟩) (Kd.R_types HO342.out BK343.out (by decide)) (fun _ hk => hk.2) (.bool t338)) (fun _ hk => hk.2) (.int .i64 t339)) (fun _ hk => hk.2) (.slice Ao62 t340.length co62)) (fun _ h_ => h_.1)))); (case side2 => exact (Kd.R_reads' HO342.out).2.1); (case side3 => refine (Kd.R_reads' (e := 67) (base := w.heap.size) (ok := fun k_ => (some k_ ≠ (.slice Ao26 t320.length co26 : Value).ownBlock ∧ some k_ ≠ (.slice Ao62 t340.length co62 : Value).ownBlock)) (n := t311.length) (c := co19) ?_).2.2; exact (by (with_reducible repeat (first | apply Kd.R_alloc | apply Kd.R_drewN | apply Kd.R_drew)); exact (Kd.R_mono (Kd.R_far (p := ⟨gb343, 2, none⟩) (Kd.R_far (p := ⟨gb343, 1, none⟩) (Kd.R_far (p := ⟨gb343, 0, none⟩) (Kd.R_types HO_315002.out BK343.out (by decide)) (fun _ hk => hk.2) (.bool t338)) (fun _ hk => hk.2) (.int .i64 t339)) (fun _ hk => hk.2) (.slice Ao62 t340.length co62)) (fun _ h_ => h_.1)))); (case side4 => exact (Kd.R_reads' HO_315002.out).2.1); rintro e w64 ⟨rfl, hb⟩; refine ⟨_, rfl, ?_⟩; have n0_ := Aside0.mk (Kd.R_below (by (with_reducible repeat (first | apply Kd.R_alloc | apply Kd.R_drewN | apply Kd.R_drew)); exact (Kd.R_mono (Kd.R_far (p := ⟨gb343, 2, none⟩) (Kd.R_far (p := ⟨gb343, 1, none⟩) (Kd.R_far (p := ⟨gb343, 0, none⟩) (Kd.R_types HO_315002.out BK343.out (by decide)) (fun _ hk => hk.2) (.bool t338)) (fun _ hk => hk.2) (.int .i64 t339)) (fun _ hk => hk.2) (.slice Ao62 t340.length co62)) (fun _ h_ => h_.1))) hb); have n1_ := Aside0.mk (Kd.R_below (by (with_reducible repeat (first | apply Kd.R_alloc | apply Kd.R_drewN | apply Kd.R_drew)); exact (Kd.R_mono (Kd.R_far (p := ⟨gb343, 2, none⟩) (Kd.R_far (p := ⟨gb343, 1, none⟩) (Kd.R_far (p := ⟨gb343, 0, none⟩) (Kd.R_types HO_324002.out BK343.out (by decide)) (fun _ hk => hk.2) (.bool t338)) (fun _ hk => hk.2) (.int .i64 t339)) (fun _ hk => hk.2) (.slice Ao62 t340.length co62)) (fun _ h_ => h_.1))) hb); have n2_ := Aside0.mk (Kd.R_below (by (with_reducible repeat (first | apply Kd.R_alloc | apply Kd.R_drewN | apply Kd.R_drew)); exact (Kd.R_mono (Kd.R_far (p := ⟨gb343, 2, none⟩) (Kd.R_far (p := ⟨gb343, 1, none⟩) (Kd.R_far (p := ⟨gb343, 0, none⟩) (Kd.R_types HO337.out BK343.out (by decide)) (fun _ hk => hk.2) (.bool t338)) (fun _ hk => hk.2) (.int .i64 t339)) (fun _ hk => hk.2) (.slice Ao62 t340.length co62)) (fun _ h_ => h_.1))) hb); have n3_ := Aside0.mk (Kd.R_below (by (with_reducible repeat (first | apply Kd.R_alloc | apply Kd.R_drewN | apply Kd.R_drew)); exact (Kd.R_mono (Kd.R_far (p := ⟨gb343, 2, none⟩) (Kd.R_far (p := ⟨gb343, 1, none⟩) (Kd.R_far (p := ⟨gb343, 0, none⟩) (Kd.R_types HO342.out BK343.out (by decide)) (fun _ hk => hk.2) (.bool t338)) (fun _ hk => hk.2) (.int .i64 t339)) (fun _ hk => hk.2) (.slice Ao62 t340.length co62)) (fun _ h_ => h_.1))) hb); have n4_ := Aside0.mk (blk_below (g := gb314) (o := .cells #[.bool t309, .int .i64 t310, .slice Ao19 t311.length co19] 45 (0, 0)) (by (with_reducible repeat (first | refine blk_drewN ?_ _ | refine blk_drew ?_ | refine blk_alloc ?_ _)); refine blk_far ?_ NB314_343.out _; (with_reducible repeat (first | refine blk_drewN ?_ _ | refine blk_drew ?_ | refine blk_alloc ?_ _)); refine blk_far ?_ NB314_343.out _; (with_reducible repeat (first | refine blk_drewN ?_ _ | refine blk_drew ?_ | refine blk_alloc ?_ _)); refine blk_far ?_ NB314_343.out _; (with_reducible repeat (first | refine blk_drewN ?_ _ | refine blk_drew ?_ | refine blk_alloc ?_ _)); exact BK314.out) hb); have n5_ := Aside0.mk (blk_below (g := gb323) (o := .cells #[.bool t318, .int .i64 t319, .slice Ao26 t320.length co26] 45 (0, 0)) (by (with_reducible repeat (first | refine blk_drewN ?_ _ | refine blk_drew ?_ | refine blk_alloc ?_ _)); refine blk_far ?_ NB323_343.out _; (with_reducible repeat (first | refine blk_drewN ?_ _ | refine blk_drew ?_ | refine blk_alloc ?_ _)); refine blk_far ?_ NB323_343.out _; (with_reducible repeat (first | refine blk_drewN ?_ _ | refine blk_drew ?_ | refine blk_alloc ?_ _)); refine blk_far ?_ NB323_343.out _; (with_reducible repeat (first | refine blk_drewN ?_ _ | refine blk_drew ?_ | refine blk_alloc ?_ _)); exact BK323.out) hb); have n6_ := Aside0.mk (blk_below (g := gb343) (o := .cells #[.bool t338, .int .i64 t339, .slice Ao62 t340.length co62] 45 (0, 0)) (by (with_reducible repeat (first | refine blk_drewN ?_ _ | refine blk_drew ?_ | refine blk_alloc ?_ _)); refine blk_put (cs := #[.bool t338, .int .i64 t339, .slice none 0 0]) ?_ 2 _ rfl; (with_reducible repeat (first | refine blk_drewN ?_ _ | refine blk_drew ?_ | refine blk_alloc ?_ _)); refine blk_put (cs := #[.bool t338, .int .i64 0, .slice none 0 0]) ?_ 1 _ rfl; (with_reducible repeat (first | refine blk_drewN ?_ _ | refine blk_drew ?_ | refine blk_alloc ?_ _)); refine blk_put (cs := #[.bool false, .int .i64 0, .slice none 0 0]) ?_ 0 _ rfl; (with_reducible repeat (first | refine blk_drewN ?_ _ | refine blk_drew ?_ | refine blk_alloc ?_ _)); exact BK343.out) hb); have n7_ := Aside0.mk (below_step (by repeat (first | (with_reducible first | exact HB.out | apply below_alloc | apply pw_below_drewN | apply below_drew1 | refine below_set ?_ GE314.out | refine below_set ?_ GE323.out | refine below_set ?_ GE343.out) | exact HB.out)) hb); clear HO_315002; clear HO_324002; clear HO337; clear HO342; clear BK314; clear BK323; clear BK343; clear HB; have HO_315002 := n0_; have HO_324002 := n1_; have HO337 := n2_; have HO342 := n3_; have BK314 := n4_; have BK323 := n5_; have BK343 := n6_; have HB := n7_; clear n0_ n1_ n2_ n3_ n4_ n5_ n6_ n7_; (try clear hb); (try clear hb2); (try clear hk); (try clear hi); have hcz65_0 : w64.cell? ⟨gb323, 0, none⟩ = some (.bool t318) := (blk_cell BK323.out 0).trans rfl; have hcz65_1 : w64.cell? ⟨gb323, 1, none⟩ = some (.int .i64 t319) := (blk_cell BK323.out 1).trans rfl; have hcz65_2 : w64.cell? ⟨gb323, 2, none⟩ = some (.slice Ao26 t320.length co26) := (blk_cell BK323.out 2).trans rfl; have hfz65_0 := blk_frozen BK323.out 0; have hfz65_1 := blk_frozen BK323.out 1; have hfz65_2 := blk_frozen BK323.out 2) | ((with_reducible refine gate_callee (f := 21) rfl ?_); refine goesL_ (some 60) rfl rfl Tryd.func21 (by kernel_rfl) rfl #[.agg #[.bool t318, .int .i64 t319, .slice Ao26 t333.length co26], .int .i64 1] rfl (by (try simp only [List.map_toArray, List.map_cons, List.map_nil]); first | done | (rw [show t333.length = t320.length from (Kd.R_reads' HO_324002.out).1.symm] <;> rfl) | rfl | (simp only [List.length_drop, List.length_take]; rfl)) ?_; (with_reducible refine (laws_heldDescriptorResult.calls kj12 t318 t319 _ _ t333 1 t345 _ ?side1 ?side2 A47.out).mono ?_); (case side1 => repeat (first | exact (Kd.R_reads' HO_324002.out).2.2 | (with_reducible refine Kd.C_alloc ?_ _) | (with_reducible refine Kd.C_drewN ?_ _) | (with_reducible refine Kd.C_drew ?_))); (case side2 => rw [show t333.length = t320.length from (Kd.R_reads' HO_324002.out).1.symm]; exact (Kd.R_reads' HO_324002.out).2.1); rintro e w66 ⟨rfl, hb⟩; refine ⟨_, rfl, ?_⟩; have n0_ := Aside0.mk (Kd.R_below (by (with_reducible repeat (first | apply Kd.R_alloc | apply Kd.R_drewN | apply Kd.R_drew)); exact HO_315002.out) hb); have n1_ := Aside0.mk (Kd.R_below (by (with_reducible repeat (first | apply Kd.R_alloc | apply Kd.R_drewN | apply Kd.R_drew)); exact HO_324002.out) hb); have n2_ := Aside0.mk (Kd.R_below (by (with_reducible repeat (first | apply Kd.R_alloc | apply Kd.R_drewN | apply Kd.R_drew)); exact HO337.out) hb); have n3_ := Aside0.mk (Kd.R_below (by (with_reducible repeat (first | apply Kd.R_alloc | apply Kd.R_drewN | apply Kd.R_drew)); exact HO342.out) hb); have n4_ := Aside0.mk (blk_below (g := gb314) (o := .cells #[.bool t309, .int .i64 t310, .slice Ao19 t311.length co19] 45 (0, 0)) (by (with_reducible repeat (first | refine blk_drewN ?_ _ | refine blk_drew ?_ | refine blk_alloc ?_ _)); exact BK314.out) hb); have n5_ := Aside0.mk (blk_below (g := gb323) (o := .cells #[.bool t318, .int .i64 t319, .slice Ao26 t320.length co26] 45 (0, 0)) (by (with_reducible repeat (first | refine blk_drewN ?_ _ | refine blk_drew ?_ | refine blk_alloc ?_ _)); exact BK323.out) hb); have n6_ := Aside0.mk (blk_below (g := gb343) (o := .cells #[.bool t338, .int .i64 t339, .slice Ao62 t340.length co62] 45 (0, 0)) (by (with_reducible repeat (first | refine blk_drewN ?_ _ | refine blk_drew ?_ | refine blk_alloc ?_ _)); exact BK343.out) hb); have n7_ := Aside0.mk (below_step (by repeat (first | (with_reducible first | exact HB.out | apply below_alloc | apply pw_below_drewN | apply below_drew1 | refine below_set ?_ GE314.out | refine below_set ?_ GE323.out | refine below_set ?_ GE343.out) | exact HB.out)) hb); clear HO_315002; clear HO_324002; clear HO337; clear HO342; clear BK314; clear BK323; clear BK343; clear HB; have HO_315002 := n0_; have HO_324002 := n1_; have HO337 := n2_; have HO342 := n3_; have BK314 := n4_; have BK323 := n5_; have BK343 := n6_; have HB := n7_; clear n0_ n1_ n2_ n3_ n4_ n5_ n6_ n7_; (try clear hb); (try clear hb2); (try clear hk); (try clear hi)))
                        go_ret
                        exact ⟨by first | rfl | (simp [errW_none, errW_some] <;> rfl) | (simp [*, errW_none, errW_some] <;> rfl), by repeat (first | (with_reducible first | exact HB.out | apply below_alloc | apply pw_below_drewN | apply below_drew1 | refine below_set ?_ GE314.out | refine below_set ?_ GE323.out | refine below_set ?_ GE343.out) | exact HB.out)⟩
                      · rw [if_neg c49] at H
                        have c49b0 : (t345 == t332) = false := beq_eq_false_iff_ne.mpr c49
                        have c49b1 : (t345 != t332) = true := bne_iff_ne.mpr c49
                        exact absurd ((Option.some.inj H).trans hrt.out) (by simp)
                  · replace c46 := Bool.eq_false_iff.mpr c46
                    subst c46
                    have H1 : (some false) = some r := by rw [if_neg (show ¬ (false = true) by decide)] at H; exact H
                    clear H
                    have H := H1
                    clear H1
                    exact absurd ((Option.some.inj H).trans hrt.out) (by simp)
                · rw [if_neg c42] at H
                  have c42b0 : (t334 == t332) = false := beq_eq_false_iff_ne.mpr c42
                  have c42b1 : (t334 != t332) = true := bne_iff_ne.mpr c42
                  exact absurd ((Option.some.inj H).trans hrt.out) (by simp)
      · replace c11 := Bool.eq_false_iff.mpr c11
        subst c11
        have H1 : (some false) = some r := by rw [if_neg (show ¬ (false = true) by decide)] at H; exact H
        clear H
        have H := H1
        clear H1
        exact absurd ((Option.some.inj H).trans hrt.out) (by simp)
    · replace c8 := Bool.eq_false_iff.mpr c8
      subst c8
      have H1 : (some false) = some r := by rw [if_neg (show ¬ (false = true) by decide)] at H; exact H
      clear H
      have H := H1
      clear H1
      exact absurd ((Option.some.inj H).trans hrt.out) (by simp)

/-- THE ONE PURE STATEMENT of laws_FnExactDecodeDescriptor: yours. -/
def laws_FnExactDecodeDescriptor.Pure : Prop := ∀ (l0 : List Int), l0.length ≤ maxLen → l0.length * 1 ≤ 140737488351232 → (∀ x ∈ l0, (Lit.int .u8 x).wf = true) → ∃ k, laws_FnExactDecodeDescriptor.f k l0 = some true
theorem laws_FnExactDecodeDescriptor.walk {bE : Addr} (P : laws_FnExactDecodeDescriptor.Pure) (a0 : Option Addr) (len0 cap0 : Nat) (z0 : List Int) (w : World) (hG0 : Erh.GlobE bE w) (w0 : (a0 = none ∧ len0 = 0 ∧ cap0 = 0 ∧ z0 = []) ∨ ∃ x, a0 = some x ∧ len0 ≤ cap0 ∧ cap0 ≤ maxLen ∧ z0.length = cap0 ∧ (∀ i, i < z0.length → w.cell? (x.add i) = some (.int .u8 (z0.getD i 0))) ∧ ∀ n ∈ z0, (Lit.int .u8 n).wf = true) (y0 : len0 * 1 ≤ 140737488351232) :
    Calls Tryd.prog 5 #[.slice a0 len0 cap0] w fun e w' => e = .returned (.bool true) ∧ Below w.heap.size w w' := by
  obtain ⟨l0, rfl, hr0, hm0, hw0, hc0⟩ := ReadsInt.ofRowC w0
  obtain ⟨k, h⟩ := P l0 hm0 y0 hw0
  refine (laws_FnExactDecodeDescriptor.calls k _ _ l0 true w (Kd.C_of_reads (d := (0 : Int)) (h1 := fun _ => rfl) hr0) hc0 h ⟨rfl⟩ hG0).mono ?_
  rintro e w' ⟨rfl, hd⟩
  exact ⟨rfl, hd⟩

end Go.Proofs.YtmlahbgogbjfpaaDoor.PFnExactDecodeDescriptor
