-- written by a program of this session (wip/src/print2.py)
import Derived.Test.YtmlahbgogbjfpaaDoorPFnExactDecodeDescriptorx0
import Derived.Test.YtmlahbgogbjfpaaDoorPFnExactDecodeDescriptorx1
import Derived.Test.YtmlahbgogbjfpaaDoorPFnExactDecodeDescriptorx2
import Derived.Test.YtmlahbgogbjfpaaDoorPFnExactDecodeDescriptorx3
namespace Go.Proofs.YtmlahbgogbjfpaaDoor.PFnExactDecodeDescriptor
open Go.RowKit Go.Proofs.YtmlahbgogbjfpaaDoorW.PrintWords Go.Proofs.YtmlahbgogbjfpaaDoorW.PrintLast Go.Proofs.YtmlahbgogbjfpaaDoorW.PrintMore
attribute [local go_sem] max2_int min2_int max_two min_two max_three min_three max_four min_four   -- for this text's walks alone
set_option linter.unusedVariables false
set_option linter.unusedSimpArgs false

/-! ### spec_DecodeDescriptor: function 17 -/
mutual
def spec_DecodeDescriptor.j0 : Nat → List Int → Bool → Option (Bool × Int × (List (S67)))
  | 0, _, _ => none
  | k + 1, x0, x14 => if x14 = true then (some (false, 0, ([] : List (S67)))) else (if 8 ≤ 12 then (if 12 ≤ (x0.length : Int) then ((spec_GetNumber.f k ((x0.take 12).drop 8)).bind fun t217 => (spec_DecodeDescriptor.l0 k x0 0 t217 ([] : List (S67)))) else (none)) else (none))
def spec_DecodeDescriptor.l0 : Nat → List Int → Int → Int → List (S67) → Option (Bool × Int × (List (S67)))
  | 0, _, _, _, _ => none
  | k + 1, x0, x4, x219000, x219001 => if 6 ≤ 8 then (if 8 ≤ (x0.length : Int) then ((spec_GetNumber.f k ((x0.take 8).drop 6)).bind fun t220 => (if x4 < t220 then (if 0 ≤ (wrap64 (12 + (wrap64 (3 * x4)))) then (if (wrap64 (12 + (wrap64 (3 * x4)))) ≤ (wrap64 ((wrap64 (12 + (wrap64 (3 * x4)))) + 2)) then (if (wrap64 ((wrap64 (12 + (wrap64 (3 * x4)))) + 2)) ≤ (x0.length : Int) then ((spec_GetNumber.f k ((x0.take ((wrap64 ((wrap64 (12 + (wrap64 (3 * x4)))) + 2)) : Int).toNat).drop ((wrap64 (12 + (wrap64 (3 * x4)))) : Int).toNat)).bind fun t222 => (if 0 ≤ (wrap64 ((wrap64 (12 + (wrap64 (3 * x4)))) + 2)) then (if (wrap64 ((wrap64 (12 + (wrap64 (3 * x4)))) + 2)) < (x0.length : Int) then (if x219001.length < 8796093022208 then (spec_DecodeDescriptor.l0 k x0 (wrap64 (x4 + 1)) x219000 (x219001 ++ [(⟨t222, ((rd x0 (wrap64 ((wrap64 (12 + (wrap64 (3 * x4)))) + 2))) == 1)⟩ : S67)])) else (none)) else (none)) else (none))) else (none)) else (none)) else (none)) else ((spec_EncodeDescriptor.f k x219000 x219001).bind fun t227 => ((spec_l2Same.f t227 x0).bind fun t230 => (if t230 = true then (some (true, x219000, x219001)) else (some (false, 0, ([] : List (S67))))))))) else (none)) else (none)
end
def spec_DecodeDescriptor.f (k : Nat) (l0 : List Int) : Option (Bool × Int × (List (S67))) := (spec_BlockKind.f l0).bind fun t213 => (if t213 = 2 then (if 6 ≤ 8 then (if 8 ≤ (l0.length : Int) then ((spec_GetNumber.f k ((l0.take 8).drop 6)).bind fun t215 => (spec_DecodeDescriptor.j0 k l0 (decide (t215 > 17)))) else (none)) else (none)) else (spec_DecodeDescriptor.j0 k l0 true))
theorem spec_DecodeDescriptor.mono_l : ∀ k, (∀ y0 y1, LeO (spec_DecodeDescriptor.j0 k y0 y1) (spec_DecodeDescriptor.j0 (k + 1) y0 y1)) ∧ (∀ y0 y1 y2 y3, LeO (spec_DecodeDescriptor.l0 k y0 y1 y2 y3) (spec_DecodeDescriptor.l0 (k + 1) y0 y1 y2 y3))
  | 0 => ⟨fun _ _ r h => by simp [spec_DecodeDescriptor.j0] at h, fun _ _ _ _ r h => by simp [spec_DecodeDescriptor.l0] at h⟩
  | k + 1 => by
    obtain ⟨ih0, ih1⟩ := spec_DecodeDescriptor.mono_l k
    refine ⟨?_, ?_⟩
    · intro y0 y1
      unfold spec_DecodeDescriptor.j0
      repeat' first
      | (with_reducible exact ih0 _ _)
      | (with_reducible exact ih1 _ _ _ _)
      | (with_reducible exact spec_EncodeDescriptor.mono _ _ _)
      | (with_reducible exact spec_GetNumber.mono _ _)
      | (with_reducible exact LeO.refl _)
      | (with_reducible exact LeO.none _)
      | (with_reducible refine LeO.ite ?_ ?_)
      | (with_reducible refine LeO.bind ?_ (fun _ => ?_))
      | exact ih0 _ _
      | exact ih1 _ _ _ _
      | exact spec_EncodeDescriptor.mono _ _ _
      | exact spec_GetNumber.mono _ _
      | exact LeO.none _
      | refine LeO.ite ?_ ?_
      | refine LeO.bind ?_ (fun _ => ?_)
    · intro y0 y1 y2 y3
      unfold spec_DecodeDescriptor.l0
      repeat' first
      | (with_reducible exact ih0 _ _)
      | (with_reducible exact ih1 _ _ _ _)
      | (with_reducible exact spec_EncodeDescriptor.mono _ _ _)
      | (with_reducible exact spec_GetNumber.mono _ _)
      | (with_reducible exact LeO.refl _)
      | (with_reducible exact LeO.none _)
      | (with_reducible refine LeO.ite ?_ ?_)
      | (with_reducible refine LeO.bind ?_ (fun _ => ?_))
      | exact ih0 _ _
      | exact ih1 _ _ _ _
      | exact spec_EncodeDescriptor.mono _ _ _
      | exact spec_GetNumber.mono _ _
      | exact LeO.none _
      | refine LeO.ite ?_ ?_
      | refine LeO.bind ?_ (fun _ => ?_)
theorem spec_DecodeDescriptor.mono : ∀ a0 k, LeO (spec_DecodeDescriptor.f k a0) (spec_DecodeDescriptor.f (k + 1) a0) := by
  intro a0 k
  obtain ⟨ih0, ih1⟩ := spec_DecodeDescriptor.mono_l k
  unfold spec_DecodeDescriptor.f
  repeat' first
      | (with_reducible exact ih0 _ _)
      | (with_reducible exact ih1 _ _ _ _)
      | (with_reducible exact spec_EncodeDescriptor.mono _ _ _)
      | (with_reducible exact spec_GetNumber.mono _ _)
      | (with_reducible exact LeO.refl _)
      | (with_reducible exact LeO.none _)
      | (with_reducible refine LeO.ite ?_ ?_)
      | (with_reducible refine LeO.bind ?_ (fun _ => ?_))
      | exact ih0 _ _
      | exact ih1 _ _ _ _
      | exact spec_EncodeDescriptor.mono _ _ _
      | exact spec_GetNumber.mono _ _
      | exact LeO.none _
      | refine LeO.ite ?_ ?_
      | refine LeO.bind ?_ (fun _ => ?_)
def spec_DecodeDescriptor.T8 : Bool × List (List Nat × List Nat) := (true, [([], []), ([0], [0]), ([], []), ([], []), ([], []), ([4], [4]), ([2, 3, 5], [2, 3, 5]), ([6], [6]), ([], []), ([], []), ([9], [9]), ([8, 10], [8, 10]), ([11], [11]), ([12], [12]), ([7, 13], [7, 13]), ([14], [14]), ([1, 15, 7], [1, 15]), ([0, 1, 2, 3, 4, 5, 6, 7, 8, 9, 10, 11, 12, 13, 14, 15, 16], []), ([17, 16, 16, 0, 1, 2, 3, 4, 5, 6, 7, 8, 9, 10, 11, 12, 13, 14, 15, 16], [16, 17])])
def spec_DecodeDescriptor.B8 : List Nat := [0, 1, 0, 0, 0, 16, 60, 124, 0, 0, 512, 1792, 3840, 7936, 16380, 32764, 65535, 131071, 262143]
theorem spec_DecodeDescriptor.tab8 : rtab .any (opsOf Tryd.f17 8) = spec_DecodeDescriptor.T8 := by kernel_rfl
theorem spec_DecodeDescriptor.bits8 : waitsOk spec_DecodeDescriptor.T8.2 spec_DecodeDescriptor.B8 = true := by kernel_rfl
set_option maxHeartbeats 8000000 in
set_option maxRecDepth 100000 in
theorem spec_DecodeDescriptor.calls (k : Nat) (A0 : Option Addr) (c0 : Nat) (l0 : List Int) (r1 : Bool) (r2 : Int) (r3 : List (S67)) (w : World) (hr0 : Kd.C (Kd.int .u8) w A0 l0.length l0) (hc0 : l0.length ≤ c0) (h : spec_DecodeDescriptor.f k l0 = some (r1, r2, r3)) :
    Calls Tryd.prog 17 #[.slice A0 l0.length c0] w fun e w' => ∃ v2_ : Value, e = .returned (.agg #[.bool r1, .int .i64 r2, v2_]) ∧ Kd.R k67 67 w' w.heap.size (fun _ => True) v2_ r3 ∧ Below w.heap.size w w' := by
  have hu45 := Tryd.underlying45
  have hu43 := Tryd.underlying43
  have hu67 := Tryd.underlying67
  have HR0 := Aside0.mk hr0
  have HC0 := Aside0.mk hc0
  clear hr0 hc0
  have HB := Aside0.mk (Below.refl w.heap.size w)
  have H : ((spec_BlockKind.f l0).bind fun t213 => (if t213 = 2 then (if 6 ≤ 8 then (if 8 ≤ (l0.length : Int) then ((spec_GetNumber.f k ((l0.take 8).drop 6)).bind fun t215 => (spec_DecodeDescriptor.j0 k l0 (decide (t215 > 17)))) else (none)) else (none)) else (spec_DecodeDescriptor.j0 k l0 true))) = some (r1, r2, r3) := h
  clear h
  have HC2 := Aside0.mk H
  clear H
  go_enter Tryd.func17, Tryd.ntmps17
  go_upto_region 1 with (first | ((with_reducible refine gate_dst (N := 2) rfl ?_); refine box_event ?hg (N := 2) ?hd (cs := #[.bool false, .int .i64 0, .slice none 0 0]) (t := 45) ?hr ?_; (case hd => rfl); (case hg => rfl); (case hr => first | (go_simp; done) | (go_simp; rfl)); intro gb212 hg w3 hbox hb; have n0_ := Aside0.mk (below_step (by repeat (first | (with_reducible first | exact HB.out | apply below_alloc | apply pw_below_drewN | apply below_drew1) | exact HB.out)) hb); have n1_ := Aside0.mk (hbox); have n2_ := Aside0.mk ((by rw [hg]; exact (below_size (by repeat (first | (with_reducible first | exact HB.out | apply below_alloc | apply pw_below_drewN | apply below_drew1) | exact HB.out))) : w.heap.size ≤ gb212)); have n3_ := Aside0.mk ((by rw [hg]; exact (below_size (by repeat (first | (with_reducible first | exact HB.out | apply below_alloc | apply pw_below_drewN | apply below_drew1) | exact HB.out))) : w.heap.size ≤ gb212)); clear HB; have HB := n0_; have BK212 := n1_; have GW212 := n2_; have GE212 := n3_; clear n0_ n1_ n2_ n3_; clear hb hbox hg))
  (try simp only [Act.put, List.setIfInBounds_toArray, List.set_cons_zero, List.set_cons_succ])
  go_cut [14] (fun v14 wc => ∃ (kq : Nat) (x14_1 : Bool), v14 = .bool x14_1 ∧ Aside0 (spec_DecodeDescriptor.j0 kq l0 x14_1 = some (r1, r2, r3)) ∧ Aside0 (kq ≤ k) ∧ Aside0 (wc.heap[gb212]? = some (.cells #[.bool false, .int .i64 0, (.slice none 0 0)] 45 (0, 0))) ∧ Aside0 (Below w.heap.size w wc))
  case first =>
    have H := HC2.out
    clear HC2
    replace H := Option.bind_eq_some_iff.mp H
    obtain ⟨t213, A40, H⟩ := H
    replace H : (if t213 = 2 then (if 6 ≤ 8 then (if 8 ≤ (l0.length : Int) then ((spec_GetNumber.f k ((l0.take 8).drop 6)).bind fun t215 => (spec_DecodeDescriptor.j0 k l0 (decide (t215 > 17)))) else (none)) else (none)) else (spec_DecodeDescriptor.j0 k l0 true)) = some (r1, r2, r3) := H
    have A4 := Aside0.mk A40
    clear A40
    by_cases c5 : t213 = 2
    · rw [if_pos c5] at H
      have c5b0 : (t213 == 2) = true := beq_iff_eq.mpr c5
      have c5b1 : (t213 != 2) = false := bne_eq_false_iff_eq.mpr c5
      clear c5
      (first | rw [c5b0] | (simp only [i64_w, i32_w]; rw [c5b0]) | skip)
      by_cases c6 : 6 ≤ 8
      · rw [if_pos c6] at H
        have c6b0 := eq_true c6
        have c6b1 : decide (6 ≤ 8) = true := decide_eq_true c6
        clear c6
        by_cases c7 : 8 ≤ (l0.length : Int)
        · rw [if_pos c7] at H
          have c7b0 := eq_true c7
          have c7b1 : decide (8 ≤ (l0.length : Int)) = true := decide_eq_true c7
          clear c7
          replace H := Option.bind_eq_some_iff.mp H
          obtain ⟨t215, A80, H⟩ := H
          replace H : (spec_DecodeDescriptor.j0 k l0 (decide (t215 > 17))) = some (r1, r2, r3) := H
          have A8 := Aside0.mk A80
          clear A80
          have H' := Aside0.mk H
          clear H
          go_wp2_with (first | ((with_reducible refine gate_callee (f := 22) rfl ?_); refine goesL_ (some 7) rfl rfl Tryd.func22 (by kernel_rfl) rfl #[.slice A0 l0.length c0] rfl (by (try simp only [List.map_toArray, List.map_cons, List.map_nil]); first | done | rfl | (simp only [List.length_drop, List.length_take]; rfl)) ?_; (with_reducible refine (spec_BlockKind.calls _ _ l0 t213 _ ?side1 ?side2 A4.out).mono ?_); (case side1 => repeat (first | exact (Kd.C_below HR0.out HB.out) | (with_reducible refine Kd.C_alloc ?_ _) | (with_reducible refine Kd.C_drewN ?_ _) | (with_reducible refine Kd.C_drew ?_))); (case side2 => exact HC0.out); rintro e w9 ⟨rfl, hb⟩; refine ⟨_, rfl, ?_⟩; have n0_ := Aside0.mk (blk_below (g := gb212) (o := .cells #[.bool false, .int .i64 0, .slice none 0 0] 45 (0, 0)) (by (with_reducible repeat (first | refine blk_drewN ?_ _ | refine blk_drew ?_ | refine blk_alloc ?_ _)); exact BK212.out) hb); have n1_ := Aside0.mk (below_step (by repeat (first | (with_reducible first | exact HB.out | apply below_alloc | apply pw_below_drewN | apply below_drew1 | refine below_set ?_ GE212.out) | exact HB.out)) hb); clear BK212; clear HB; have BK212 := n0_; have HB := n1_; clear n0_ n1_; (try clear hb); (try clear hb2); (try clear hk); (try clear hi); obtain ⟨i010, hi010, _, hsz10, _⟩ := info_parts info5; obtain ⟨A10, hcut10, hA10, hC10⟩ := print_mid_of (P := Tryd.prog) (Value.int .u8) 0 22 5 .i64 .i64 Tryd.underlying22 hi010 hsz10 A0 c0 l0 6 8 (by omega) (by first | omega | exact of_decide_eq_true (by first | (with_reducible assumption) | assumption)) (of_decide_eq_true (by first | (with_reducible assumption) | assumption)) HC0.out; have HR214 := Aside0.mk (Kd.C_of_reads (h1 := fun _ => rfl) (hA10 _ (Kd.reads_of_C HR0.out))); have HC214 := Aside0.mk hC10; clear hA10 hC10 hi010 hsz10) | (go_at_call 23; rw [show min 8 l0.length - 6 = ((l0.take 8).drop 6).length from by simp only [List.length_drop, List.length_take]]; (with_reducible refine (spec_GetNumber.calls k _ _ ((l0.take 8).drop 6) t215 _ ?side1 ?side2 A8.out).mono ?_); (case side1 => repeat (first | exact (Kd.C_below HR214.out HB.out) | (with_reducible refine Kd.C_alloc ?_ _) | (with_reducible refine Kd.C_drewN ?_ _) | (with_reducible refine Kd.C_drew ?_))); (case side2 => exact HC214.out); rintro e w' ⟨rfl, ⟨nd, rfl⟩⟩))
          go_meet
          case rel => exact ⟨_, (decide (t215 > 17)), (by first | rfl | (simp; done) | (simp [*]; done)), H', ⟨by first | omega | exact Nat.le_refl _⟩, ⟨by (with_reducible repeat (first | refine blk_drewN ?_ _ | refine blk_drew ?_ | refine blk_alloc ?_ _)); exact BK212.out⟩, ⟨by repeat (first | (with_reducible first | exact HB.out | apply below_alloc | apply pw_below_drewN | apply below_drew1 | refine below_set ?_ GE212.out) | exact HB.out)⟩⟩
        · rw [if_neg c7] at H
          exact absurd H (by simp)
      · rw [if_neg c6] at H
        exact absurd H (by simp)
    · rw [if_neg c5] at H
      have c5b0 : (t213 == 2) = false := beq_eq_false_iff_ne.mpr c5
      have c5b1 : (t213 != 2) = true := bne_iff_ne.mpr c5
      (first | rw [c5b0] | (simp only [i64_w, i32_w]; rw [c5b0]) | skip)
      have H' := Aside0.mk H
      clear H
      go_wp2_with (first | ((with_reducible refine gate_callee (f := 22) rfl ?_); refine goesL_ (some 7) rfl rfl Tryd.func22 (by kernel_rfl) rfl #[.slice A0 l0.length c0] rfl (by (try simp only [List.map_toArray, List.map_cons, List.map_nil]); first | done | rfl | (simp only [List.length_drop, List.length_take]; rfl)) ?_; (with_reducible refine (spec_BlockKind.calls _ _ l0 t213 _ ?side1 ?side2 A4.out).mono ?_); (case side1 => repeat (first | exact (Kd.C_below HR0.out HB.out) | (with_reducible refine Kd.C_alloc ?_ _) | (with_reducible refine Kd.C_drewN ?_ _) | (with_reducible refine Kd.C_drew ?_))); (case side2 => exact HC0.out); rintro e w11 ⟨rfl, hb⟩; refine ⟨_, rfl, ?_⟩; have n0_ := Aside0.mk (blk_below (g := gb212) (o := .cells #[.bool false, .int .i64 0, .slice none 0 0] 45 (0, 0)) (by (with_reducible repeat (first | refine blk_drewN ?_ _ | refine blk_drew ?_ | refine blk_alloc ?_ _)); exact BK212.out) hb); have n1_ := Aside0.mk (below_step (by repeat (first | (with_reducible first | exact HB.out | apply below_alloc | apply pw_below_drewN | apply below_drew1 | refine below_set ?_ GE212.out) | exact HB.out)) hb); clear BK212; clear HB; have BK212 := n0_; have HB := n1_; clear n0_ n1_; (try clear hb); (try clear hb2); (try clear hk); (try clear hi)))
      go_meet
      case rel => exact ⟨_, (true), (by first | rfl | (simp; done) | (simp [*]; done)), H', ⟨by first | omega | exact Nat.le_refl _⟩, ⟨by (with_reducible repeat (first | refine blk_drewN ?_ _ | refine blk_drew ?_ | refine blk_alloc ?_ _)); exact BK212.out⟩, ⟨by repeat (first | (with_reducible first | exact HB.out | apply below_alloc | apply pw_below_drewN | apply below_drew1 | refine below_set ?_ GE212.out) | exact HB.out)⟩⟩
  case rest =>
    clear HC2
    try clear c1
    try clear c2
    try clear p2
    try clear c5
    try clear c5b0
    try clear c5b1
    try clear c6
    try clear c6b0
    try clear c6b1
    try clear c7
    try clear c7b0
    try clear c7b1
    obtain ⟨kq, x14_1, rfl, HA, HJ1, BK212, HB⟩ := hcut
    cases kq with
    | zero => exact absurd HA.out (by simp [spec_DecodeDescriptor.j0])
    | succ kj1 =>
      have H := HA.out
      clear HA
      simp only [spec_DecodeDescriptor.j0] at H
      by_cases c12 : x14_1 = true
      · subst c12
        have H1 : (some (false, 0, ([] : List (S67)))) = some (r1, r2, r3) := by rw [if_pos rfl] at H; exact H
        clear H
        have H := H1
        clear H1
        simp only [Option.some.injEq, Prod.mk.injEq] at H
        obtain ⟨rfl, rfl, rfl⟩ := H
        have hcz13_0 : wc.cell? ⟨gb212, 0, none⟩ = some (.bool false) := (blk_cell BK212.out 0).trans rfl
        have hcz13_1 : wc.cell? ⟨gb212, 1, none⟩ = some (.int .i64 0) := (blk_cell BK212.out 1).trans rfl
        have hcz13_2 : wc.cell? ⟨gb212, 2, none⟩ = some (.slice none 0 0) := (blk_cell BK212.out 2).trans rfl
        have hfz13_0 := blk_frozen BK212.out 0
        have hfz13_1 := blk_frozen BK212.out 1
        have hfz13_2 := blk_frozen BK212.out 2
        go_wp2
        refine bodyPost_ret (results_cell_row rfl _ _ gb212 45 #[.bool false, .int .i64 0, .slice none 0 0] (0, 0) _ rfl (by (with_reducible repeat (first | refine blk_drewN ?_ _ | refine blk_drew ?_ | refine blk_alloc ?_ _)); refine blk_put (cs := #[.bool false, .int .i64 0, .slice none 0 0]) ?_ 2 _ rfl; (with_reducible repeat (first | refine blk_drewN ?_ _ | refine blk_drew ?_ | refine blk_alloc ?_ _)); refine blk_put (cs := #[.bool false, .int .i64 0, .slice none 0 0]) ?_ 1 _ rfl; (with_reducible repeat (first | refine blk_drewN ?_ _ | refine blk_drew ?_ | refine blk_alloc ?_ _)); refine blk_put (cs := #[.bool false, .int .i64 0, .slice none 0 0]) ?_ 0 _ rfl; (with_reducible repeat (first | refine blk_drewN ?_ _ | refine blk_drew ?_ | refine blk_alloc ?_ _)); exact BK212.out) Tryd.underlying45 rfl (by kernel_rfl)) rfl ?_
        exact ⟨_, by first | rfl | (simp [errW_none, errW_some] <;> rfl) | (simp [*, errW_none, errW_some] <;> rfl), by first | exact Kd.R_nil _ _ _ _ _ | exact Kd.N_nil _ _ _ _ _ | exact Kd.V_nil _ _ _ _ _ | exact Kd.Q_nil _ _ _ _ _ | exact Kd.S_nil _ _ _ _ _, by repeat (first | (with_reducible first | exact HB.out | apply below_alloc | apply pw_below_drewN | apply below_drew1 | refine below_set ?_ GE212.out) | exact HB.out)⟩
      · replace c12 := Bool.eq_false_iff.mpr c12
        subst c12
        have H1 : (if 8 ≤ 12 then (if 12 ≤ (l0.length : Int) then ((spec_GetNumber.f kj1 ((l0.take 12).drop 8)).bind fun t217 => (spec_DecodeDescriptor.l0 kj1 l0 0 t217 ([] : List (S67)))) else (none)) else (none)) = some (r1, r2, r3) := by rw [if_neg (show ¬ (false = true) by decide)] at H; exact H
        clear H
        have H := H1
        clear H1
        by_cases c14 : 8 ≤ 12
        · rw [if_pos c14] at H
          have c14b0 := eq_true c14
          have c14b1 : decide (8 ≤ 12) = true := decide_eq_true c14
          clear c14
          by_cases c15 : 12 ≤ (l0.length : Int)
          · rw [if_pos c15] at H
            have c15b0 := eq_true c15
            have c15b1 : decide (12 ≤ (l0.length : Int)) = true := decide_eq_true c15
            clear c15
            replace H := Option.bind_eq_some_iff.mp H
            obtain ⟨t217, A160, H⟩ := H
            replace H : (spec_DecodeDescriptor.l0 kj1 l0 0 t217 ([] : List (S67))) = some (r1, r2, r3) := H
            have A16 := Aside0.mk A160
            clear A160
            have H' := Aside0.mk H
            clear H
            obtain ⟨i017, hi017, _, hsz17, _⟩ := info_parts info5
            obtain ⟨A17, hcut17, hA17, hC17⟩ := print_mid_of (P := Tryd.prog) (Value.int .u8) 0 22 5 .i64 .i64 Tryd.underlying22 hi017 hsz17 A0 c0 l0 8 12 (by omega) (by first | omega | exact of_decide_eq_true (by first | (with_reducible assumption) | assumption)) (of_decide_eq_true (by first | (with_reducible assumption) | assumption)) HC0.out
            have HR216 := Aside0.mk (Kd.C_of_reads (h1 := fun _ => rfl) (hA17 _ (Kd.reads_of_C HR0.out)))
            have HC216 := Aside0.mk hC17
            clear hA17 hC17 hi017 hsz17
            go_wp2_with (first | ((with_reducible refine gate_callee (f := 23) rfl ?_); refine goesL_ (some 18) rfl rfl Tryd.func23 (by kernel_rfl) rfl #[.slice A17 ((l0.take 12).drop 8).length (c0 - 8)] rfl (by (try simp only [List.map_toArray, List.map_cons, List.map_nil]); first | done | (rw [show ((l0.take 12).drop 8).length = (12 - 8) from (by rw [List.length_drop, List.length_take]; have h_ : (12 : Int) ≤ (l0.length : Int) := of_decide_eq_true (by first | (with_reducible assumption) | assumption); omega)] <;> rfl) | rfl | (simp only [List.length_drop, List.length_take]; rfl)) ?_; (with_reducible refine (spec_GetNumber.calls kj1 _ _ ((l0.take 12).drop 8) t217 _ ?side1 ?side2 A16.out).mono ?_); (case side1 => repeat (first | exact (Kd.C_below HR216.out HB.out) | (with_reducible refine Kd.C_alloc ?_ _) | (with_reducible refine Kd.C_drewN ?_ _) | (with_reducible refine Kd.C_drew ?_))); (case side2 => exact HC216.out); rintro e w' ⟨rfl, ⟨nd, rfl⟩⟩; refine ⟨_, rfl, ?_⟩; (try (rw [drewN_self wc]; generalize hq_ : World.drewN wc _ = wc; have n0_ : Aside0 (wc.heap[gb212]? = some (.cells #[.bool false, .int .i64 0, .slice none 0 0] 45 (0, 0))) := ⟨by rw [← hq_]; exact (by (with_reducible repeat (first | refine blk_drewN ?_ _ | refine blk_drew ?_ | refine blk_alloc ?_ _)); exact BK212.out)⟩; have n1_ : Aside0 (Below w.heap.size w wc) := ⟨by rw [← hq_]; exact (by repeat (first | (with_reducible first | exact HB.out | apply below_alloc | apply pw_below_drewN | apply below_drew1 | refine below_set ?_ GE212.out) | exact HB.out))⟩; clear BK212 HB hq_; have BK212 := n0_; have HB := n1_; clear n0_ n1_))) | ((with_reducible refine gate_dst (N := 3) rfl ?_); refine box_event ?hg (N := 3) ?hd (cs := #[.int .i64 0, .slice none 0 0]) (t := 43) ?hr ?_; (case hd => rfl); (case hg => rfl); (case hr => first | (go_simp; done) | (go_simp; rfl)); intro gb218 hg w18 hbox hb; have n0_ := Aside0.mk (blk_below (g := gb212) (o := .cells #[.bool false, .int .i64 0, .slice none 0 0] 45 (0, 0)) (by (with_reducible repeat (first | refine blk_drewN ?_ _ | refine blk_drew ?_ | refine blk_alloc ?_ _)); exact BK212.out) hb); have n1_ := Aside0.mk (below_step (by repeat (first | (with_reducible first | exact HB.out | apply below_alloc | apply pw_below_drewN | apply below_drew1 | refine below_set ?_ GE212.out) | exact HB.out)) hb); have n2_ := Aside0.mk (hbox); have n3_ := Aside0.mk ((by rw [hg]; exact (below_size (by repeat (first | (with_reducible first | exact HB.out | apply below_alloc | apply pw_below_drewN | apply below_drew1 | refine below_set ?_ GE212.out) | exact HB.out))) : w.heap.size ≤ gb218)); have n4_ := Aside0.mk ((by rw [hg]; exact (below_size (by repeat (first | (with_reducible first | exact HB.out | apply below_alloc | apply pw_below_drewN | apply below_drew1 | refine below_set ?_ GE212.out) | exact HB.out))) : w.heap.size ≤ gb218)); have n5_ := Aside0.mk ((by rw [hg]; exact Nat.ne_of_lt (blk_lt (g := gb212) (o := .cells #[.bool false, .int .i64 0, .slice none 0 0] 45 (0, 0)) (by (with_reducible repeat (first | refine blk_drewN ?_ _ | refine blk_drew ?_ | refine blk_alloc ?_ _)); exact BK212.out)) : gb212 ≠ gb218)); have n6_ := Aside0.mk ((by rw [hg]; exact Nat.ne_of_gt (blk_lt (g := gb212) (o := .cells #[.bool false, .int .i64 0, .slice none 0 0] 45 (0, 0)) (by (with_reducible repeat (first | refine blk_drewN ?_ _ | refine blk_drew ?_ | refine blk_alloc ?_ _)); exact BK212.out)) : gb218 ≠ gb212)); clear BK212; clear HB; have BK212 := n0_; have HB := n1_; have BK218 := n2_; have GW218 := n3_; have GE218 := n4_; have NB212_218 := n5_; have NB218_212 := n6_; clear n0_ n1_ n2_ n3_ n4_ n5_ n6_; clear hb hbox hg; have hnb19 := NB218_212.out; have hnc19 := NB212_218.out; have hcz20_0 : w18.cell? ⟨gb218, 0, none⟩ = some (.int .i64 0) := (blk_cell BK218.out 0).trans rfl; have hcz20_1 : w18.cell? ⟨gb218, 1, none⟩ = some (.slice none 0 0) := (blk_cell BK218.out 1).trans rfl; have hfz20_0 := blk_frozen BK218.out 0; have hfz20_1 := blk_frozen BK218.out 1))
            go_loopg [4] kj1 (fun kq v4 w' => ∃ (x4_2 : Int) (x219001_2 : List (S67)) (u219001 : Value), v4 = .int .i64 x4_2 ∧ Aside0 (spec_DecodeDescriptor.l0 kq l0 x4_2 t217 x219001_2 = some (r1, r2, r3)) ∧ Aside0 (kq ≤ kj1) ∧ Aside0 (Kd.R k67 67 w' w.heap.size (fun _ => True) u219001 x219001_2) ∧ Aside0 (w'.heap[gb212]? = some (.cells #[.bool false, .int .i64 0, (.slice none 0 0)] 45 (0, 0))) ∧ Aside0 (w'.heap[gb218]? = some (.cells #[.int .i64 t217, u219001] 43 (0, 0))) ∧ Aside0 (Below w.heap.size w w'))
            case atStart => exact ⟨(0), (([] : List (S67))), (.slice none 0 0), (by first | rfl | (simp; done) | (simp [*]; done)), H', ⟨Nat.le_refl _⟩, ⟨by first | exact Kd.R_nil _ _ _ _ _ | exact Kd.N_nil _ _ _ _ _ | exact Kd.V_nil _ _ _ _ _ | exact Kd.Q_nil _ _ _ _ _ | exact Kd.S_nil _ _ _ _ _⟩, ⟨by (with_reducible repeat (first | refine blk_drewN ?_ _ | refine blk_drew ?_ | refine blk_alloc ?_ _)); refine blk_far ?_ NB212_218.out _; (with_reducible repeat (first | refine blk_drewN ?_ _ | refine blk_drew ?_ | refine blk_alloc ?_ _)); refine blk_far ?_ NB212_218.out _; (with_reducible repeat (first | refine blk_drewN ?_ _ | refine blk_drew ?_ | refine blk_alloc ?_ _)); exact BK212.out⟩, ⟨by (with_reducible repeat (first | refine blk_drewN ?_ _ | refine blk_drew ?_ | refine blk_alloc ?_ _)); refine blk_put (cs := #[.int .i64 t217, .slice none 0 0]) ?_ 1 _ rfl; (with_reducible repeat (first | refine blk_drewN ?_ _ | refine blk_drew ?_ | refine blk_alloc ?_ _)); refine blk_put (cs := #[.int .i64 0, .slice none 0 0]) ?_ 0 _ rfl; (with_reducible repeat (first | refine blk_drewN ?_ _ | refine blk_drew ?_ | refine blk_alloc ?_ _)); exact BK218.out⟩, ⟨by repeat (first | (with_reducible first | exact HB.out | apply below_alloc | apply pw_below_drewN | apply below_drew1 | refine below_set ?_ GE212.out | refine below_set ?_ GE218.out) | exact HB.out)⟩⟩
            case round =>
              clear H'
              try clear c1
              try clear c2
              try clear p2
              try clear c5
              try clear c5b0
              try clear c5b1
              try clear c6
              try clear c6b0
              try clear c6b1
              try clear c7
              try clear c7b0
              try clear c7b1
              try clear c12
              try clear c14
              try clear c14b0
              try clear c14b1
              try clear c15
              try clear c15b0
              try clear c15b1
              try clear c17
              try clear c19
              try clear hcz13_0
              try clear hcz13_1
              try clear hcz13_2
              try clear hcz20_0
              try clear hcz20_1
              try clear hfz13_0
              try clear hfz13_1
              try clear hfz13_2
              try clear hfz20_0
              try clear hfz20_1
              try clear p2
              obtain ⟨x4_2, x219001_2, u219001, rfl, HA, HK2, HO_219001, BK212, BK218, HB⟩ := hrel
              cases gk with
              | zero => exact absurd HA.out (by simp [spec_DecodeDescriptor.l0])
              | succ k2 =>
                have H := HA.out
                clear HA
                simp only [spec_DecodeDescriptor.l0] at H
                by_cases c21 : 6 ≤ 8
                · rw [if_pos c21] at H
                  have c21b0 := eq_true c21
                  have c21b1 : decide (6 ≤ 8) = true := decide_eq_true c21
                  clear c21
                  by_cases c22 : 8 ≤ (l0.length : Int)
                  · rw [if_pos c22] at H
                    have c22b0 := eq_true c22
                    have c22b1 : decide (8 ≤ (l0.length : Int)) = true := decide_eq_true c22
                    clear c22
                    replace H := Option.bind_eq_some_iff.mp H
                    obtain ⟨t220, A230, H⟩ := H
                    replace H : (if x4_2 < t220 then (if 0 ≤ (wrap64 (12 + (wrap64 (3 * x4_2)))) then (if (wrap64 (12 + (wrap64 (3 * x4_2)))) ≤ (wrap64 ((wrap64 (12 + (wrap64 (3 * x4_2)))) + 2)) then (if (wrap64 ((wrap64 (12 + (wrap64 (3 * x4_2)))) + 2)) ≤ (l0.length : Int) then ((spec_GetNumber.f k2 ((l0.take ((wrap64 ((wrap64 (12 + (wrap64 (3 * x4_2)))) + 2)) : Int).toNat).drop ((wrap64 (12 + (wrap64 (3 * x4_2)))) : Int).toNat)).bind fun t222 => (if 0 ≤ (wrap64 ((wrap64 (12 + (wrap64 (3 * x4_2)))) + 2)) then (if (wrap64 ((wrap64 (12 + (wrap64 (3 * x4_2)))) + 2)) < (l0.length : Int) then (if x219001_2.length < 8796093022208 then (spec_DecodeDescriptor.l0 k2 l0 (wrap64 (x4_2 + 1)) t217 (x219001_2 ++ [(⟨t222, ((rd l0 (wrap64 ((wrap64 (12 + (wrap64 (3 * x4_2)))) + 2))) == 1)⟩ : S67)])) else (none)) else (none)) else (none))) else (none)) else (none)) else (none)) else ((spec_EncodeDescriptor.f k2 t217 x219001_2).bind fun t227 => ((spec_l2Same.f t227 l0).bind fun t230 => (if t230 = true then (some (true, t217, x219001_2)) else (some (false, 0, ([] : List (S67)))))))) = some (r1, r2, r3) := H
                    have A23 := Aside0.mk A230
                    clear A230
                    by_cases c24 : x4_2 < t220
                    · rw [if_pos c24] at H
                      have c24b0 : decide (x4_2 < t220) = true := decide_eq_true c24
                      clear c24
                      obtain ⟨ji25, hji25⟩ : ∃ j_ : Int, (wrap64 (12 + (wrap64 (3 * x4_2)))) = j_ := ⟨_, rfl⟩
                      replace H : (if 0 ≤ (ji25) then (if (ji25) ≤ (wrap64 ((ji25) + 2)) then (if (wrap64 ((ji25) + 2)) ≤ (l0.length : Int) then ((spec_GetNumber.f k2 ((l0.take ((wrap64 ((ji25) + 2)) : Int).toNat).drop ((ji25) : Int).toNat)).bind fun t222 => (if 0 ≤ (wrap64 ((ji25) + 2)) then (if (wrap64 ((ji25) + 2)) < (l0.length : Int) then (if x219001_2.length < 8796093022208 then (spec_DecodeDescriptor.l0 k2 l0 (wrap64 (x4_2 + 1)) t217 (x219001_2 ++ [(⟨t222, ((rd l0 (wrap64 ((ji25) + 2))) == 1)⟩ : S67)])) else (none)) else (none)) else (none))) else (none)) else (none)) else (none)) = some (r1, r2, r3) := by first | (rw [hji25] at H; exact H) | (simp only [hji25] at H ⊢; exact H)
                      (try rw [hji25] at A23)
                      have hji25w : (IntKind.i64.wrap (12 + (wrap64 (3 * x4_2)))) = ji25 := (i64_w _).trans hji25
                      by_cases c26 : 0 ≤ (ji25)
                      · rw [if_pos c26] at H
                        have c26b0 := eq_true c26
                        have c26b1 : decide (0 ≤ (ji25)) = true := decide_eq_true c26
                        clear c26
                        by_cases c27 : (ji25) ≤ (wrap64 ((ji25) + 2))
                        · rw [if_pos c27] at H
                          have c27b0 := eq_true c27
                          have c27b1 : decide ((ji25) ≤ (wrap64 ((ji25) + 2))) = true := decide_eq_true c27
                          by_cases c28 : (wrap64 ((ji25) + 2)) ≤ (l0.length : Int)
                          · rw [if_pos c28] at H
                            have c28b0 := eq_true c28
                            have c28b1 : decide ((wrap64 ((ji25) + 2)) ≤ (l0.length : Int)) = true := decide_eq_true c28
                            replace H := Option.bind_eq_some_iff.mp H
                            obtain ⟨t222, A290, H⟩ := H
                            replace H : (if 0 ≤ (wrap64 ((ji25) + 2)) then (if (wrap64 ((ji25) + 2)) < (l0.length : Int) then (if x219001_2.length < 8796093022208 then (spec_DecodeDescriptor.l0 k2 l0 (wrap64 (x4_2 + 1)) t217 (x219001_2 ++ [(⟨t222, ((rd l0 (wrap64 ((ji25) + 2))) == 1)⟩ : S67)])) else (none)) else (none)) else (none)) = some (r1, r2, r3) := H
                            have A29 := Aside0.mk A290
                            clear A290
                            obtain ⟨ji30, hji30⟩ : ∃ j_ : Int, (wrap64 ((ji25) + 2)) = j_ := ⟨_, rfl⟩
                            replace H : (if 0 ≤ (ji30) then (if (ji30) < (l0.length : Int) then (if x219001_2.length < 8796093022208 then (spec_DecodeDescriptor.l0 k2 l0 (wrap64 (x4_2 + 1)) t217 (x219001_2 ++ [(⟨t222, ((rd l0 (ji30)) == 1)⟩ : S67)])) else (none)) else (none)) else (none)) = some (r1, r2, r3) := by first | (rw [hji30] at H; exact H) | (simp only [hji30] at H ⊢; exact H)
                            (try rw [hji30] at c27b0)
                            (try rw [hji30] at c27b1)
                            (try rw [hji30] at c27)
                            (try rw [hji30] at c28b0)
                            (try rw [hji30] at c28b1)
                            (try rw [hji30] at c28)
                            (try rw [hji30] at A23)
                            (try rw [hji30] at A29)
                            have hji30w : (IntKind.i64.wrap ((ji25) + 2)) = ji30 := (i64_w _).trans hji30
                            by_cases c31 : 0 ≤ (ji30)
                            · rw [if_pos c31] at H
                              have c31b0 : decide (0 ≤ (ji30)) = true := decide_eq_true c31
                              clear c31
                              by_cases c32 : (ji30) < (l0.length : Int)
                              · rw [if_pos c32] at H
                                have c32b0 : decide ((ji30) < (l0.length : Int)) = true := decide_eq_true c32
                                clear c32
                                by_cases c33 : x219001_2.length < 8796093022208
                                · rw [if_pos c33] at H
                                  have LMc33 := Aside0.mk c33
                                  clear c33
                                  obtain ⟨y224, hy224⟩ : ∃ y_ : List (S67), y_ = (x219001_2 ++ [(⟨t222, ((rd l0 (ji30)) == 1)⟩ : S67)]) := ⟨_, rfl⟩
                                  replace H : (spec_DecodeDescriptor.l0 k2 l0 (wrap64 (x4_2 + 1)) t217 y224) = some (r1, r2, r3) := by first | (rw [hy224]; with_reducible exact H) | (have H2_ := (Option.bind_some _ _).symm.trans H; rw [hy224]; with_reducible exact H2_) | (have H2_ := (Option.bind_some _ _).symm.trans H; with_reducible exact H2_) | with_reducible exact H | (rw [hy224]; exact H) | exact H
                                  have Ny224 := Aside0.mk hy224
                                  clear hy224
                                  have H' := Aside0.mk H
                                  clear H
                                  obtain ⟨i034, hi034, _, hsz34, _⟩ := info_parts info5
                                  obtain ⟨A34, hcut34, hA34, hC34⟩ := print_mid_of (P := Tryd.prog) (Value.int .u8) 0 22 5 .i64 .i64 Tryd.underlying22 hi034 hsz34 A0 c0 l0 6 8 (by omega) (by first | omega | exact of_decide_eq_true (by first | (with_reducible assumption) | assumption)) (of_decide_eq_true (by first | (with_reducible assumption) | assumption)) HC0.out
                                  have HR219 := Aside0.mk (Kd.C_of_reads (h1 := fun _ => rfl) (hA34 _ (Kd.reads_of_C HR0.out)))
                                  have HC219 := Aside0.mk hC34
                                  clear hA34 hC34 hi034 hsz34
                                  try go_wp2_with (first | ((with_reducible refine gate_callee (f := 23) rfl ?_); refine goesL_ (some 23) rfl rfl Tryd.func23 (by kernel_rfl) rfl #[.slice A34 ((l0.take 8).drop 6).length (c0 - 6)] rfl (by (try simp only [List.map_toArray, List.map_cons, List.map_nil]); first | done | (rw [show ((l0.take 8).drop 6).length = (8 - 6) from (by rw [List.length_drop, List.length_take]; have h_ : (8 : Int) ≤ (l0.length : Int) := of_decide_eq_true (by first | (with_reducible assumption) | assumption); omega)] <;> rfl) | rfl | (simp only [List.length_drop, List.length_take]; rfl)) ?_; (with_reducible refine (spec_GetNumber.calls k2 _ _ ((l0.take 8).drop 6) t220 _ ?side1 ?side2 A23.out).mono ?_); (case side1 => repeat (first | exact (Kd.C_below HR219.out HB.out) | (with_reducible refine Kd.C_alloc ?_ _) | (with_reducible refine Kd.C_drewN ?_ _) | (with_reducible refine Kd.C_drew ?_))); (case side2 => exact HC219.out); rintro e w' ⟨rfl, ⟨nd, rfl⟩⟩; refine ⟨_, rfl, ?_⟩; (try (rw [drewN_self wr]; generalize hq_ : World.drewN wr _ = wr; have n0_ : Aside0 (Kd.R k67 67 wr w.heap.size (fun _ => True) u219001 x219001_2) := ⟨by rw [← hq_]; exact (by (with_reducible repeat (first | apply Kd.R_alloc | apply Kd.R_drewN | apply Kd.R_drew)); exact HO_219001.out)⟩; have n1_ : Aside0 (wr.heap[gb212]? = some (.cells #[.bool false, .int .i64 0, .slice none 0 0] 45 (0, 0))) := ⟨by rw [← hq_]; exact (by (with_reducible repeat (first | refine blk_drewN ?_ _ | refine blk_drew ?_ | refine blk_alloc ?_ _)); exact BK212.out)⟩; have n2_ : Aside0 (wr.heap[gb218]? = some (.cells #[.int .i64 t217, u219001] 43 (0, 0))) := ⟨by rw [← hq_]; exact (by (with_reducible repeat (first | refine blk_drewN ?_ _ | refine blk_drew ?_ | refine blk_alloc ?_ _)); exact BK218.out)⟩; have n3_ : Aside0 (Below w.heap.size w wr) := ⟨by rw [← hq_]; exact (by repeat (first | (with_reducible first | exact HB.out | apply below_alloc | apply pw_below_drewN | apply below_drew1 | refine below_set ?_ GE212.out | refine below_set ?_ GE218.out) | exact HB.out))⟩; clear HO_219001 BK212 BK218 HB hq_; have HO_219001 := n0_; have BK212 := n1_; have BK218 := n2_; have HB := n3_; clear n0_ n1_ n2_ n3_))))
                                  have n0_ := Aside0.mk (Kd.R_drew HO_219001.out)
                                  have n1_ := Aside0.mk (blk_drew BK212.out)
                                  have n2_ := Aside0.mk (blk_drew BK218.out)
                                  have n3_ := Aside0.mk (below_drew1 HB.out)
                                  clear HO_219001
                                  clear BK212
                                  clear BK218
                                  clear HB
                                  have HO_219001 := n0_
                                  have BK212 := n1_
                                  have BK218 := n2_
                                  have HB := n3_
                                  clear n0_ n1_ n2_ n3_
                                  obtain ⟨i036, hi036, _, hsz36, _⟩ := info_parts info5
                                  obtain ⟨A36, hcut36, hA36, hC36⟩ := print_mid_of (P := Tryd.prog) (Value.int .u8) 0 22 5 .i64 .i64 Tryd.underlying22 hi036 hsz36 A0 c0 l0 (ji25) (ji30) (of_decide_eq_true (by first | (with_reducible assumption) | assumption)) (by first | omega | exact of_decide_eq_true (by first | (with_reducible assumption) | assumption)) (of_decide_eq_true (by first | (with_reducible assumption) | assumption)) HC0.out
                                  have HR221 := Aside0.mk (Kd.C_of_reads (h1 := fun _ => rfl) (hA36 _ (Kd.reads_of_C HR0.out)))
                                  have HC221 := Aside0.mk hC36
                                  clear hA36 hC36 hi036 hsz36
                                  have p223 : 0 ≤ ((ji30) : Int) := of_decide_eq_true (by first | (with_reducible assumption) | assumption)
                                  have q223 : (ji30) < (l0.length : Int) := of_decide_eq_true (by first | (with_reducible assumption) | assumption)
                                  obtain ⟨ad223, e223, hx223_0⟩ := Kd.at_int HR0.out (ji30) p223 q223
                                  have hw223_0 := hx223_0
                                  cases e223
                                  replace hx223_0 := (HB.out.cell (World.block_lt_of_cell? w _ hx223_0)).trans hx223_0
                                  replace p223 := eq_true p223
                                  replace q223 := eq_true q223
                                  refine start_ (n := 19) (S := fun w' => w'.cell? ⟨gb218, 0, none⟩ = some (.int .i64 t217) ∧ w'.cell? ⟨gb218, 1, none⟩ = some (u219001) ∧ w'.cell? (ad223.add ((ji30)).toNat) = some (.int .u8 (rd l0 (ji30)))) (ds := [18]) #[false, false, false, false, false, false, false, false, false, false, false, false, false, false, false, false, false, false, false] (by kernel_rfl) rfl rfl ⟨(blk_cell BK218.out 0).trans rfl, (blk_cell BK218.out 1).trans rfl, ((HB.out.cell (World.block_lt_of_cell? w _ hw223_0)).trans hw223_0)⟩ (fun hHeld => ?_); refine with_tabW spec_DecodeDescriptor.tab8 spec_DecodeDescriptor.bits8 (fun HT_ HW_ => ?_)
                                  generalize wr.drew = w35 at HO_219001 BK212 BK218 HB HR221 hx223_0 hHeld ⊢
                                  refine pure_ (i := 0) (N := some 30) (v := ?_) (a' := ?_) #[true, false, false, false, false, false, false, false, false, false, false, false, false, false, false, false, false, false, false] rfl rfl (any_of HT_.out (by kernel_rfl)) (fun _ _ _ h => h) (Or.inl ⟨by rfl, ?_⟩) ?_ ?_
                                  rotate_left
                                  · intro w'
                                    go_simp
                                    with_reducible rfl
                                  rotate_left
                                  · simp only [Act.put, List.setIfInBounds_toArray, List.set_cons_zero, List.set_cons_succ, i64_w, i32_w]
                                    rfl
                                  refine pure_ (i := 2) (N := some 32) (v := ?_) (a' := ?_) #[true, false, true, false, false, false, false, false, false, false, false, false, false, false, false, false, false, false, false] rfl rfl (any_of HT_.out (by kernel_rfl)) (fun _ _ _ h => h) (Or.inl ⟨by rfl, ?_⟩) ?_ ?_
                                  rotate_left
                                  · intro w'
                                    go_simp
                                    with_reducible rfl
                                  rotate_left
                                  · simp only [Act.put, List.setIfInBounds_toArray, List.set_cons_zero, List.set_cons_succ, i64_w, i32_w]
                                    rfl
                                  refine pure_ (i := 3) (N := some 33) (v := ?_) (a' := ?_) #[true, false, true, true, false, false, false, false, false, false, false, false, false, false, false, false, false, false, false] rfl rfl (any_of HT_.out (by kernel_rfl)) (fun _ _ _ h => h) (Or.inl ⟨by rfl, ?_⟩) ?_ ?_
                                  rotate_left
                                  · intro w'
                                    go_simp
                                    with_reducible rfl
                                  rotate_left
                                  · simp only [Act.put, List.setIfInBounds_toArray, List.set_cons_zero, List.set_cons_succ, i64_w, i32_w]
                                    rfl
                                  refine pure_ (i := 4) (N := some 34) (v := ?_) (a' := ?_) #[true, false, true, true, true, false, false, false, false, false, false, false, false, false, false, false, false, false, false] rfl rfl (any_of HT_.out (by kernel_rfl)) (fun _ _ _ h => h) (Or.inl ⟨by rfl, ?_⟩) ?_ ?_
                                  rotate_left
                                  · intro w'
                                    go_simp
                                    with_reducible rfl
                                  rotate_left
                                  · simp only [Act.put, List.setIfInBounds_toArray, List.set_cons_zero, List.set_cons_succ, i64_w, i32_w]
                                    rfl
                                  refine pure_ (i := 5) (N := some 35) (v := ?_) (a' := ?_) #[true, false, true, true, true, true, false, false, false, false, false, false, false, false, false, false, false, false, false] rfl rfl (any_of HT_.out (by kernel_rfl)) (fun _ _ _ h => h) (Or.inl ⟨by rfl, ?_⟩) ?_ ?_
                                  rotate_left
                                  · intro w'
                                    go_simp
                                    with_reducible rfl
                                  rotate_left
                                  · simp only [Act.put, List.setIfInBounds_toArray, List.set_cons_zero, List.set_cons_succ, i64_w, i32_w]
                                    rfl
                                  refine pure_ (i := 6) (N := some 36) (v := ?_) (a' := ?_) #[true, false, true, true, true, true, true, false, false, false, false, false, false, false, false, false, false, false, false] rfl rfl (any_of HT_.out (by kernel_rfl)) (fun _ _ _ h => h) (Or.inl ⟨by rfl, ?_⟩) ?_ ?_
                                  rotate_left
                                  · intro w'
                                    go_simp
                                    with_reducible rfl
                                  rotate_left
                                  · simp only [Act.put, List.setIfInBounds_toArray, List.set_cons_zero, List.set_cons_succ, i64_w, i32_w]
                                    rfl
                                  refine pure_ (i := 8) (N := some 38) (v := ?_) (a' := ?_) #[true, false, true, true, true, true, true, false, true, false, false, false, false, false, false, false, false, false, false] rfl rfl (any_of HT_.out (by kernel_rfl)) (fun _ _ _ h => h) (Or.inl ⟨by rfl, ?_⟩) ?_ ?_
                                  rotate_left
                                  · intro w'
                                    go_simp
                                    with_reducible rfl
                                  rotate_left
                                  · simp only [Act.put, List.setIfInBounds_toArray, List.set_cons_zero, List.set_cons_succ, i64_w, i32_w]
                                    rfl
                                  refine pure_ (i := 9) (N := some 39) (v := ?_) (a' := ?_) #[true, false, true, true, true, true, true, false, true, true, false, false, false, false, false, false, false, false, false] rfl rfl (any_of HT_.out (by kernel_rfl)) (fun _ _ _ h => h) (Or.inl ⟨by rfl, ?_⟩) ?_ ?_
                                  rotate_left
                                  · intro w'
                                    go_simp
                                    with_reducible rfl
                                  rotate_left
                                  · simp only [Act.put, List.setIfInBounds_toArray, List.set_cons_zero, List.set_cons_succ, i64_w, i32_w]
                                    rfl
                                  refine pure_ (i := 10) (N := some 40) (v := ?_) (a' := ?_) #[true, false, true, true, true, true, true, false, true, true, true, false, false, false, false, false, false, false, false] rfl rfl (any_of HT_.out (by kernel_rfl)) (fun _ _ _ h => h) (Or.inl ⟨by rfl, ?_⟩) ?_ ?_
                                  rotate_left
                                  · intro w'
                                    go_simp
                                    with_reducible rfl
                                  rotate_left
                                  · simp only [Act.put, List.setIfInBounds_toArray, List.set_cons_zero, List.set_cons_succ, i64_w, i32_w]
                                    rfl
                                  refine pure_ (i := 11) (N := some 41) (v := ?_) (a' := ?_) #[true, false, true, true, true, true, true, false, true, true, true, true, false, false, false, false, false, false, false] rfl rfl (any_of HT_.out (by kernel_rfl)) (fun _ _ _ h => h) (Or.inl ⟨by rfl, ?_⟩) ?_ ?_
                                  rotate_left
                                  · intro w'
                                    go_simp
                                    with_reducible rfl
                                  rotate_left
                                  · simp only [Act.put, List.setIfInBounds_toArray, List.set_cons_zero, List.set_cons_succ, i64_w, i32_w]
                                    rfl
                                  refine take_ (i := 1) (N := some 31) (v := ?_) (a' := ?_) #[true, true, true, true, true, true, true, false, true, true, true, true, false, false, false, false, false, false, false] rfl rfl (take_ofW HT_.out HW_.out (by kernel_rfl)) (fun _ _ _ h => h) (Or.inl ⟨by rfl, ?_⟩) hHeld ?_ ?_
                                  rotate_left
                                  · rintro w' ⟨s0, s1, s2⟩
                                    go_simp
                                    with_reducible rfl
                                  rotate_left
                                  · simp only [Act.put, List.setIfInBounds_toArray, List.set_cons_zero, List.set_cons_succ, i64_w, i32_w]
                                    rfl
                                  refine take_ (i := 12) (N := some 42) (v := ?_) (a' := ?_) #[true, true, true, true, true, true, true, false, true, true, true, true, true, false, false, false, false, false, false] rfl rfl (take_ofW HT_.out HW_.out (by kernel_rfl)) (fun _ _ _ h => h) (Or.inl ⟨by rfl, ?_⟩) hHeld ?_ ?_
                                  rotate_left
                                  · rintro w' ⟨s0, s1, s2⟩
                                    go_simp
                                    with_reducible rfl
                                  rotate_left
                                  · simp only [Act.put, List.setIfInBounds_toArray, List.set_cons_zero, List.set_cons_succ, i64_w, i32_w]
                                    rfl
                                  refine pure_ (i := 13) (N := some 43) (v := ?_) (a' := ?_) #[true, true, true, true, true, true, true, false, true, true, true, true, true, true, false, false, false, false, false] rfl rfl (any_of HT_.out (by kernel_rfl)) (fun _ _ _ h => h) (Or.inl ⟨by rfl, ?_⟩) ?_ ?_
                                  rotate_left
                                  · intro w'
                                    go_simp
                                    with_reducible rfl
                                  rotate_left
                                  · simp only [Act.put, List.setIfInBounds_toArray, List.set_cons_zero, List.set_cons_succ, i64_w, i32_w]
                                    rfl
                                  refine one_ (i := 7) (N := some 37) #[true, true, true, true, true, true, true, true, true, true, true, true, true, true, false, false, false, false, false] rfl rfl (one_of HT_.out (by kernel_rfl)) (by decide) (fun K hK => ?_)
                                  refine goes_ Tryd.func23 (by kernel_rfl) rfl #[.slice A36 ((l0.take ((ji30) : Int).toNat).drop ((ji25) : Int).toNat).length (c0 - (ji25).toNat)] (by rfl) rfl rfl (by (try simp only [List.map_toArray, List.map_cons, List.map_nil]); first | done | (rw [show ((l0.take ((ji30) : Int).toNat).drop ((ji25) : Int).toNat).length = ((ji30).toNat - (ji25).toNat) from (by rw [List.length_drop, List.length_take]; have h_ : ((ji30) : Int) ≤ (l0.length : Int) := of_decide_eq_true (by first | (with_reducible assumption) | assumption); omega)] <;> rfl) | (simp only [hji25, hji30]; rfl) | rfl | (simp only [List.length_drop, List.length_take]; rfl)) ?_
                                  with_reducible refine (spec_GetNumber.calls k2 _ _ ((l0.take ((ji30) : Int).toNat).drop ((ji25) : Int).toNat) t222 _ ?side1 ?side2 A29.out).mono ?_
                                  (case side1 => repeat (first | exact (Kd.C_below HR221.out HB.out) | (with_reducible refine Kd.C_alloc ?_ _) | (with_reducible refine Kd.C_drewN ?_ _) | (with_reducible refine Kd.C_drew ?_)))
                                  (case side2 => exact HC221.out)
                                  rintro e w' ⟨rfl, ⟨nd, rfl⟩⟩
                                  refine ⟨_, rfl, ?_⟩
                                  refine hK.out _ _ ⟨(blk_cell BK218.out 0).trans rfl, (blk_cell BK218.out 1).trans rfl, ((HB.out.cell (World.block_lt_of_cell? w _ hw223_0)).trans hw223_0)⟩ (fun hHeld => ?_)
                                  clear hK K
                                  refine norm_ (a' := ?_) ?_ ?_
                                  rotate_left
                                  · show Act.put _ (some 37) _ = _
                                    simp only [Act.put, List.setIfInBounds_toArray, List.set_cons_zero, List.set_cons_succ, i64_w, i32_w]
                                    rfl
                                  refine pure_ (i := 14) (N := some 44) (v := ?_) (a' := ?_) #[true, true, true, true, true, true, true, true, true, true, true, true, true, true, true, false, false, false, false] rfl rfl (any_of HT_.out (by kernel_rfl)) (fun _ _ _ h => h) (Or.inl ⟨by rfl, ?_⟩) ?_ ?_
                                  rotate_left
                                  · intro w'
                                    go_simp
                                    with_reducible rfl
                                  rotate_left
                                  · simp only [Act.put, List.setIfInBounds_toArray, List.set_cons_zero, List.set_cons_succ, i64_w, i32_w]
                                    rfl
                                  refine one_ (i := 15) (N := some 45) #[true, true, true, true, true, true, true, true, true, true, true, true, true, true, true, true, false, false, false] rfl rfl (one_of HT_.out (by kernel_rfl)) (by decide) (fun K hK => ?_)
                                  refine value_ (w1 := ?_) (v := ?_) (by rfl) rfl ?_ ?_
                                  rotate_left 2
                                  · go_simp
                                    constructor
                                    · rfl
                                    · rfl
                                  refine hK.out _ _ ⟨(blk_cell (blk_alloc BK218.out _) 0).trans rfl, (blk_cell (blk_alloc BK218.out _) 1).trans rfl, (World.cell?_alloc_lt _ _ _ (World.block_lt_of_cell? _ _ (((HB.out.cell (World.block_lt_of_cell? w _ hw223_0)).trans hw223_0)))).trans (((HB.out.cell (World.block_lt_of_cell? w _ hw223_0)).trans hw223_0))⟩ (fun hHeld => ?_)
                                  clear hK K
                                  refine norm_ (a' := ?_) ?_ ?_
                                  rotate_left
                                  · show Act.put _ (some 45) _ = _
                                    simp only [Act.put, List.setIfInBounds_toArray, List.set_cons_zero, List.set_cons_succ, i64_w, i32_w]
                                    rfl
                                  refine one_ (i := 16) (N := some 46) #[true, true, true, true, true, true, true, true, true, true, true, true, true, true, true, true, true, false, false] rfl rfl (one_of HT_.out (by kernel_rfl)) (by decide) (fun K hK => ?_)
                                  refine Kd.R_append_step k67 (w0 := w) w.heap.size (by rfl) (.tmp 31) (.tmp 45) 41 67 (.agg #[(.int .i64 0), (.bool false)]) 16 rfl Tryd.underlying41 info67 rfl (by decide) (by omega) u219001 x219001_2 (⟨t222, ((rd l0 (ji30)) == 1)⟩ : S67) [.int .i64 t222, .bool ((rd l0 (ji30)) == 1)] (fun _ => True) (fun _ => False) rfl rfl ?aP (fun _ hk => hk.elim) ?aF ?aO ?aB ?aS ?aL ?_
                                  (case aP => exact k67_mkM _ _ _ (⟨t222, ((rd l0 (ji30)) == 1)⟩ : S67))
                                  (case aB => exact (by repeat (first | (with_reducible first | exact HB.out | apply below_alloc | apply pw_below_drewN | apply below_drew1 | refine below_set ?_ GE212.out | refine below_set ?_ GE218.out) | exact HB.out)))
                                  (case aF => exact (fun _ _ => trivial))
                                  (case aO => exact (by (with_reducible repeat (first | apply Kd.R_alloc | apply Kd.R_drewN | apply Kd.R_drew)); exact HO_219001.out))
                                  (case aS => exact (below_size (by repeat (first | (with_reducible first | exact HB.out | apply below_alloc | apply pw_below_drewN | apply below_drew1 | refine below_set ?_ GE212.out | refine below_set ?_ GE218.out) | exact HB.out))))
                                  (case aL => have := LMc33.out; omega)
                                  intro v225 w37 ho hb hg hat
                                  rw [← Ny224.out] at ho
                                  have n0_ := Aside0.mk (blk_grown (g := gb212) (o := .cells #[.bool false, .int .i64 0, .slice none 0 0] 45 (0, 0)) (by (with_reducible repeat (first | refine blk_drewN ?_ _ | refine blk_drew ?_ | refine blk_alloc ?_ _)); exact BK212.out) hg (Kd.R_ne HO_219001.out BK212.out (by decide)))
                                  have n1_ := Aside0.mk (blk_grown (g := gb218) (o := .cells #[.int .i64 t217, u219001] 43 (0, 0)) (by (with_reducible repeat (first | refine blk_drewN ?_ _ | refine blk_drew ?_ | refine blk_alloc ?_ _)); exact BK218.out) hg (Kd.R_ne HO_219001.out BK218.out (by decide)))
                                  have n2_ := Aside0.mk (hb)
                                  have n3_ := Aside0.mk (ho)
                                  clear BK212
                                  clear BK218
                                  clear HB
                                  clear HO_219001
                                  have BK212 := n0_
                                  have BK218 := n1_
                                  have HB := n2_
                                  have HO226 := n3_
                                  clear n0_ n1_ n2_ n3_
                                  clear ho hb hg hat
                                  obtain ⟨Ao38, co38, eo38⟩ := Kd.R_slice HO226.out
                                  (first | subst eo38 | (injection eo38 with f1_ f2_ f3_; have f4_ := f1_.symm; have f5_ := f3_.symm; clear f1_ f2_ f3_; subst f4_; subst f5_))
                                  refine hK.out _ _ ⟨(blk_cell BK218.out 0).trans rfl, (blk_cell BK218.out 1).trans rfl, ((HB.out.cell (World.block_lt_of_cell? w _ hw223_0)).trans hw223_0)⟩ (fun hHeld => ?_)
                                  clear hK K
                                  refine norm_ (a' := ?_) ?_ ?_
                                  rotate_left
                                  · show Act.put _ (some 46) _ = _
                                    simp only [Act.put, List.setIfInBounds_toArray, List.set_cons_zero, List.set_cons_succ, i64_w, i32_w]
                                    rfl
                                  refine pure_ (i := 17) (N := some 47) (v := ?_) (a' := ?_) #[true, true, true, true, true, true, true, true, true, true, true, true, true, true, true, true, true, true, false] rfl rfl (any_of HT_.out (by kernel_rfl)) (fun _ _ _ h => h) (Or.inl ⟨by rfl, ?_⟩) ?_ ?_
                                  rotate_left
                                  · intro w'
                                    go_simp
                                    with_reducible rfl
                                  rotate_left
                                  · simp only [Act.put, List.setIfInBounds_toArray, List.set_cons_zero, List.set_cons_succ, i64_w, i32_w]
                                    rfl
                                  refine last_ (i := 18) (N := none) #[true, true, true, true, true, true, true, true, true, true, true, true, true, true, true, true, true, true, true] rfl rfl (one_of HT_.out (by kernel_rfl)) (by decide) (fun K hK => ?_)
                                  have hs39 : w37.cell? ⟨gb218, 1, none⟩ = some (u219001) := (blk_cell BK218.out 1).trans rfl
                                  have hfs39 := blk_frozen BK218.out 1
                                  have hns39_0 := NB212_218.out
                                  have hms39_0 := NB218_212.out
                                  refine skip_ (w1 := ?_) (by rfl) rfl ?_ ?_
                                  rotate_left
                                  · go_simp
                                    rfl
                                  refine hK.out _ _ ?_
                                  clear hK K
                                  refine done_ (done_of HT_.out (by kernel_rfl)) ?_
                                  try go_wp2
                                  go_roundg k2
                                  case measure => have := HJ1.out; have := HK2.out; omega
                                  case rel => exact ⟨(wrap64 (x4_2 + 1)), (y224), (.slice Ao38 y224.length co38), (by first | rfl | (simp; done) | (simp [*]; done)), H', ⟨by have := HJ1.out; have := HK2.out; omega⟩, ⟨by (with_reducible repeat (first | apply Kd.R_alloc | apply Kd.R_drewN | apply Kd.R_drew)); exact Kd.R_mono (Kd.R_far (p := ⟨gb218, 1, none⟩) (Kd.R_types HO226.out BK218.out (by decide)) (fun _ hk => hk.2) (.slice Ao38 y224.length co38)) (fun _ hk => trivial)⟩, ⟨by (with_reducible repeat (first | refine blk_drewN ?_ _ | refine blk_drew ?_ | refine blk_alloc ?_ _)); refine blk_far ?_ NB212_218.out _; (with_reducible repeat (first | refine blk_drewN ?_ _ | refine blk_drew ?_ | refine blk_alloc ?_ _)); exact BK212.out⟩, ⟨by (with_reducible repeat (first | refine blk_drewN ?_ _ | refine blk_drew ?_ | refine blk_alloc ?_ _)); refine blk_put (cs := #[.int .i64 t217, u219001]) ?_ 1 _ rfl; (with_reducible repeat (first | refine blk_drewN ?_ _ | refine blk_drew ?_ | refine blk_alloc ?_ _)); exact BK218.out⟩, ⟨by repeat (first | (with_reducible first | exact HB.out | apply below_alloc | apply pw_below_drewN | apply below_drew1 | refine below_set ?_ GE212.out | refine below_set ?_ GE218.out) | exact HB.out)⟩⟩
                                · rw [if_neg c33] at H
                                  exact absurd H (by simp)
                              · rw [if_neg c32] at H
                                exact absurd H (by simp)
                            · rw [if_neg c31] at H
                              exact absurd H (by simp)
                          · rw [if_neg c28] at H
                            exact absurd H (by simp)
                        · rw [if_neg c27] at H
                          exact absurd H (by simp)
                      · rw [if_neg c26] at H
                        exact absurd H (by simp)
                    · rw [if_neg c24] at H
                      have c24b0 : decide (x4_2 < t220) = false := decide_eq_false c24
                      clear c24
                      replace H := Option.bind_eq_some_iff.mp H
                      obtain ⟨t227, A400, H⟩ := H
                      replace H : ((spec_l2Same.f t227 l0).bind fun t230 => (if t230 = true then (some (true, t217, x219001_2)) else (some (false, 0, ([] : List (S67)))))) = some (r1, r2, r3) := H
                      have A40 := Aside0.mk A400
                      clear A400
                      replace H := Option.bind_eq_some_iff.mp H
                      obtain ⟨t230, A410, H⟩ := H
                      replace H : (if t230 = true then (some (true, t217, x219001_2)) else (some (false, 0, ([] : List (S67))))) = some (r1, r2, r3) := H
                      have A41 := Aside0.mk A410
                      clear A410
                      by_cases c42 : t230 = true
                      · subst c42
                        have H1 : (some (true, t217, x219001_2)) = some (r1, r2, r3) := by rw [if_pos rfl] at H; exact H
                        clear H
                        have H := H1
                        clear H1
                        simp only [Option.some.injEq, Prod.mk.injEq] at H
                        obtain ⟨rfl, rfl, rfl⟩ := H
                        obtain ⟨i043, hi043, _, hsz43, _⟩ := info_parts info5
                        obtain ⟨A43, hcut43, hA43, hC43⟩ := print_mid_of (P := Tryd.prog) (Value.int .u8) 0 22 5 .i64 .i64 Tryd.underlying22 hi043 hsz43 A0 c0 l0 6 8 (by omega) (by first | omega | exact of_decide_eq_true (by first | (with_reducible assumption) | assumption)) (of_decide_eq_true (by first | (with_reducible assumption) | assumption)) HC0.out
                        have HR219 := Aside0.mk (Kd.C_of_reads (h1 := fun _ => rfl) (hA43 _ (Kd.reads_of_C HR0.out)))
                        have HC219 := Aside0.mk hC43
                        clear hA43 hC43 hi043 hsz43
                        go_wp2_with (first | ((with_reducible refine gate_callee (f := 23) rfl ?_); refine goesL_ (some 23) rfl rfl Tryd.func23 (by kernel_rfl) rfl #[.slice A43 ((l0.take 8).drop 6).length (c0 - 6)] rfl (by (try simp only [List.map_toArray, List.map_cons, List.map_nil]); first | done | (rw [show ((l0.take 8).drop 6).length = (8 - 6) from (by rw [List.length_drop, List.length_take]; have h_ : (8 : Int) ≤ (l0.length : Int) := of_decide_eq_true (by first | (with_reducible assumption) | assumption); omega)] <;> rfl) | rfl | (simp only [List.length_drop, List.length_take]; rfl)) ?_; (with_reducible refine (spec_GetNumber.calls k2 _ _ ((l0.take 8).drop 6) t220 _ ?side1 ?side2 A23.out).mono ?_); (case side1 => repeat (first | exact (Kd.C_below HR219.out HB.out) | (with_reducible refine Kd.C_alloc ?_ _) | (with_reducible refine Kd.C_drewN ?_ _) | (with_reducible refine Kd.C_drew ?_))); (case side2 => exact HC219.out); rintro e w' ⟨rfl, ⟨nd, rfl⟩⟩; refine ⟨_, rfl, ?_⟩; (try (rw [drewN_self wr]; generalize hq_ : World.drewN wr _ = wr; have n0_ : Aside0 (Kd.R k67 67 wr w.heap.size (fun _ => True) u219001 x219001_2) := ⟨by rw [← hq_]; exact (by (with_reducible repeat (first | apply Kd.R_alloc | apply Kd.R_drewN | apply Kd.R_drew)); exact HO_219001.out)⟩; have n1_ : Aside0 (wr.heap[gb212]? = some (.cells #[.bool false, .int .i64 0, .slice none 0 0] 45 (0, 0))) := ⟨by rw [← hq_]; exact (by (with_reducible repeat (first | refine blk_drewN ?_ _ | refine blk_drew ?_ | refine blk_alloc ?_ _)); exact BK212.out)⟩; have n2_ : Aside0 (wr.heap[gb218]? = some (.cells #[.int .i64 t217, u219001] 43 (0, 0))) := ⟨by rw [← hq_]; exact (by (with_reducible repeat (first | refine blk_drewN ?_ _ | refine blk_drew ?_ | refine blk_alloc ?_ _)); exact BK218.out)⟩; have n3_ : Aside0 (Below w.heap.size w wr) := ⟨by rw [← hq_]; exact (by repeat (first | (with_reducible first | exact HB.out | apply below_alloc | apply pw_below_drewN | apply below_drew1 | refine below_set ?_ GE212.out | refine below_set ?_ GE218.out) | exact HB.out))⟩; clear HO_219001 BK212 BK218 HB hq_; have HO_219001 := n0_; have BK212 := n1_; have BK218 := n2_; have HB := n3_; clear n0_ n1_ n2_ n3_)); have hnb44 := NB218_212.out; have hnc44 := NB212_218.out; have hcz45_0 : wr.cell? ⟨gb218, 0, none⟩ = some (.int .i64 t217) := (blk_cell BK218.out 0).trans rfl; have hcz45_1 : wr.cell? ⟨gb218, 1, none⟩ = some (u219001) := (blk_cell BK218.out 1).trans rfl; have hfz45_0 := blk_frozen BK218.out 0; have hfz45_1 := blk_frozen BK218.out 1; obtain ⟨Ao46, co46, eo46⟩ := Kd.R_slice HO_219001.out; subst eo46) | ((with_reducible refine gate_callee (f := 37) rfl ?_); refine goesL_ (some 49) rfl rfl Tryd.func37 (by kernel_rfl) rfl #[.agg #[.int .i64 t217, .slice Ao46 x219001_2.length co46]] rfl (by (try simp only [List.map_toArray, List.map_cons, List.map_nil]); first | done | rfl | (simp only [List.length_drop, List.length_take]; rfl)) ?_; (with_reducible refine (spec_EncodeDescriptor.calls k2 t217 _ _ x219001_2 t227 _ ?side1 ?side2 A40.out).mono ?_); (case side1 => repeat (first | exact (Kd.R_reads' HO_219001.out).2.2 | (with_reducible refine Kd.C_alloc ?_ _) | (with_reducible refine Kd.C_drewN ?_ _) | (with_reducible refine Kd.C_drew ?_))); (case side2 => exact (Kd.R_reads' HO_219001.out).2.1); rintro e w47 ⟨v228, rfl, ho0, hb⟩; refine ⟨_, rfl, ?_⟩; have n0_ := Aside0.mk (Kd.R_below (by (with_reducible repeat (first | apply Kd.R_alloc | apply Kd.R_drewN | apply Kd.R_drew)); exact HO_219001.out) hb); have n1_ := Aside0.mk (Kd.R_lower ho0 (below_size (by repeat (first | (with_reducible first | exact HB.out | apply below_alloc | apply pw_below_drewN | apply below_drew1 | refine below_set ?_ GE212.out | refine below_set ?_ GE218.out) | exact HB.out)))); have n2_ := Aside0.mk (blk_below (g := gb212) (o := .cells #[.bool false, .int .i64 0, .slice none 0 0] 45 (0, 0)) (by (with_reducible repeat (first | refine blk_drewN ?_ _ | refine blk_drew ?_ | refine blk_alloc ?_ _)); exact BK212.out) hb); have n3_ := Aside0.mk (blk_below (g := gb218) (o := .cells #[.int .i64 t217, .slice Ao46 x219001_2.length co46] 43 (0, 0)) (by (with_reducible repeat (first | refine blk_drewN ?_ _ | refine blk_drew ?_ | refine blk_alloc ?_ _)); exact BK218.out) hb); have n4_ := Aside0.mk (below_step (by repeat (first | (with_reducible first | exact HB.out | apply below_alloc | apply pw_below_drewN | apply below_drew1 | refine below_set ?_ GE212.out | refine below_set ?_ GE218.out) | exact HB.out)) hb); clear HO_219001; clear BK212; clear BK218; clear HB; have HO_219001 := n0_; have HO229 := n1_; have BK212 := n2_; have BK218 := n3_; have HB := n4_; clear n0_ n1_ n2_ n3_ n4_; (try clear hb); (try clear hb2); (try clear hk); (try clear hi); (try clear ho0); obtain ⟨Ao48, co48, eo48⟩ := Kd.R_slice HO229.out; subst eo48) | ((with_reducible refine gate_callee (f := 24) rfl ?_); refine goesL_ (some 51) rfl rfl Tryd.func24 (by kernel_rfl) rfl #[.slice Ao48 t227.length co48, .slice A0 l0.length c0] rfl (by (try simp only [List.map_toArray, List.map_cons, List.map_nil]); first | done | rfl | (simp only [List.length_drop, List.length_take]; rfl)) ?_; (with_reducible refine (spec_l2Same.calls _ _ t227 _ _ l0 true _ ?side1 ?side2 ?side3 ?side4 A41.out).mono ?_); (case side1 => repeat (first | exact (Kd.R_reads' HO229.out).2.2 | (with_reducible refine Kd.C_alloc ?_ _) | (with_reducible refine Kd.C_drewN ?_ _) | (with_reducible refine Kd.C_drew ?_))); (case side2 => exact (Kd.R_reads' HO229.out).2.1); (case side3 => repeat (first | exact (Kd.C_below HR0.out HB.out) | (with_reducible refine Kd.C_alloc ?_ _) | (with_reducible refine Kd.C_drewN ?_ _) | (with_reducible refine Kd.C_drew ?_))); (case side4 => exact HC0.out); rintro e w' ⟨rfl, ⟨nd, rfl⟩⟩; refine ⟨_, rfl, ?_⟩; (try (rw [drewN_self w47]; generalize hq_ : World.drewN w47 _ = w47; have n0_ : Aside0 (Kd.R (Kd.int .u8) 5 w47 w.heap.size (fun _ => True) (.slice Ao48 t227.length co48) t227) := ⟨by rw [← hq_]; exact (by (with_reducible repeat (first | apply Kd.R_alloc | apply Kd.R_drewN | apply Kd.R_drew)); exact HO229.out)⟩; have n1_ : Aside0 (Kd.R k67 67 w47 w.heap.size (fun _ => True) (.slice Ao46 x219001_2.length co46) x219001_2) := ⟨by rw [← hq_]; exact (by (with_reducible repeat (first | apply Kd.R_alloc | apply Kd.R_drewN | apply Kd.R_drew)); exact HO_219001.out)⟩; have n2_ : Aside0 (w47.heap[gb212]? = some (.cells #[.bool false, .int .i64 0, .slice none 0 0] 45 (0, 0))) := ⟨by rw [← hq_]; exact (by (with_reducible repeat (first | refine blk_drewN ?_ _ | refine blk_drew ?_ | refine blk_alloc ?_ _)); exact BK212.out)⟩; have n3_ : Aside0 (w47.heap[gb218]? = some (.cells #[.int .i64 t217, .slice Ao46 x219001_2.length co46] 43 (0, 0))) := ⟨by rw [← hq_]; exact (by (with_reducible repeat (first | refine blk_drewN ?_ _ | refine blk_drew ?_ | refine blk_alloc ?_ _)); exact BK218.out)⟩; have n4_ : Aside0 (Below w.heap.size w w47) := ⟨by rw [← hq_]; exact (by repeat (first | (with_reducible first | exact HB.out | apply below_alloc | apply pw_below_drewN | apply below_drew1 | refine below_set ?_ GE212.out | refine below_set ?_ GE218.out) | exact HB.out))⟩; clear HO229 HO_219001 BK212 BK218 HB hq_; have HO229 := n0_; have HO_219001 := n1_; have BK212 := n2_; have BK218 := n3_; have HB := n4_; clear n0_ n1_ n2_ n3_ n4_)); have hcz49_0 : w47.cell? ⟨gb218, 0, none⟩ = some (.int .i64 t217) := (blk_cell BK218.out 0).trans rfl; have hcz49_1 : w47.cell? ⟨gb218, 1, none⟩ = some (.slice Ao46 x219001_2.length co46) := (blk_cell BK218.out 1).trans rfl; have hfz49_0 := blk_frozen BK218.out 0; have hfz49_1 := blk_frozen BK218.out 1; have hcz50_0 : w47.cell? ⟨gb212, 0, none⟩ = some (.bool false) := (blk_cell BK212.out 0).trans rfl; have hcz50_1 : w47.cell? ⟨gb212, 1, none⟩ = some (.int .i64 0) := (blk_cell BK212.out 1).trans rfl; have hcz50_2 : w47.cell? ⟨gb212, 2, none⟩ = some (.slice none 0 0) := (blk_cell BK212.out 2).trans rfl; have hfz50_0 := blk_frozen BK212.out 0; have hfz50_1 := blk_frozen BK212.out 1; have hfz50_2 := blk_frozen BK212.out 2))
                        refine bodyPost_ret (results_cell_row rfl _ _ gb212 45 #[.bool true, .int .i64 t217, .slice Ao46 x219001_2.length co46] (0, 0) _ rfl (by (with_reducible repeat (first | refine blk_drewN ?_ _ | refine blk_drew ?_ | refine blk_alloc ?_ _)); refine blk_put (cs := #[.bool true, .int .i64 t217, .slice none 0 0]) ?_ 2 _ rfl; (with_reducible repeat (first | refine blk_drewN ?_ _ | refine blk_drew ?_ | refine blk_alloc ?_ _)); refine blk_put (cs := #[.bool true, .int .i64 0, .slice none 0 0]) ?_ 1 _ rfl; (with_reducible repeat (first | refine blk_drewN ?_ _ | refine blk_drew ?_ | refine blk_alloc ?_ _)); refine blk_put (cs := #[.bool false, .int .i64 0, .slice none 0 0]) ?_ 0 _ rfl; (with_reducible repeat (first | refine blk_drewN ?_ _ | refine blk_drew ?_ | refine blk_alloc ?_ _)); exact BK212.out) Tryd.underlying45 rfl (by kernel_rfl)) rfl ?_
                        exact ⟨_, by first | rfl | (simp [errW_none, errW_some] <;> rfl) | (simp [*, errW_none, errW_some] <;> rfl), by (with_reducible repeat (first | apply Kd.R_alloc | apply Kd.R_drewN | apply Kd.R_drew)); exact Kd.R_mono (Kd.R_far (p := ⟨gb212, 2, none⟩) (Kd.R_far (p := ⟨gb212, 1, none⟩) (Kd.R_far (p := ⟨gb212, 0, none⟩) (Kd.R_types HO_219001.out BK212.out (by decide)) (fun _ hk => hk.2) (.bool true)) (fun _ hk => hk.2) (.int .i64 t217)) (fun _ hk => hk.2) (.slice Ao46 x219001_2.length co46)) (fun _ hk => trivial), by repeat (first | (with_reducible first | exact HB.out | apply below_alloc | apply pw_below_drewN | apply below_drew1 | refine below_set ?_ GE212.out | refine below_set ?_ GE218.out) | exact HB.out)⟩
                      · replace c42 := Bool.eq_false_iff.mpr c42
                        subst c42
                        have H1 : (some (false, 0, ([] : List (S67)))) = some (r1, r2, r3) := by rw [if_neg (show ¬ (false = true) by decide)] at H; exact H
                        clear H
                        have H := H1
                        clear H1
                        simp only [Option.some.injEq, Prod.mk.injEq] at H
                        obtain ⟨rfl, rfl, rfl⟩ := H
                        obtain ⟨i051, hi051, _, hsz51, _⟩ := info_parts info5
                        obtain ⟨A51, hcut51, hA51, hC51⟩ := print_mid_of (P := Tryd.prog) (Value.int .u8) 0 22 5 .i64 .i64 Tryd.underlying22 hi051 hsz51 A0 c0 l0 6 8 (by omega) (by first | omega | exact of_decide_eq_true (by first | (with_reducible assumption) | assumption)) (of_decide_eq_true (by first | (with_reducible assumption) | assumption)) HC0.out
                        have HR219 := Aside0.mk (Kd.C_of_reads (h1 := fun _ => rfl) (hA51 _ (Kd.reads_of_C HR0.out)))
                        have HC219 := Aside0.mk hC51
                        clear hA51 hC51 hi051 hsz51
                        go_wp2_with (first | ((with_reducible refine gate_callee (f := 23) rfl ?_); refine goesL_ (some 23) rfl rfl Tryd.func23 (by kernel_rfl) rfl #[.slice A51 ((l0.take 8).drop 6).length (c0 - 6)] rfl (by (try simp only [List.map_toArray, List.map_cons, List.map_nil]); first | done | (rw [show ((l0.take 8).drop 6).length = (8 - 6) from (by rw [List.length_drop, List.length_take]; have h_ : (8 : Int) ≤ (l0.length : Int) := of_decide_eq_true (by first | (with_reducible assumption) | assumption); omega)] <;> rfl) | rfl | (simp only [List.length_drop, List.length_take]; rfl)) ?_; (with_reducible refine (spec_GetNumber.calls k2 _ _ ((l0.take 8).drop 6) t220 _ ?side1 ?side2 A23.out).mono ?_); (case side1 => repeat (first | exact (Kd.C_below HR219.out HB.out) | (with_reducible refine Kd.C_alloc ?_ _) | (with_reducible refine Kd.C_drewN ?_ _) | (with_reducible refine Kd.C_drew ?_))); (case side2 => exact HC219.out); rintro e w' ⟨rfl, ⟨nd, rfl⟩⟩; refine ⟨_, rfl, ?_⟩; (try (rw [drewN_self wr]; generalize hq_ : World.drewN wr _ = wr; have n0_ : Aside0 (Kd.R k67 67 wr w.heap.size (fun _ => True) u219001 x219001_2) := ⟨by rw [← hq_]; exact (by (with_reducible repeat (first | apply Kd.R_alloc | apply Kd.R_drewN | apply Kd.R_drew)); exact HO_219001.out)⟩; have n1_ : Aside0 (wr.heap[gb212]? = some (.cells #[.bool false, .int .i64 0, .slice none 0 0] 45 (0, 0))) := ⟨by rw [← hq_]; exact (by (with_reducible repeat (first | refine blk_drewN ?_ _ | refine blk_drew ?_ | refine blk_alloc ?_ _)); exact BK212.out)⟩; have n2_ : Aside0 (wr.heap[gb218]? = some (.cells #[.int .i64 t217, u219001] 43 (0, 0))) := ⟨by rw [← hq_]; exact (by (with_reducible repeat (first | refine blk_drewN ?_ _ | refine blk_drew ?_ | refine blk_alloc ?_ _)); exact BK218.out)⟩; have n3_ : Aside0 (Below w.heap.size w wr) := ⟨by rw [← hq_]; exact (by repeat (first | (with_reducible first | exact HB.out | apply below_alloc | apply pw_below_drewN | apply below_drew1 | refine below_set ?_ GE212.out | refine below_set ?_ GE218.out) | exact HB.out))⟩; clear HO_219001 BK212 BK218 HB hq_; have HO_219001 := n0_; have BK212 := n1_; have BK218 := n2_; have HB := n3_; clear n0_ n1_ n2_ n3_)); have hnb52 := NB218_212.out; have hnc52 := NB212_218.out; have hcz53_0 : wr.cell? ⟨gb218, 0, none⟩ = some (.int .i64 t217) := (blk_cell BK218.out 0).trans rfl; have hcz53_1 : wr.cell? ⟨gb218, 1, none⟩ = some (u219001) := (blk_cell BK218.out 1).trans rfl; have hfz53_0 := blk_frozen BK218.out 0; have hfz53_1 := blk_frozen BK218.out 1; obtain ⟨Ao54, co54, eo54⟩ := Kd.R_slice HO_219001.out; subst eo54) | ((with_reducible refine gate_callee (f := 37) rfl ?_); refine goesL_ (some 49) rfl rfl Tryd.func37 (by kernel_rfl) rfl #[.agg #[.int .i64 t217, .slice Ao54 x219001_2.length co54]] rfl (by (try simp only [List.map_toArray, List.map_cons, List.map_nil]); first | done | rfl | (simp only [List.length_drop, List.length_take]; rfl)) ?_; (with_reducible refine (spec_EncodeDescriptor.calls k2 t217 _ _ x219001_2 t227 _ ?side1 ?side2 A40.out).mono ?_); (case side1 => repeat (first | exact (Kd.R_reads' HO_219001.out).2.2 | (with_reducible refine Kd.C_alloc ?_ _) | (with_reducible refine Kd.C_drewN ?_ _) | (with_reducible refine Kd.C_drew ?_))); (case side2 => exact (Kd.R_reads' HO_219001.out).2.1); rintro e w55 ⟨v228, rfl, ho0, hb⟩; refine ⟨_, rfl, ?_⟩; have n0_ := Aside0.mk (Kd.R_below (by (with_reducible repeat (first | apply Kd.R_alloc | apply Kd.R_drewN | apply Kd.R_drew)); exact HO_219001.out) hb); have n1_ := Aside0.mk (Kd.R_lower ho0 (below_size (by repeat (first | (with_reducible first | exact HB.out | apply below_alloc | apply pw_below_drewN | apply below_drew1 | refine below_set ?_ GE212.out | refine below_set ?_ GE218.out) | exact HB.out)))); have n2_ := Aside0.mk (blk_below (g := gb212) (o := .cells #[.bool false, .int .i64 0, .slice none 0 0] 45 (0, 0)) (by (with_reducible repeat (first | refine blk_drewN ?_ _ | refine blk_drew ?_ | refine blk_alloc ?_ _)); exact BK212.out) hb); have n3_ := Aside0.mk (blk_below (g := gb218) (o := .cells #[.int .i64 t217, .slice Ao54 x219001_2.length co54] 43 (0, 0)) (by (with_reducible repeat (first | refine blk_drewN ?_ _ | refine blk_drew ?_ | refine blk_alloc ?_ _)); exact BK218.out) hb); have n4_ := Aside0.mk (below_step (by repeat (first | (with_reducible first | exact HB.out | apply below_alloc | apply pw_below_drewN | apply below_drew1 | refine below_set ?_ GE212.out | refine below_set ?_ GE218.out) | exact HB.out)) hb); clear HO_219001; clear BK212; clear BK218; clear HB; have HO_219001 := n0_; have HO229 := n1_; have BK212 := n2_; have BK218 := n3_; have HB := n4_; clear n0_ n1_ n2_ n3_ n4_; (try clear hb); (try clear hb2); (try clear hk); (try clear hi); (try clear ho0); obtain ⟨Ao56, co56, eo56⟩ := Kd.R_slice HO229.out; subst eo56) | ((with_reducible refine gate_callee (f := 24) rfl ?_); refine goesL_ (some 51) rfl rfl Tryd.func24 (by kernel_rfl) rfl #[.slice Ao56 t227.length co56, .slice A0 l0.length c0] rfl (by (try simp only [List.map_toArray, List.map_cons, List.map_nil]); first | done | rfl | (simp only [List.length_drop, List.length_take]; rfl)) ?_; (with_reducible refine (spec_l2Same.calls _ _ t227 _ _ l0 false _ ?side1 ?side2 ?side3 ?side4 A41.out).mono ?_); (case side1 => repeat (first | exact (Kd.R_reads' HO229.out).2.2 | (with_reducible refine Kd.C_alloc ?_ _) | (with_reducible refine Kd.C_drewN ?_ _) | (with_reducible refine Kd.C_drew ?_))); (case side2 => exact (Kd.R_reads' HO229.out).2.1); (case side3 => repeat (first | exact (Kd.C_below HR0.out HB.out) | (with_reducible refine Kd.C_alloc ?_ _) | (with_reducible refine Kd.C_drewN ?_ _) | (with_reducible refine Kd.C_drew ?_))); (case side4 => exact HC0.out); rintro e w' ⟨rfl, ⟨nd, rfl⟩⟩; refine ⟨_, rfl, ?_⟩; (try (rw [drewN_self w55]; generalize hq_ : World.drewN w55 _ = w55; have n0_ : Aside0 (Kd.R (Kd.int .u8) 5 w55 w.heap.size (fun _ => True) (.slice Ao56 t227.length co56) t227) := ⟨by rw [← hq_]; exact (by (with_reducible repeat (first | apply Kd.R_alloc | apply Kd.R_drewN | apply Kd.R_drew)); exact HO229.out)⟩; have n1_ : Aside0 (Kd.R k67 67 w55 w.heap.size (fun _ => True) (.slice Ao54 x219001_2.length co54) x219001_2) := ⟨by rw [← hq_]; exact (by (with_reducible repeat (first | apply Kd.R_alloc | apply Kd.R_drewN | apply Kd.R_drew)); exact HO_219001.out)⟩; have n2_ : Aside0 (w55.heap[gb212]? = some (.cells #[.bool false, .int .i64 0, .slice none 0 0] 45 (0, 0))) := ⟨by rw [← hq_]; exact (by (with_reducible repeat (first | refine blk_drewN ?_ _ | refine blk_drew ?_ | refine blk_alloc ?_ _)); exact BK212.out)⟩; have n3_ : Aside0 (w55.heap[gb218]? = some (.cells #[.int .i64 t217, .slice Ao54 x219001_2.length co54] 43 (0, 0))) := ⟨by rw [← hq_]; exact (by (with_reducible repeat (first | refine blk_drewN ?_ _ | refine blk_drew ?_ | refine blk_alloc ?_ _)); exact BK218.out)⟩; have n4_ : Aside0 (Below w.heap.size w w55) := ⟨by rw [← hq_]; exact (by repeat (first | (with_reducible first | exact HB.out | apply below_alloc | apply pw_below_drewN | apply below_drew1 | refine below_set ?_ GE212.out | refine below_set ?_ GE218.out) | exact HB.out))⟩; clear HO229 HO_219001 BK212 BK218 HB hq_; have HO229 := n0_; have HO_219001 := n1_; have BK212 := n2_; have BK218 := n3_; have HB := n4_; clear n0_ n1_ n2_ n3_ n4_)); have hcz57_0 : w55.cell? ⟨gb212, 0, none⟩ = some (.bool false) := (blk_cell BK212.out 0).trans rfl; have hcz57_1 : w55.cell? ⟨gb212, 1, none⟩ = some (.int .i64 0) := (blk_cell BK212.out 1).trans rfl; have hcz57_2 : w55.cell? ⟨gb212, 2, none⟩ = some (.slice none 0 0) := (blk_cell BK212.out 2).trans rfl; have hfz57_0 := blk_frozen BK212.out 0; have hfz57_1 := blk_frozen BK212.out 1; have hfz57_2 := blk_frozen BK212.out 2))
                        refine bodyPost_ret (results_cell_row rfl _ _ gb212 45 #[.bool false, .int .i64 0, .slice none 0 0] (0, 0) _ rfl (by (with_reducible repeat (first | refine blk_drewN ?_ _ | refine blk_drew ?_ | refine blk_alloc ?_ _)); refine blk_put (cs := #[.bool false, .int .i64 0, .slice none 0 0]) ?_ 2 _ rfl; (with_reducible repeat (first | refine blk_drewN ?_ _ | refine blk_drew ?_ | refine blk_alloc ?_ _)); refine blk_put (cs := #[.bool false, .int .i64 0, .slice none 0 0]) ?_ 1 _ rfl; (with_reducible repeat (first | refine blk_drewN ?_ _ | refine blk_drew ?_ | refine blk_alloc ?_ _)); refine blk_put (cs := #[.bool false, .int .i64 0, .slice none 0 0]) ?_ 0 _ rfl; (with_reducible repeat (first | refine blk_drewN ?_ _ | refine blk_drew ?_ | refine blk_alloc ?_ _)); exact BK212.out) Tryd.underlying45 rfl (by kernel_rfl)) rfl ?_
                        exact ⟨_, by first | rfl | (simp [errW_none, errW_some] <;> rfl) | (simp [*, errW_none, errW_some] <;> rfl), by first | exact Kd.R_nil _ _ _ _ _ | exact Kd.N_nil _ _ _ _ _ | exact Kd.V_nil _ _ _ _ _ | exact Kd.Q_nil _ _ _ _ _ | exact Kd.S_nil _ _ _ _ _, by repeat (first | (with_reducible first | exact HB.out | apply below_alloc | apply pw_below_drewN | apply below_drew1 | refine below_set ?_ GE212.out | refine below_set ?_ GE218.out) | exact HB.out)⟩
                  · rw [if_neg c22] at H
                    exact absurd H (by simp)
                · rw [if_neg c21] at H
                  exact absurd H (by simp)
          · rw [if_neg c15] at H
            exact absurd H (by simp)
        · rw [if_neg c14] at H
          exact absurd H (by simp)

/-! ### impl_GetNumber: function 51 -/
mutual
def impl_GetNumber.j0 : Nat → List Int → Bool → Option (Int)
  | 0, _, _ => none
  | k + 1, x0, x24 => if x24 = true then (some (-1)) else (impl_GetNumber.l0 k 0 x0 (x0.length : Int) 0)
def impl_GetNumber.l0 : Nat → Int → List Int → Int → Int → Option (Int)
  | 0, _, _, _, _ => none
  | k + 1, x3, x25, x26, x27 => if x27 < x26 then (if 0 ≤ x27 then (if x27 < (x25.length : Int) then (impl_GetNumber.l0 k (Go.bits .or .i64 (wrap64 (x3 * 256)) (wrap64 (rd x25 x27))) x25 x26 (wrap64 (x27 + 1))) else (none)) else (none)) else (some x3)
end
def impl_GetNumber.f (k : Nat) (l0 : List Int) : Option (Int) := if (l0.length : Int) = 0 then (impl_GetNumber.j0 k l0 true) else (if (l0.length : Int) > 8 then (impl_GetNumber.j0 k l0 true) else (if (l0.length : Int) = 8 then (if 0 < (l0.length : Int) then (impl_GetNumber.j0 k l0 (decide ((rd l0 0) ≥ 128))) else (none)) else (impl_GetNumber.j0 k l0 false)))
theorem impl_GetNumber.mono_l : ∀ k, (∀ y0 y1, LeO (impl_GetNumber.j0 k y0 y1) (impl_GetNumber.j0 (k + 1) y0 y1)) ∧ (∀ y0 y1 y2 y3, LeO (impl_GetNumber.l0 k y0 y1 y2 y3) (impl_GetNumber.l0 (k + 1) y0 y1 y2 y3))
  | 0 => ⟨fun _ _ r h => by simp [impl_GetNumber.j0] at h, fun _ _ _ _ r h => by simp [impl_GetNumber.l0] at h⟩
  | k + 1 => by
    obtain ⟨ih0, ih1⟩ := impl_GetNumber.mono_l k
    refine ⟨?_, ?_⟩
    · intro y0 y1
      unfold impl_GetNumber.j0
      repeat' first
      | (with_reducible exact ih0 _ _)
      | (with_reducible exact ih1 _ _ _ _)
      | (with_reducible exact LeO.refl _)
      | (with_reducible exact LeO.none _)
      | (with_reducible refine LeO.ite ?_ ?_)
      | (with_reducible refine LeO.bind ?_ (fun _ => ?_))
      | exact ih0 _ _
      | exact ih1 _ _ _ _
      | exact LeO.none _
      | refine LeO.ite ?_ ?_
      | refine LeO.bind ?_ (fun _ => ?_)
    · intro y0 y1 y2 y3
      unfold impl_GetNumber.l0
      repeat' first
      | (with_reducible exact ih0 _ _)
      | (with_reducible exact ih1 _ _ _ _)
      | (with_reducible exact LeO.refl _)
      | (with_reducible exact LeO.none _)
      | (with_reducible refine LeO.ite ?_ ?_)
      | (with_reducible refine LeO.bind ?_ (fun _ => ?_))
      | exact ih0 _ _
      | exact ih1 _ _ _ _
      | exact LeO.none _
      | refine LeO.ite ?_ ?_
      | refine LeO.bind ?_ (fun _ => ?_)
theorem impl_GetNumber.mono : ∀ a0 k, LeO (impl_GetNumber.f k a0) (impl_GetNumber.f (k + 1) a0) := by
  intro a0 k
  obtain ⟨ih0, ih1⟩ := impl_GetNumber.mono_l k
  unfold impl_GetNumber.f
  repeat' first
      | (with_reducible exact ih0 _ _)
      | (with_reducible exact ih1 _ _ _ _)
      | (with_reducible exact LeO.refl _)
      | (with_reducible exact LeO.none _)
      | (with_reducible refine LeO.ite ?_ ?_)
      | (with_reducible refine LeO.bind ?_ (fun _ => ?_))
      | exact ih0 _ _
      | exact ih1 _ _ _ _
      | exact LeO.none _
      | refine LeO.ite ?_ ?_
      | refine LeO.bind ?_ (fun _ => ?_)
set_option maxHeartbeats 8000000 in
set_option maxRecDepth 100000 in
theorem impl_GetNumber.calls (k : Nat) (A0 : Option Addr) (c0 : Nat) (l0 : List Int) (r : Int) (w : World) (hr0 : Kd.C (Kd.int .u8) w A0 l0.length l0) (hc0 : l0.length ≤ c0) (h : impl_GetNumber.f k l0 = some r) :
    Calls Tryd.prog 51 #[.slice A0 l0.length c0] w fun e w' => e = .returned (.int .i64 r) ∧ Drawn0 w w' := by
  have HR0 := Aside0.mk hr0
  have HC0 := Aside0.mk hc0
  clear hr0 hc0
  have H : (if (l0.length : Int) = 0 then (impl_GetNumber.j0 k l0 true) else (if (l0.length : Int) > 8 then (impl_GetNumber.j0 k l0 true) else (if (l0.length : Int) = 8 then (if 0 < (l0.length : Int) then (impl_GetNumber.j0 k l0 (decide ((rd l0 0) ≥ 128))) else (none)) else (impl_GetNumber.j0 k l0 false)))) = some r := h
  clear h
  have HC2 := Aside0.mk H
  clear H
  go_enter Tryd.func51, Tryd.ntmps51
  go_upto_region 1 with (fail)
  go_cut [24] (fun v24 wc => ∃ (kq : Nat) (x24_1 : Bool), v24 = .bool x24_1 ∧ Aside0 (impl_GetNumber.j0 kq l0 x24_1 = some r) ∧ Aside0 (kq ≤ k) ∧ Drawn0 w wc)
  case first =>
    have H := HC2.out
    clear HC2
    by_cases c3 : (l0.length : Int) = 0
    · rw [if_pos c3] at H
      have c3b0 : ((l0.length : Int) == 0) = true := beq_iff_eq.mpr c3
      have c3b1 : ((l0.length : Int) != 0) = false := bne_eq_false_iff_eq.mpr c3
      clear c3
      (first | rw [c3b0] | (simp only [i64_w, i32_w]; rw [c3b0]) | skip)
      have H' := Aside0.mk H
      clear H
      go_wp2
      go_meet
      case rel => exact ⟨_, (true), (by first | rfl | (simp; done) | (simp [*]; done)), H', ⟨by first | omega | exact Nat.le_refl _⟩, by repeat (first | exact Drawn0.refl _ | apply Drawn0.step)⟩
    · rw [if_neg c3] at H
      have c3b0 : ((l0.length : Int) == 0) = false := beq_eq_false_iff_ne.mpr c3
      have c3b1 : ((l0.length : Int) != 0) = true := bne_iff_ne.mpr c3
      have c3b2 : ¬ (l0 = []) := fun h_ => c3 (by rw [h_]; rfl)
      (first | rw [c3b0] | (simp only [i64_w, i32_w]; rw [c3b0]) | skip)
      by_cases c4 : (l0.length : Int) > 8
      · rw [if_pos c4] at H
        have c4b0 : decide (8 < (l0.length : Int)) = true := decide_eq_true c4
        have c4b1 : decide (8 < l0.length) = true := decide_eq_true (by omega)
        clear c4
        have H' := Aside0.mk H
        clear H
        go_wp2
        go_meet
        case rel => exact ⟨_, (true), (by first | rfl | (simp; done) | (simp [*]; done)), H', ⟨by first | omega | exact Nat.le_refl _⟩, by repeat (first | exact Drawn0.refl _ | apply Drawn0.step)⟩
      · rw [if_neg c4] at H
        have c4b0 : decide (8 < (l0.length : Int)) = false := decide_eq_false c4
        have c4b1 : decide (8 < l0.length) = false := decide_eq_false (by omega)
        clear c4
        by_cases c5 : (l0.length : Int) = 8
        · rw [if_pos c5] at H
          have c5b0 : ((l0.length : Int) == 8) = true := beq_iff_eq.mpr c5
          have c5b1 : ((l0.length : Int) != 8) = false := bne_eq_false_iff_eq.mpr c5
          clear c5
          by_cases c6 : 0 < (l0.length : Int)
          · rw [if_pos c6] at H
            have c6b0 : decide (0 < (l0.length : Int)) = true := decide_eq_true c6
            have c6b1 : decide (0 < l0.length) = true := decide_eq_true (by omega)
            clear c6
            have H' := Aside0.mk H
            clear H
            have p231 : 0 ≤ (0 : Int) := (by omega)
            have q231 : 0 < (l0.length : Int) := of_decide_eq_true (by first | (with_reducible assumption) | assumption)
            obtain ⟨ad231, e231, hx231_0⟩ := Kd.at_int HR0.out 0 p231 q231
            cases e231
            have qi231 : (0 < l0.length) = True := eq_true (by omega)
            (try rw [show ((0 : Int)).toNat = 0 from rfl] at hx231_0)
            (try rw [Addr.add_zero'] at hx231_0)
            replace p231 := eq_true p231
            replace q231 := eq_true q231
            go_wp2
            go_meet
            case rel => exact ⟨_, (decide ((rd l0 0) ≥ 128)), (by first | rfl | (simp; done) | (simp [*]; done)), H', ⟨by first | omega | exact Nat.le_refl _⟩, by repeat (first | exact Drawn0.refl _ | apply Drawn0.step)⟩
          · rw [if_neg c6] at H
            exact absurd H (by simp)
        · rw [if_neg c5] at H
          have c5b0 : ((l0.length : Int) == 8) = false := beq_eq_false_iff_ne.mpr c5
          have c5b1 : ((l0.length : Int) != 8) = true := bne_iff_ne.mpr c5
          have H' := Aside0.mk H
          clear H
          go_wp2
          go_meet
          case rel => exact ⟨_, (false), (by first | rfl | (simp; done) | (simp [*]; done)), H', ⟨by first | omega | exact Nat.le_refl _⟩, by repeat (first | exact Drawn0.refl _ | apply Drawn0.step)⟩
  case rest =>
    clear HC2
    try clear p2
    try clear q2
    try clear hx2
    try clear qi2
    try clear c3
    try clear c3b0
    try clear c3b1
    try clear c3b2
    try clear c4
    try clear c4b0
    try clear c4b1
    try clear c5
    try clear c5b0
    try clear c5b1
    try clear c6
    try clear c6b0
    try clear c6b1
    try clear hx231_0
    try clear p231
    try clear q231
    obtain ⟨kq, x24_1, rfl, HA, HJ1, ⟨mc1, rfl⟩⟩ := hcut
    cases kq with
    | zero => exact absurd HA.out (by simp [impl_GetNumber.j0])
    | succ kj1 =>
      have H := HA.out
      clear HA
      simp only [impl_GetNumber.j0] at H
      by_cases c7 : x24_1 = true
      · subst c7
        have H1 : (some (-1)) = some r := by rw [if_pos rfl] at H; exact H
        clear H
        have H := H1
        clear H1
        obtain rfl := Option.some.inj H
        go_wp2
        go_ret
        exact ⟨by first | rfl | (simp; done) | (simp [*]; done), by repeat (first | exact Drawn0.refl _ | apply Drawn0.step)⟩
      · replace c7 := Bool.eq_false_iff.mpr c7
        subst c7
        have H1 : (impl_GetNumber.l0 kj1 0 l0 (l0.length : Int) 0) = some r := by rw [if_neg (show ¬ (false = true) by decide)] at H; exact H
        clear H
        have H := H1
        clear H1
        have H' := Aside0.mk H
        clear H
        go_wp2
        go_loopg [3, 27] kj1 (fun kq v3 v27 w' => ∃ (x3_2 : Int) (x27_2 : Int), v3 = .int .i64 x3_2 ∧ v27 = .int .i64 x27_2 ∧ Aside0 (impl_GetNumber.l0 kq x3_2 l0 (l0.length : Int) x27_2 = some r) ∧ Aside0 (kq ≤ kj1) ∧ Drawn0 w w')
        case atStart => exact ⟨(0), (0), (by first | rfl | (simp; done) | (simp [*]; done)), (by first | rfl | (simp; done) | (simp [*]; done)), H', ⟨Nat.le_refl _⟩, by repeat (first | exact Drawn0.refl _ | apply Drawn0.step)⟩
        case round =>
          clear H'
          try clear c1
          try clear p2
          try clear q2
          try clear hx2
          try clear qi2
          try clear c3
          try clear c3b0
          try clear c3b1
          try clear c3b2
          try clear c4
          try clear c4b0
          try clear c4b1
          try clear c5
          try clear c5b0
          try clear c5b1
          try clear c6
          try clear c6b0
          try clear c6b1
          try clear c7
          try clear hx231_0
          try clear p2
          try clear p231
          try clear q2
          try clear q231
          obtain ⟨x3_2, x27_2, rfl, rfl, HA, HK2, ⟨m2, rfl⟩⟩ := hrel
          cases gk with
          | zero => exact absurd HA.out (by simp [impl_GetNumber.l0])
          | succ k2 =>
            have H := HA.out
            clear HA
            simp only [impl_GetNumber.l0] at H
            by_cases c8 : x27_2 < (l0.length : Int)
            · rw [if_pos c8] at H
              have c8b0 : decide (x27_2 < (l0.length : Int)) = true := decide_eq_true c8
              clear c8
              by_cases c9 : 0 ≤ x27_2
              · rw [if_pos c9] at H
                have c9b0 : decide (0 ≤ x27_2) = true := decide_eq_true c9
                clear c9
                by_cases c10 : x27_2 < (l0.length : Int)
                · rw [if_pos c10] at H
                  have c10b0 : decide (x27_2 < (l0.length : Int)) = true := decide_eq_true c10
                  clear c10
                  have H' := Aside0.mk H
                  clear H
                  have p232 : 0 ≤ (x27_2 : Int) := of_decide_eq_true (by first | (with_reducible assumption) | assumption)
                  have q232 : x27_2 < (l0.length : Int) := of_decide_eq_true (by first | (with_reducible assumption) | assumption)
                  obtain ⟨ad232, e232, hx232_0⟩ := Kd.at_int HR0.out x27_2 p232 q232
                  cases e232
                  replace p232 := eq_true p232
                  replace q232 := eq_true q232
                  go_wp2
                  go_roundg k2
                  case measure => have := HJ1.out; have := HK2.out; omega
                  case rel => exact ⟨(Go.bits .or .i64 (wrap64 (x3_2 * 256)) (wrap64 (rd l0 x27_2))), (wrap64 (x27_2 + 1)), (by first | rfl | (simp; done) | (simp [*]; done)), (by first | rfl | (simp; done) | (simp [*]; done)), H', ⟨by have := HJ1.out; have := HK2.out; omega⟩, by repeat (first | exact Drawn0.refl _ | apply Drawn0.step)⟩
                · rw [if_neg c10] at H
                  exact absurd H (by simp)
              · rw [if_neg c9] at H
                exact absurd H (by simp)
            · rw [if_neg c8] at H
              have c8b0 : decide (x27_2 < (l0.length : Int)) = false := decide_eq_false c8
              clear c8
              obtain rfl := Option.some.inj H
              go_wp2
              go_ret
              exact ⟨by first | rfl | (simp; done) | (simp [*]; done), by repeat (first | exact Drawn0.refl _ | apply Drawn0.step)⟩

end Go.Proofs.YtmlahbgogbjfpaaDoor.PFnExactDecodeDescriptor
