-- written by a program of this session (wip/src/print2.py)
import Derived.Test.YtkehfdadplpaeaaPFnExactLogNextx0
import Derived.Test.YtkehfdadplpaeaaPFnExactLogNextx2
import Derived.Test.YtkehfdadplpaeaaPFnExactLogNextx3
import Derived.Test.YtkehfdadplpaeaaPFnExactLogNextx4
namespace Go.Proofs.Ytkehfdadplpaeaa.PFnExactLogNext
open Go.RowKit Go.Proofs.YtkehfdadplpaeaaW.PrintWords Go.Proofs.YtkehfdadplpaeaaW.PrintLast Go.Proofs.YtkehfdadplpaeaaW.PrintMore
attribute [local go_sem] max2_int min2_int max_two min_two max_three min_three max_four min_four   -- for this text's walks alone
set_option linter.unusedVariables false
set_option linter.unusedSimpArgs false

/-! ### spec_l4Body: function 55 -/
mutual
def spec_l4Body.l0 : Nat → Int → List Int → Int → Int → List (S61) → List Int → Int → List (S101) → Option (List Int)
  | 0, _, _, _, _, _, _, _, _ => none
  | k + 1, x6, x8, x9, x275000, x275001, x275002, x290000, x290001 => if x9 < x6 then (if 0 ≤ x9 then (if x9 < (x275001.length : Int) then ((spec_Escape.f ((rd_T61 x275001 x9).f1)).bind fun bt294 => (if x290001.length < 8796093022208 then (if x8.length + bt294.2.1.length < 140737488355328 then (spec_l4Body.l0 k x6 (x8 ++ bt294.2.1) (wrap64 (x9 + 1)) x275000 x275001 x275002 x290000 (x290001 ++ [(⟨(rd_T61 x275001 x9).f0, bt294.2.2⟩ : S101)])) else (none)) else (none))) else (none)) else (none)) else ((spec_EncodeDescriptor.f k x290000 x290001).bind fun t307 => ((spec_l2Join.f t307 x8).bind fun t310 => (if 0 ≤ x6 then (if x6 ≤ (x275001.length : Int) then ((spec_l4Body.f k x275000 (x275001.drop (x6 : Int).toNat) ([] : List Int)).bind fun t317 => ((spec_l2Join.f t310 t317).bind fun t320 => (some t320))) else (none)) else (none))))
def spec_l4Body.f : Nat → Int → List (S61) → List Int → Option (List Int)
  | 0, _, _, _ => none
  | k + 1, a0_0, l0_1, l0_2 => if (l0_2.length : Int) > 0 then (if 0 ≤ (mn (l0_2.length : Int) 26) then (if (mn (l0_2.length : Int) 26) ≤ (l0_2.length : Int) then ((spec_EncodeRevoke.f k a0_0 (l0_2.take ((mn (l0_2.length : Int) 26) : Int).toNat)).bind fun t276 => ((spec_l4Body.f k a0_0 l0_1 (l0_2.drop ((mn (l0_2.length : Int) 26) : Int).toNat)).bind fun t280 => ((spec_l2Join.f t276 t280).bind fun t283 => (some t283)))) else (none)) else (none)) else (if (l0_1.length : Int) = 0 then (some (([] : List Int))) else (spec_l4Body.l0 k (mn (l0_1.length : Int) 17) (([] : List Int)) 0 a0_0 l0_1 l0_2 a0_0 ([] : List (S101))))
end
theorem spec_l4Body.mono_l : ∀ k, (∀ y0 y1 y2, LeO (spec_l4Body.f k y0 y1 y2) (spec_l4Body.f (k + 1) y0 y1 y2)) ∧ (∀ y0 y1 y2 y3 y4 y5 y6 y7, LeO (spec_l4Body.l0 k y0 y1 y2 y3 y4 y5 y6 y7) (spec_l4Body.l0 (k + 1) y0 y1 y2 y3 y4 y5 y6 y7))
  | 0 => ⟨fun _ _ _ r h => by simp [spec_l4Body.f] at h, fun _ _ _ _ _ _ _ _ r h => by simp [spec_l4Body.l0] at h⟩
  | k + 1 => by
    obtain ⟨ih0, ih1⟩ := spec_l4Body.mono_l k
    refine ⟨?_, ?_⟩
    · intro y0 y1 y2
      unfold spec_l4Body.f
      repeat' first
      | (with_reducible exact ih0 _ _ _)
      | (with_reducible exact ih1 _ _ _ _ _ _ _ _)
      | (with_reducible exact spec_EncodeDescriptor.mono _ _ _)
      | (with_reducible exact spec_EncodeRevoke.mono _ _ _)
      | (with_reducible exact LeO.refl _)
      | (with_reducible exact LeO.none _)
      | (with_reducible refine LeO.ite ?_ ?_)
      | (with_reducible refine LeO.bind ?_ (fun _ => ?_))
      | exact ih0 _ _ _
      | exact ih1 _ _ _ _ _ _ _ _
      | exact spec_EncodeDescriptor.mono _ _ _
      | exact spec_EncodeRevoke.mono _ _ _
      | exact LeO.none _
      | refine LeO.ite ?_ ?_
      | refine LeO.bind ?_ (fun _ => ?_)
    · intro y0 y1 y2 y3 y4 y5 y6 y7
      unfold spec_l4Body.l0
      repeat' first
      | (with_reducible exact ih0 _ _ _)
      | (with_reducible exact ih1 _ _ _ _ _ _ _ _)
      | (with_reducible exact spec_EncodeDescriptor.mono _ _ _)
      | (with_reducible exact spec_EncodeRevoke.mono _ _ _)
      | (with_reducible exact LeO.refl _)
      | (with_reducible exact LeO.none _)
      | (with_reducible refine LeO.ite ?_ ?_)
      | (with_reducible refine LeO.bind ?_ (fun _ => ?_))
      | exact ih0 _ _ _
      | exact ih1 _ _ _ _ _ _ _ _
      | exact spec_EncodeDescriptor.mono _ _ _
      | exact spec_EncodeRevoke.mono _ _ _
      | exact LeO.none _
      | refine LeO.ite ?_ ?_
      | refine LeO.bind ?_ (fun _ => ?_)
theorem spec_l4Body.mono : ∀ a0 a1 a2 k, LeO (spec_l4Body.f k a0 a1 a2) (spec_l4Body.f (k + 1) a0 a1 a2) := by
  intro a0 a1 a2 k
  obtain ⟨ih0, ih1⟩ := spec_l4Body.mono_l k
  exact ih0 a0 a1 a2
def spec_l4Body.T4 : Bool × List (List Nat × List Nat) := (true, [([], []), ([0], [0]), ([], []), ([2], [2]), ([], []), ([3, 4], [3, 4]), ([1, 5], [1, 5]), ([6], [6]), ([7, 7, 0, 1, 2, 3, 4, 5, 6, 7], [7])])
def spec_l4Body.B4 : List Nat := [0, 1, 0, 4, 0, 28, 63, 127, 255]
theorem spec_l4Body.tab4 : rtab .any (opsOf Try.f55 4) = spec_l4Body.T4 := by kernel_rfl
theorem spec_l4Body.bits4 : waitsOk spec_l4Body.T4.2 spec_l4Body.B4 = true := by kernel_rfl
def spec_l4Body.T5 : Bool × List (List Nat × List Nat) := (true, [([], []), ([], []), ([1], [1]), ([], []), ([3], [3]), ([], []), ([5], [5]), ([], []), ([6, 7], [6, 7]), ([2, 4, 8], [2, 4, 8]), ([9], [9]), ([0, 10, 10], [0, 10]), ([11, 11, 0, 1, 2, 3, 4, 5, 6, 7, 8, 9, 10, 11], [11])])
def spec_l4Body.B5 : List Nat := [0, 0, 2, 0, 8, 0, 32, 0, 224, 510, 1022, 2047, 4095]
theorem spec_l4Body.tab5 : rtab .any (opsOf Try.f55 5) = spec_l4Body.T5 := by kernel_rfl
theorem spec_l4Body.bits5 : waitsOk spec_l4Body.T5.2 spec_l4Body.B5 = true := by kernel_rfl
def spec_l4Body.T15 : Bool × List (List Nat × List Nat) := (true, [([], []), ([0], [0]), ([], []), ([2], [2]), ([], []), ([3, 4], [3, 4]), ([5], [5]), ([6], [6]), ([], []), ([8], [8]), ([7, 9], [7, 9]), ([10], [10]), ([1, 11], [1, 11]), ([0, 1, 2, 3, 4, 5, 6, 7, 8, 9, 10, 11, 12], []), ([13, 12, 12, 0, 1, 2, 3, 4, 5, 6, 7, 8, 9, 10, 11, 12], [12, 13])])
def spec_l4Body.B15 : List Nat := [0, 1, 0, 4, 0, 28, 60, 124, 0, 256, 1020, 2044, 4095, 8191, 16383]
theorem spec_l4Body.tab15 : rtab .any (opsOf Try.f55 15) = spec_l4Body.T15 := by kernel_rfl
theorem spec_l4Body.bits15 : waitsOk spec_l4Body.T15.2 spec_l4Body.B15 = true := by kernel_rfl
def spec_l4Body.T18 : Bool × List (List Nat × List Nat) := (true, [([], []), ([], []), ([1], [1]), ([], []), ([3], [3]), ([], []), ([4, 5], [4, 5]), ([2, 6], [2, 6]), ([7], [7]), ([0, 8, 8], [0, 8]), ([9, 9, 0, 1, 2, 3, 4, 5, 6, 7, 8, 9], [9])])
def spec_l4Body.B18 : List Nat := [0, 0, 2, 0, 8, 0, 56, 126, 254, 511, 1023]
theorem spec_l4Body.tab18 : rtab .any (opsOf Try.f55 18) = spec_l4Body.T18 := by kernel_rfl
theorem spec_l4Body.bits18 : waitsOk spec_l4Body.T18.2 spec_l4Body.B18 = true := by kernel_rfl
set_option maxHeartbeats 8000000 in
set_option maxRecDepth 100000 in
theorem spec_l4Body.calls (k : Nat) : ∀ (a0_0 : Int) (A0_1 : Option Addr) (c0_1 : Nat) (l0_1 : List (S61)) (A0_2 : Option Addr) (c0_2 : Nat) (l0_2 : List Int) (r : List Int) (w : World) (hr0_1 : Kd.C k61 w A0_1 l0_1.length l0_1) (hc0_1 : l0_1.length ≤ c0_1) (hr0_2 : Kd.C (Kd.int .i64) w A0_2 l0_2.length l0_2) (hc0_2 : l0_2.length ≤ c0_2) (h : spec_l4Body.f k a0_0 l0_1 l0_2 = some r),
    Calls Try.prog 55 #[.agg #[.int .i64 a0_0, .slice A0_1 l0_1.length c0_1, .slice A0_2 l0_2.length c0_2]] w fun e w' => ∃ v0_ : Value, e = .returned (v0_) ∧ Kd.R (Kd.int .u8) 5 w' w.heap.size (fun _ => True) v0_ r ∧ Below w.heap.size w w' := by
  induction k using Nat.strongRecOn with
  | _ k ih =>
  intro a0_0 A0_1 c0_1 l0_1 A0_2 c0_2 l0_2 r w hr0_1 hc0_1 hr0_2 hc0_2 h
  cases k with
  | zero => exact absurd h (by simp [spec_l4Body.f])
  | succ k =>
  simp only [spec_l4Body.f] at h
  have hu34 := Try.underlying34
  have hu93 := Try.underlying93
  have hu96 := Try.underlying96
  have hu98 := Try.underlying98
  have hu101 := Try.underlying101
  have HR0_1 := Aside0.mk hr0_1
  have HC0_1 := Aside0.mk hc0_1
  clear hr0_1 hc0_1
  have HR0_2 := Aside0.mk hr0_2
  have HC0_2 := Aside0.mk hc0_2
  clear hr0_2 hc0_2
  have HB := Aside0.mk (Below.refl w.heap.size w)
  have H : (if (l0_2.length : Int) > 0 then (if 0 ≤ (mn (l0_2.length : Int) 26) then (if (mn (l0_2.length : Int) 26) ≤ (l0_2.length : Int) then ((spec_EncodeRevoke.f k a0_0 (l0_2.take ((mn (l0_2.length : Int) 26) : Int).toNat)).bind fun t276 => ((spec_l4Body.f k a0_0 l0_1 (l0_2.drop ((mn (l0_2.length : Int) 26) : Int).toNat)).bind fun t280 => ((spec_l2Join.f t276 t280).bind fun t283 => (some t283)))) else (none)) else (none)) else (if (l0_1.length : Int) = 0 then (some (([] : List Int))) else (spec_l4Body.l0 k (mn (l0_1.length : Int) 17) (([] : List Int)) 0 a0_0 l0_1 l0_2 a0_0 ([] : List (S101))))) = some r := h
  clear h
  by_cases c2 : (l0_2.length : Int) > 0
  · rw [if_pos c2] at H
    have c2b0 : decide (0 < (l0_2.length : Int)) = true := decide_eq_true c2
    have c2b1 : decide (0 < l0_2.length) = true := decide_eq_true (by omega)
    clear c2
    obtain ⟨ji3, hji3⟩ : ∃ j_ : Int, (mn (l0_2.length : Int) 26) = j_ := ⟨_, rfl⟩
    replace H : (if 0 ≤ (ji3) then (if (ji3) ≤ (l0_2.length : Int) then ((spec_EncodeRevoke.f k a0_0 (l0_2.take ((ji3) : Int).toNat)).bind fun t276 => ((spec_l4Body.f k a0_0 l0_1 (l0_2.drop ((ji3) : Int).toNat)).bind fun t280 => ((spec_l2Join.f t276 t280).bind fun t283 => (some t283)))) else (none)) else (none)) = some r := by first | (rw [hji3] at H; exact H) | (simp only [hji3] at H ⊢; exact H)
    (try (have hji3h : ji3 ≤ 26 := by (rw [← hji3]; unfold mn; (repeat' split) <;> omega)))
    (try (have hji3g : ji3 ≤ 64 := by omega))
    (try (have hji3l : 0 ≤ ji3 := by (rw [← hji3]; unfold mn; (repeat' split) <;> omega)))
    (try (have hji3m : 0 ≤ ji3 := by omega))
    have hji3_ : (if 26 < (l0_2.length : Int) then 26 else (l0_2.length : Int)) = ji3 := hji3
    by_cases c4 : 0 ≤ (ji3)
    · rw [if_pos c4] at H
      have c4b0 := eq_true c4
      have c4b1 : decide (0 ≤ (ji3)) = true := decide_eq_true c4
      clear c4
      by_cases c5 : (ji3) ≤ (l0_2.length : Int)
      · rw [if_pos c5] at H
        have c5b0 := eq_true c5
        have c5b1 : decide ((ji3) ≤ (l0_2.length : Int)) = true := decide_eq_true c5
        clear c5
        replace H := Option.bind_eq_some_iff.mp H
        obtain ⟨t276, A60, H⟩ := H
        replace H : ((spec_l4Body.f k a0_0 l0_1 (l0_2.drop ((ji3) : Int).toNat)).bind fun t280 => ((spec_l2Join.f t276 t280).bind fun t283 => (some t283))) = some r := H
        have A6 := Aside0.mk A60
        clear A60
        have c7b0 := eq_true (of_decide_eq_true (by first | (with_reducible assumption) | assumption) : 0 ≤ (ji3))
        have c8b0 := eq_true (of_decide_eq_true (by first | (with_reducible assumption) | assumption) : (ji3) ≤ (l0_2.length : Int))
        replace H := Option.bind_eq_some_iff.mp H
        obtain ⟨t280, A90, H⟩ := H
        replace H : ((spec_l2Join.f t276 t280).bind fun t283 => (some t283)) = some r := H
        have A9 := Aside0.mk A90
        clear A90
        replace H := Option.bind_eq_some_iff.mp H
        obtain ⟨t283, A100, H⟩ := H
        replace H : (some t283) = some r := H
        have A10 := Aside0.mk A100
        clear A100
        obtain rfl := Option.some.inj H
        go_enter Try.func55, Try.ntmps55
        try go_wp2_with (first | ((with_reducible refine gate_dst (N := 1) rfl ?_); refine box_event ?hg (N := 1) ?hd (cs := #[.int .i64 a0_0, .slice A0_1 l0_1.length c0_1, .slice A0_2 l0_2.length c0_2]) (t := 34) ?hr ?_; (case hd => rfl); (case hg => rfl); (case hr => first | (go_simp; done) | (go_simp; rfl)); intro gb274 hg w11 hbox hb; have n0_ := Aside0.mk (below_step (Rgn.bq HB.out) hb); have n1_ := Aside0.mk (hbox); have n2_ := Aside0.mk ((by rw [hg]; exact (below_size (Rgn.bq HB.out)) : w.heap.size ≤ gb274)); have n3_ := Aside0.mk ((by rw [hg]; exact (below_size (Rgn.bq HB.out)) : w.heap.size ≤ gb274)); clear HB; have HB := n0_; have BK274 := n1_; have GW274 := n2_; have GE274 := n3_; clear n0_ n1_ n2_ n3_; clear hb hbox hg; have hcz12_0 : w11.cell? ⟨gb274, 0, none⟩ = some (.int .i64 a0_0) := (blk_cell BK274.out 0).trans rfl; have hcz12_1 : w11.cell? ⟨gb274, 1, none⟩ = some (.slice A0_1 l0_1.length c0_1) := (blk_cell BK274.out 1).trans rfl; have hcz12_2 : w11.cell? ⟨gb274, 2, none⟩ = some (.slice A0_2 l0_2.length c0_2) := (blk_cell BK274.out 2).trans rfl; have hfz12_0 := blk_frozen BK274.out 0; have hfz12_1 := blk_frozen BK274.out 1; have hfz12_2 := blk_frozen BK274.out 2))
        have n0_ := Aside0.mk (blk_drew BK274.out)
        have n1_ := Aside0.mk (below_drew1 HB.out)
        clear BK274
        clear HB
        have BK274 := n0_
        have HB := n1_
        clear n0_ n1_
        obtain ⟨i014, hi014, _, hsz14, _⟩ := info_parts info2
        obtain ⟨hcut14, hA14, hC14⟩ := print_take_of (P := Try.prog) (Value.int .i64) 0 25 2 .i64 Try.underlying25 hi014 hsz14 A0_2 c0_2 l0_2 (ji3) (of_decide_eq_true (by first | (with_reducible assumption) | assumption)) (of_decide_eq_true (by first | (with_reducible assumption) | assumption)) HC0_2.out
        have HR275 := Aside0.mk (Kd.C_of_reads (h1 := fun _ => rfl) (hA14 _ (Kd.reads_of_C HR0_2.out)))
        have HC275 := Aside0.mk hC14
        clear hA14 hC14 hi014 hsz14
        refine start_ (n := 9) (S := fun w' => w'.cell? ⟨gb274, 0, none⟩ = some (.int .i64 a0_0) ∧ w'.cell? ⟨gb274, 1, none⟩ = some (.slice A0_1 l0_1.length c0_1) ∧ w'.cell? ⟨gb274, 2, none⟩ = some (.slice A0_2 l0_2.length c0_2)) (ds := []) #[false, false, false, false, false, false, false, false, false] (by kernel_rfl) rfl rfl ⟨(blk_cell BK274.out 0).trans rfl, (blk_cell BK274.out 1).trans rfl, (blk_cell BK274.out 2).trans rfl⟩ (fun hHeld => ?_); refine with_tabW spec_l4Body.tab4 spec_l4Body.bits4 (fun HT_ HW_ => ?_)
        generalize w11.drew = w13 at BK274 HB HR275 hHeld ⊢
        refine Rgn.pu HT_.out 0 19 ?_
        refine Rgn.pu HT_.out 2 21 ?_
        refine Rgn.pu HT_.out 4 23 ?_
        refine Rgn.tk HT_.out HW_.out 1 20 hHeld ?_
        refine Rgn.tk HT_.out HW_.out 3 22 hHeld ?_
        refine Rgn.pu HT_.out 5 24 ?_
        refine Rgn.pu HT_.out 6 25 ?_
        refine one_ (i := 7) (N := some 26) #[true, true, true, true, true, true, true, true, false] rfl rfl (one_of HT_.out (by kernel_rfl)) (by decide) (fun K hK => ?_)
        refine goes_ Try.func65 (by kernel_rfl) rfl #[.agg #[.int .i64 a0_0, .slice A0_2 (l0_2.take ((ji3) : Int).toNat).length c0_2]] (by rfl) rfl rfl (by (try simp only [List.map_toArray, List.map_cons, List.map_nil]); first | done | (rw [show (l0_2.take ((ji3) : Int).toNat).length = (ji3).toNat from (by rw [List.length_take]; have h_ : ((ji3) : Int) ≤ (l0_2.length : Int) := of_decide_eq_true (by first | (with_reducible assumption) | assumption); omega)] <;> rfl) | (simp only [hji3]; rfl) | rfl | (simp only [List.length_drop, List.length_take]; rfl)) ?_
        with_reducible refine (spec_EncodeRevoke.calls k a0_0 _ _ (l0_2.take ((ji3) : Int).toNat) t276 _ ?side1 ?side2 A6.out).mono ?_
        (case side1 => exact Rgn.cq (Kd.C_below HR275.out HB.out))
        (case side2 => exact HC275.out)
        rintro e w15 ⟨v277, rfl, ho0, hb⟩
        refine ⟨_, rfl, ?_⟩
        have n0_ := Aside0.mk (Kd.R_lower ho0 (below_size (Rgn.bq HB.out)))
        have n1_ := Aside0.mk (Rgn.bb BK274.out hb)
        have n2_ := Aside0.mk (below_step (Rgn.bq HB.out) hb)
        clear BK274
        clear HB
        have HO278 := n0_
        have BK274 := n1_
        have HB := n2_
        clear n0_ n1_ n2_
        (try clear hb)
        (try clear hb2)
        (try clear hk)
        (try clear hi)
        (try clear ho0)
        refine hK.out _ _ ⟨(blk_cell BK274.out 0).trans rfl, (blk_cell BK274.out 1).trans rfl, (blk_cell BK274.out 2).trans rfl⟩ (fun hHeld => ?_)
        clear hK K
        refine norm_ (a' := ?_) ?_ ?_
        rotate_left
        · show Act.put _ (some 26) _ = _
          simp only [Act.put, List.setIfInBounds_toArray, List.set_cons_zero, List.set_cons_succ, i64_w, i32_w]
          rfl
        refine Rgn.pu HT_.out 8 5 ?_
        refine done_ (done_of HT_.out (by kernel_rfl)) ?_
        try go_wp2
        have n0_ := Aside0.mk (Kd.R_drew HO278.out)
        have n1_ := Aside0.mk (blk_drew BK274.out)
        have n2_ := Aside0.mk (below_drew1 HB.out)
        clear HO278
        clear BK274
        clear HB
        have HO278 := n0_
        have BK274 := n1_
        have HB := n2_
        clear n0_ n1_ n2_
        obtain ⟨i017, hi017, _, hsz17, _⟩ := info_parts info2
        obtain ⟨A17, hcut17, hA17, hC17⟩ := print_drop_of (P := Try.prog) (Value.int .i64) 0 25 2 .i64 Try.underlying25 hi017 hsz17 A0_2 c0_2 l0_2 (ji3) (of_decide_eq_true (by first | (with_reducible assumption) | assumption)) (of_decide_eq_true (by first | (with_reducible assumption) | assumption)) HC0_2.out
        have HR279 := Aside0.mk (Kd.C_of_reads (h1 := fun _ => rfl) (hA17 _ (Kd.reads_of_C HR0_2.out)))
        have HC279 := Aside0.mk hC17
        clear hA17 hC17 hi017 hsz17
        refine start_ (n := 13) (S := fun w' => w'.cell? ⟨gb274, 0, none⟩ = some (.int .i64 a0_0) ∧ w'.cell? ⟨gb274, 1, none⟩ = some (.slice A0_1 l0_1.length c0_1) ∧ w'.cell? ⟨gb274, 2, none⟩ = some (.slice A0_2 l0_2.length c0_2)) (ds := []) #[false, false, false, false, false, false, false, false, false, false, false, false, false] (by kernel_rfl) rfl rfl ⟨(blk_cell BK274.out 0).trans rfl, (blk_cell BK274.out 1).trans rfl, (blk_cell BK274.out 2).trans rfl⟩ (fun hHeld => ?_); refine with_tabW spec_l4Body.tab5 spec_l4Body.bits5 (fun HT_ HW_ => ?_)
        generalize w15.drew = w16 at HO278 BK274 HB HR279 hHeld ⊢
        refine Rgn.pu HT_.out 0 27 ?_
        refine Rgn.pu HT_.out 1 28 ?_
        refine Rgn.pu HT_.out 3 30 ?_
        refine Rgn.pu HT_.out 5 32 ?_
        refine Rgn.pu HT_.out 7 34 ?_
        refine Rgn.tk HT_.out HW_.out 2 29 hHeld ?_
        refine Rgn.tk HT_.out HW_.out 4 31 hHeld ?_
        refine Rgn.tk HT_.out HW_.out 6 33 hHeld ?_
        refine Rgn.pu HT_.out 8 35 ?_
        refine Rgn.pu HT_.out 9 36 ?_
        refine one_ (i := 10) (N := some 37) #[true, true, true, true, true, true, true, true, true, true, true, false, false] rfl rfl (one_of HT_.out (by kernel_rfl)) (by decide) (fun K hK => ?_)
        refine goes_ Try.func55 (by kernel_rfl) rfl #[.agg #[.int .i64 a0_0, .slice A0_1 l0_1.length c0_1, .slice A17 (l0_2.drop ((ji3) : Int).toNat).length (c0_2 - (ji3).toNat)]] (by rfl) rfl rfl (by (try simp only [List.map_toArray, List.map_cons, List.map_nil]); first | done | (rw [show (l0_2.drop ((ji3) : Int).toNat).length = (l0_2.length - (ji3).toNat) from List.length_drop] <;> rfl) | (simp only [hji3]; rfl) | rfl | (simp only [List.length_drop, List.length_take]; rfl)) ?_
        with_reducible refine (ih k (by omega) a0_0 _ _ l0_1 _ _ (l0_2.drop ((ji3) : Int).toNat) t280 _ ?side1 ?side2 ?side3 ?side4 A9.out).mono ?_
        (case side1 => exact Rgn.cq (Kd.C_below HR0_1.out HB.out))
        (case side2 => exact HC0_1.out)
        (case side3 => exact Rgn.cq (Kd.C_below HR279.out HB.out))
        (case side4 => exact HC279.out)
        rintro e w18 ⟨v281, rfl, ho0, hb⟩
        refine ⟨_, rfl, ?_⟩
        have n0_ := Aside0.mk (Kd.R_elder' (Rgn.rq HO278.out) (Kd.R_base ho0) hb)
        have n1_ := Aside0.mk (Kd.R_lower (Kd.R_new' ho0 (Kd.R_lt (Rgn.rq HO278.out))) (below_size (Rgn.bq HB.out)))
        have n2_ := Aside0.mk (Rgn.bb BK274.out hb)
        have n3_ := Aside0.mk (below_step (Rgn.bq HB.out) hb)
        clear HO278
        clear BK274
        clear HB
        have HO278 := n0_
        have HO282 := n1_
        have BK274 := n2_
        have HB := n3_
        clear n0_ n1_ n2_ n3_
        (try clear hb)
        (try clear hb2)
        (try clear hk)
        (try clear hi)
        (try clear ho0)
        obtain ⟨Ao19, co19, eo19⟩ := Kd.R_slice HO278.out
        (first | subst eo19 | (injection eo19 with f1_ f2_ f3_; have f4_ := f1_.symm; have f5_ := f3_.symm; clear f1_ f2_ f3_; subst f4_; subst f5_))
        obtain ⟨Ao20, co20, eo20⟩ := Kd.R_slice HO282.out
        (first | subst eo20 | (injection eo20 with f1_ f2_ f3_; have f4_ := f1_.symm; have f5_ := f3_.symm; clear f1_ f2_ f3_; subst f4_; subst f5_))
        refine hK.out _ _ ⟨(blk_cell BK274.out 0).trans rfl, (blk_cell BK274.out 1).trans rfl, (blk_cell BK274.out 2).trans rfl⟩ (fun hHeld => ?_)
        clear hK K
        refine norm_ (a' := ?_) ?_ ?_
        rotate_left
        · show Act.put _ (some 37) _ = _
          simp only [Act.put, List.setIfInBounds_toArray, List.set_cons_zero, List.set_cons_succ, i64_w, i32_w]
          rfl
        refine one_ (i := 11) (N := some 38) #[true, true, true, true, true, true, true, true, true, true, true, true, false] rfl rfl (one_of HT_.out (by kernel_rfl)) (by decide) (fun K hK => ?_)
        refine Rgn.gs Try.func57 #[.slice Ao19 t276.length co19, .slice Ao20 t280.length co20] ?_
        with_reducible refine (spec_l2Join.calls _ _ t276 _ _ t280 t283 _ ?side1 ?side2 ?side3 ?side4 A10.out).mono ?_
        (case side1 => exact Rgn.cq (Kd.R_reads' HO278.out).2.2)
        (case side2 => exact (Kd.R_reads' HO278.out).2.1)
        (case side3 => exact Rgn.cq (Kd.R_reads' HO282.out).2.2)
        (case side4 => exact (Kd.R_reads' HO282.out).2.1)
        rintro e w21 ⟨v284, rfl, ho0, hb⟩
        refine ⟨_, rfl, ?_⟩
        have n0_ := Aside0.mk (Kd.R_elder' (Rgn.rq HO278.out) (Kd.R_base ho0) hb)
        have n1_ := Aside0.mk (Kd.R_elder' (Rgn.rq HO282.out) (Kd.R_base ho0) hb)
        have n2_ := Aside0.mk (Kd.R_lower (Kd.R_new' (Kd.R_new' ho0 (Kd.R_lt (Rgn.rq HO278.out))) (Kd.R_lt (Rgn.rq HO282.out))) (below_size (Rgn.bq HB.out)))
        have n3_ := Aside0.mk (Rgn.bb BK274.out hb)
        have n4_ := Aside0.mk (below_step (Rgn.bq HB.out) hb)
        clear HO278
        clear HO282
        clear BK274
        clear HB
        have HO278 := n0_
        have HO282 := n1_
        have HO285 := n2_
        have BK274 := n3_
        have HB := n4_
        clear n0_ n1_ n2_ n3_ n4_
        (try clear hb)
        (try clear hb2)
        (try clear hk)
        (try clear hi)
        (try clear ho0)
        refine hK.out _ _ ⟨(blk_cell BK274.out 0).trans rfl, (blk_cell BK274.out 1).trans rfl, (blk_cell BK274.out 2).trans rfl⟩ (fun hHeld => ?_)
        clear hK K
        refine norm_ (a' := ?_) ?_ ?_
        rotate_left
        · show Act.put _ (some 38) _ = _
          simp only [Act.put, List.setIfInBounds_toArray, List.set_cons_zero, List.set_cons_succ, i64_w, i32_w]
          rfl
        refine Rgn.pu HT_.out 12 2 ?_
        refine done_ (done_of HT_.out (by kernel_rfl)) ?_
        try go_wp2
        go_ret
        exact ⟨_, by first | rfl | (simp [errW_none, errW_some] <;> rfl) | (simp only [← hji3]; first | rfl | (simp [errW_none, errW_some] <;> rfl)) | (simp [*, errW_none, errW_some] <;> rfl), by (with_reducible repeat (first | apply Kd.R_alloc | apply Kd.R_drewN | apply Kd.R_drew)); exact Kd.R_mono HO285.out (fun _ hk => trivial), Rgn.bq HB.out⟩
      · rw [if_neg c5] at H
        exact absurd H (by simp)
    · rw [if_neg c4] at H
      exact absurd H (by simp)
  · rw [if_neg c2] at H
    have c2b0 : decide (0 < (l0_2.length : Int)) = false := decide_eq_false c2
    have c2b1 : decide (0 < l0_2.length) = false := decide_eq_false (by omega)
    clear c2
    by_cases c22 : (l0_1.length : Int) = 0
    · rw [if_pos c22] at H
      have c22b0 : ((l0_1.length : Int) == 0) = true := beq_iff_eq.mpr c22
      have c22b1 : ((l0_1.length : Int) != 0) = false := bne_eq_false_iff_eq.mpr c22
      clear c22
      obtain ⟨y286, hy286⟩ : ∃ y_ : List Int, y_ = (([] : List Int)) := ⟨_, rfl⟩
      replace H : (some y286) = some r := by first | (rw [hy286]; with_reducible exact H) | (have H2_ := (Option.bind_some _ _).symm.trans H; rw [hy286]; with_reducible exact H2_) | (have H2_ := (Option.bind_some _ _).symm.trans H; with_reducible exact H2_) | with_reducible exact H | (rw [hy286]; exact H) | exact H
      have Ny286 := Aside0.mk hy286
      clear hy286
      obtain rfl := Option.some.inj H
      go_enter Try.func55, Try.ntmps55
      go_wp2_with (first | ((with_reducible refine gate_dst (N := 1) rfl ?_); refine box_event ?hg (N := 1) ?hd (cs := #[.int .i64 a0_0, .slice A0_1 l0_1.length c0_1, .slice A0_2 l0_2.length c0_2]) (t := 34) ?hr ?_; (case hd => rfl); (case hg => rfl); (case hr => first | (go_simp; done) | (go_simp; rfl)); intro gb274 hg w23 hbox hb; have n0_ := Aside0.mk (below_step (Rgn.bq HB.out) hb); have n1_ := Aside0.mk (hbox); have n2_ := Aside0.mk ((by rw [hg]; exact (below_size (Rgn.bq HB.out)) : w.heap.size ≤ gb274)); have n3_ := Aside0.mk ((by rw [hg]; exact (below_size (Rgn.bq HB.out)) : w.heap.size ≤ gb274)); clear HB; have HB := n0_; have BK274 := n1_; have GW274 := n2_; have GE274 := n3_; clear n0_ n1_ n2_ n3_; clear hb hbox hg; have hcz24_0 : w23.cell? ⟨gb274, 0, none⟩ = some (.int .i64 a0_0) := (blk_cell BK274.out 0).trans rfl; have hcz24_1 : w23.cell? ⟨gb274, 1, none⟩ = some (.slice A0_1 l0_1.length c0_1) := (blk_cell BK274.out 1).trans rfl; have hcz24_2 : w23.cell? ⟨gb274, 2, none⟩ = some (.slice A0_2 l0_2.length c0_2) := (blk_cell BK274.out 2).trans rfl; have hfz24_0 := blk_frozen BK274.out 0; have hfz24_1 := blk_frozen BK274.out 1; have hfz24_2 := blk_frozen BK274.out 2) | ((with_reducible refine gate_dst (N := 43) rfl ?_); refine Kd.R_lit (Kd.int .u8) _ 5 ?hg (N := 43) ?hd (xs := ([] : List Int)) (inner := []) (ok := fun _ => True) (okp := fun _ => True) ?hr ?hp (fun _ hk => hk) trivial (Below.refl _ _) (Nat.le_refl _) (by simp) ?_; (case hd => rfl); (case hg => rfl); (case hr => first | (go_simp; done) | (go_simp; rfl)); (case hp => exact (Reps.none _ _)); intro v287 w25 ho26 hb hg_ hnew_; clear hg_ hnew_; (first | rw [← Ny286.out] at ho26 | (simp only [Int.reduceToNat] at ho26; rw [← Ny286.out] at ho26)); have n0_ := Aside0.mk (Kd.R_lower ho26 (below_size (Rgn.bq HB.out))); have n1_ := Aside0.mk (Rgn.bb BK274.out hb); have n2_ := Aside0.mk (below_step (Rgn.bq HB.out) hb); clear BK274; clear HB; have HO288 := n0_; have BK274 := n1_; have HB := n2_; clear n0_ n1_ n2_; clear hb ho26))
      go_ret
      exact ⟨_, by first | rfl | (simp [errW_none, errW_some] <;> rfl) | (simp [*, errW_none, errW_some] <;> rfl), Rgn.rq HO288.out, Rgn.bq HB.out⟩
    · rw [if_neg c22] at H
      have c22b0 : ((l0_1.length : Int) == 0) = false := beq_eq_false_iff_ne.mpr c22
      have c22b1 : ((l0_1.length : Int) != 0) = true := bne_iff_ne.mpr c22
      have c22b2 : ¬ (l0_1 = []) := fun h_ => c22 (by rw [h_]; rfl)
      obtain ⟨ji27, hji27⟩ : ∃ j_ : Int, (mn (l0_1.length : Int) 17) = j_ := ⟨_, rfl⟩
      replace H : (spec_l4Body.l0 k ji27 (([] : List Int)) 0 a0_0 l0_1 l0_2 a0_0 ([] : List (S101))) = some r := by first | (rw [hji27] at H; exact H) | (simp only [hji27] at H ⊢; exact H)
      (try (have hji27h : ji27 ≤ 17 := by (rw [← hji27]; unfold mn; (repeat' split) <;> omega)))
      (try (have hji27g : ji27 ≤ 64 := by omega))
      (try (have hji27l : 0 ≤ ji27 := by (rw [← hji27]; unfold mn; (repeat' split) <;> omega)))
      (try (have hji27m : 0 ≤ ji27 := by omega))
      have hji27_ : (if 17 < (l0_1.length : Int) then 17 else (l0_1.length : Int)) = ji27 := hji27
      obtain ⟨y290, hy290⟩ : ∃ y_ : List Int, y_ = (([] : List Int)) := ⟨_, rfl⟩
      replace H : (spec_l4Body.l0 k ji27 y290 0 a0_0 l0_1 l0_2 a0_0 ([] : List (S101))) = some r := by first | (rw [hy290]; with_reducible exact H) | (have H2_ := (Option.bind_some _ _).symm.trans H; rw [hy290]; with_reducible exact H2_) | (have H2_ := (Option.bind_some _ _).symm.trans H; with_reducible exact H2_) | with_reducible exact H | (rw [hy290]; exact H) | exact H
      have Ny290 := Aside0.mk hy290
      clear hy290
      have H' := Aside0.mk H
      clear H
      go_enter Try.func55, Try.ntmps55
      go_wp2_with (first | ((with_reducible refine gate_dst (N := 1) rfl ?_); refine box_event ?hg (N := 1) ?hd (cs := #[.int .i64 a0_0, .slice A0_1 l0_1.length c0_1, .slice A0_2 l0_2.length c0_2]) (t := 34) ?hr ?_; (case hd => rfl); (case hg => rfl); (case hr => first | (go_simp; done) | (go_simp; rfl)); intro gb274 hg w28 hbox hb; have n0_ := Aside0.mk (below_step (Rgn.bq HB.out) hb); have n1_ := Aside0.mk (hbox); have n2_ := Aside0.mk ((by rw [hg]; exact (below_size (Rgn.bq HB.out)) : w.heap.size ≤ gb274)); have n3_ := Aside0.mk ((by rw [hg]; exact (below_size (Rgn.bq HB.out)) : w.heap.size ≤ gb274)); clear HB; have HB := n0_; have BK274 := n1_; have GW274 := n2_; have GE274 := n3_; clear n0_ n1_ n2_ n3_; clear hb hbox hg; have hcz29_0 : w28.cell? ⟨gb274, 0, none⟩ = some (.int .i64 a0_0) := (blk_cell BK274.out 0).trans rfl; have hcz29_1 : w28.cell? ⟨gb274, 1, none⟩ = some (.slice A0_1 l0_1.length c0_1) := (blk_cell BK274.out 1).trans rfl; have hcz29_2 : w28.cell? ⟨gb274, 2, none⟩ = some (.slice A0_2 l0_2.length c0_2) := (blk_cell BK274.out 2).trans rfl; have hfz29_0 := blk_frozen BK274.out 0; have hfz29_1 := blk_frozen BK274.out 1; have hfz29_2 := blk_frozen BK274.out 2) | ((with_reducible refine gate_dst (N := 7) rfl ?_); refine box_event ?hg (N := 7) ?hd (cs := #[.int .i64 0, .slice none 0 0]) (t := 96) ?hr ?_; (case hd => rfl); (case hg => rfl); (case hr => first | (go_simp; done) | (go_simp; rfl)); intro gb289 hg w30 hbox hb; have n0_ := Aside0.mk (Rgn.bb BK274.out hb); have n1_ := Aside0.mk (below_step (Rgn.bq HB.out) hb); have n2_ := Aside0.mk (hbox); have n3_ := Aside0.mk ((by rw [hg]; exact (below_size (Rgn.bq HB.out)) : w.heap.size ≤ gb289)); have n4_ := Aside0.mk ((by rw [hg]; exact (below_size (Rgn.bq HB.out)) : w.heap.size ≤ gb289)); have n5_ := Aside0.mk ((by rw [hg]; exact Nat.ne_of_lt (blk_lt (g := gb274) (o := .cells #[.int .i64 a0_0, .slice A0_1 l0_1.length c0_1, .slice A0_2 l0_2.length c0_2] 34 (0, 0)) (Rgn.kb BK274.out)) : gb274 ≠ gb289)); have n6_ := Aside0.mk ((by rw [hg]; exact Nat.ne_of_gt (blk_lt (g := gb274) (o := .cells #[.int .i64 a0_0, .slice A0_1 l0_1.length c0_1, .slice A0_2 l0_2.length c0_2] 34 (0, 0)) (Rgn.kb BK274.out)) : gb289 ≠ gb274)); clear BK274; clear HB; have BK274 := n0_; have HB := n1_; have BK289 := n2_; have GW289 := n3_; have GE289 := n4_; have NB274_289 := n5_; have NB289_274 := n6_; clear n0_ n1_ n2_ n3_ n4_ n5_ n6_; clear hb hbox hg; have hnb31 := NB289_274.out; have hnc31 := NB274_289.out; have hcz32_0 : w30.cell? ⟨gb289, 0, none⟩ = some (.int .i64 0) := (blk_cell BK289.out 0).trans rfl; have hcz32_1 : w30.cell? ⟨gb289, 1, none⟩ = some (.slice none 0 0) := (blk_cell BK289.out 1).trans rfl; have hfz32_0 := blk_frozen BK289.out 0; have hfz32_1 := blk_frozen BK289.out 1) | ((with_reducible refine gate_dst (N := 51) rfl ?_); refine Kd.R_lit (Kd.int .u8) _ 5 ?hg (N := 51) ?hd (xs := ([] : List Int)) (inner := []) (ok := fun _ => True) (okp := fun _ => True) ?hr ?hp (fun _ hk => hk) trivial (Below.refl _ _) (Nat.le_refl _) (by simp) ?_; (case hd => rfl); (case hg => rfl); (case hr => first | (go_simp; done) | (go_simp; rfl)); (case hp => exact (Reps.none _ _)); intro v291 w33 ho34 hb hg_ hnew_; clear hg_ hnew_; (first | rw [← Ny290.out] at ho34 | (simp only [Int.reduceToNat] at ho34; rw [← Ny290.out] at ho34)); have n0_ := Aside0.mk (Kd.R_lower ho34 (below_size (Rgn.bq HB.out))); have n1_ := Aside0.mk (blk_below (g := gb274) (o := .cells #[.int .i64 a0_0, .slice A0_1 l0_1.length c0_1, .slice A0_2 l0_2.length c0_2] 34 (0, 0)) (by (with_reducible repeat (first | refine blk_drewN ?_ _ | refine blk_drew ?_ | refine blk_alloc ?_ _)); refine blk_far ?_ NB274_289.out _; (with_reducible repeat (first | refine blk_drewN ?_ _ | refine blk_drew ?_ | refine blk_alloc ?_ _)); refine blk_far ?_ NB274_289.out _; (with_reducible repeat (first | refine blk_drewN ?_ _ | refine blk_drew ?_ | refine blk_alloc ?_ _)); exact BK274.out) hb); have n2_ := Aside0.mk (blk_below (g := gb289) (o := .cells #[.int .i64 a0_0, .slice none 0 0] 96 (0, 0)) (by (with_reducible repeat (first | refine blk_drewN ?_ _ | refine blk_drew ?_ | refine blk_alloc ?_ _)); refine blk_put (cs := #[.int .i64 a0_0, .slice none 0 0]) ?_ 1 _ rfl; (with_reducible repeat (first | refine blk_drewN ?_ _ | refine blk_drew ?_ | refine blk_alloc ?_ _)); refine blk_put (cs := #[.int .i64 0, .slice none 0 0]) ?_ 0 _ rfl; (with_reducible repeat (first | refine blk_drewN ?_ _ | refine blk_drew ?_ | refine blk_alloc ?_ _)); exact BK289.out) hb); have n3_ := Aside0.mk (below_step (Rgn.bq HB.out) hb); clear BK274; clear BK289; clear HB; have HO292 := n0_; have BK274 := n1_; have BK289 := n2_; have HB := n3_; clear n0_ n1_ n2_ n3_; clear hb ho34))
      go_loopg [8, 9] k (fun kq v8 v9 w' => ∃ (x8_1 : List Int) (x9_1 : Int) (x290001_1 : List (S101)) (u290001 : Value), v9 = .int .i64 x9_1 ∧ Aside0 (spec_l4Body.l0 kq ji27 x8_1 x9_1 a0_0 l0_1 l0_2 a0_0 x290001_1 = some r) ∧ Aside0 (kq ≤ k) ∧ Aside0 (Kd.R (Kd.int .u8) 5 w' w.heap.size (fun _ => True) v8 x8_1) ∧ Aside0 (Kd.R k101 101 w' w.heap.size (fun _ => True) u290001 x290001_1) ∧ Aside0 (w'.heap[gb274]? = some (.cells #[.int .i64 a0_0, (.slice A0_1 l0_1.length c0_1), (.slice A0_2 l0_2.length c0_2)] 34 (0, 0))) ∧ Aside0 (w'.heap[gb289]? = some (.cells #[.int .i64 a0_0, u290001] 96 (0, 0))) ∧ Aside0 (Below w.heap.size w w'))
      case atStart => exact ⟨(y290), (0), (([] : List (S101))), (.slice none 0 0), (by first | rfl | (simp; done) | (simp [*]; done)), H', ⟨Nat.le_refl _⟩, ⟨Rgn.rq HO292.out⟩, ⟨by first | exact Kd.R_nil _ _ _ _ _ | exact Kd.N_nil _ _ _ _ _ | exact Kd.V_nil _ _ _ _ _ | exact Kd.Q_nil _ _ _ _ _ | exact Kd.S_nil _ _ _ _ _⟩, ⟨Rgn.kb BK274.out⟩, ⟨Rgn.kb BK289.out⟩, ⟨Rgn.bq HB.out⟩⟩
      case round =>
        clear H'
        try clear c2
        try clear c2b0
        try clear c2b1
        try clear p2
        try clear c3
        try clear c4
        try clear c4b0
        try clear c4b1
        try clear c5
        try clear c5b0
        try clear c5b1
        try clear c6
        try clear c7
        try clear c7b0
        try clear c8
        try clear c8b0
        try clear c22
        try clear c22b0
        try clear c22b1
        try clear c22b2
        try clear c31
        try clear hcz12_0
        try clear hcz12_1
        try clear hcz12_2
        try clear hcz24_0
        try clear hcz24_1
        try clear hcz24_2
        try clear hcz29_0
        try clear hcz29_1
        try clear hcz29_2
        try clear hcz32_0
        try clear hcz32_1
        try clear hfz12_0
        try clear hfz12_1
        try clear hfz12_2
        try clear hfz24_0
        try clear hfz24_1
        try clear hfz24_2
        try clear hfz29_0
        try clear hfz29_1
        try clear hfz29_2
        try clear hfz32_0
        try clear hfz32_1
        obtain ⟨x8_1, x9_1, x290001_1, u290001, rfl, HA, HK1, HO_8, HO_290001, BK274, BK289, HB⟩ := hrel
        cases gk with
        | zero => exact absurd HA.out (by simp [spec_l4Body.l0])
        | succ k1 =>
          have H := HA.out
          clear HA
          simp only [spec_l4Body.l0] at H
          by_cases c35 : x9_1 < ji27
          · rw [if_pos c35] at H
            have c35b0 : decide (x9_1 < ji27) = true := decide_eq_true c35
            clear c35
            by_cases c36 : 0 ≤ x9_1
            · rw [if_pos c36] at H
              have c36b0 : decide (0 ≤ x9_1) = true := decide_eq_true c36
              clear c36
              by_cases c37 : x9_1 < (l0_1.length : Int)
              · rw [if_pos c37] at H
                have c37b0 : decide (x9_1 < (l0_1.length : Int)) = true := decide_eq_true c37
                clear c37
                replace H := Option.bind_eq_some_iff.mp H
                obtain ⟨⟨t294, t295, t298⟩, A380, H⟩ := H
                replace H : (if x290001_1.length < 8796093022208 then (if x8_1.length + t295.length < 140737488355328 then (spec_l4Body.l0 k1 ji27 (x8_1 ++ t295) (wrap64 (x9_1 + 1)) a0_0 l0_1 l0_2 a0_0 (x290001_1 ++ [(⟨(rd_T61 l0_1 x9_1).f0, t298⟩ : S101)])) else (none)) else (none)) = some r := H
                have A38 := Aside0.mk A380
                clear A380
                by_cases c39 : x290001_1.length < 8796093022208
                · rw [if_pos c39] at H
                  have LMc39 := Aside0.mk c39
                  clear c39
                  obtain ⟨y301, hy301⟩ : ∃ y_ : List (S101), y_ = (x290001_1 ++ [(⟨(rd_T61 l0_1 x9_1).f0, t298⟩ : S101)]) := ⟨_, rfl⟩
                  replace H : (if x8_1.length + t295.length < 140737488355328 then (spec_l4Body.l0 k1 ji27 (x8_1 ++ t295) (wrap64 (x9_1 + 1)) a0_0 l0_1 l0_2 a0_0 y301) else (none)) = some r := by first | (rw [hy301]; with_reducible exact H) | (have H2_ := (Option.bind_some _ _).symm.trans H; rw [hy301]; with_reducible exact H2_) | (have H2_ := (Option.bind_some _ _).symm.trans H; with_reducible exact H2_) | with_reducible exact H | (rw [hy301]; exact H) | exact H
                  have Ny301 := Aside0.mk hy301
                  clear hy301
                  by_cases c40 : x8_1.length + t295.length < 140737488355328
                  · rw [if_pos c40] at H
                    have LMc40 := Aside0.mk c40
                    clear c40
                    obtain ⟨y304, hy304⟩ : ∃ y_ : List Int, y_ = (x8_1 ++ t295) := ⟨_, rfl⟩
                    replace H : (spec_l4Body.l0 k1 ji27 y304 (wrap64 (x9_1 + 1)) a0_0 l0_1 l0_2 a0_0 y301) = some r := by first | (rw [hy304]; with_reducible exact H) | (have H2_ := (Option.bind_some _ _).symm.trans H; rw [hy304]; with_reducible exact H2_) | (have H2_ := (Option.bind_some _ _).symm.trans H; with_reducible exact H2_) | with_reducible exact H | (rw [hy304]; exact H) | exact H
                    have Ny304 := Aside0.mk hy304
                    clear hy304
                    have H' := Aside0.mk H
                    clear H
                    have hnb41 := NB274_289.out
                    have hnc41 := NB289_274.out
                    have hcz42_0 : wr.cell? ⟨gb274, 0, none⟩ = some (.int .i64 a0_0) := (blk_cell BK274.out 0).trans rfl
                    have hcz42_1 : wr.cell? ⟨gb274, 1, none⟩ = some (.slice A0_1 l0_1.length c0_1) := (blk_cell BK274.out 1).trans rfl
                    have hcz42_2 : wr.cell? ⟨gb274, 2, none⟩ = some (.slice A0_2 l0_2.length c0_2) := (blk_cell BK274.out 2).trans rfl
                    have hfz42_0 := blk_frozen BK274.out 0
                    have hfz42_1 := blk_frozen BK274.out 1
                    have hfz42_2 := blk_frozen BK274.out 2
                    have p293 : 0 ≤ (x9_1 : Int) := of_decide_eq_true (by first | (with_reducible assumption) | assumption)
                    have q293 : x9_1 < (l0_1.length : Int) := of_decide_eq_true (by first | (with_reducible assumption) | assumption)
                    obtain ⟨ad293, A293_1, c293_1, e293, hx293_0, hx293_1, hl293_1, hi293_1⟩ := at_T61 HR0_1.out x9_1 p293 q293
                    cases e293
                    replace hx293_0 := (HB.out.cell (World.block_lt_of_cell? w _ hx293_0)).trans hx293_0
                    replace hx293_1 := (HB.out.cell (World.block_lt_of_cell? w _ hx293_1)).trans hx293_1
                    have HR293_1 := Aside0.mk hi293_1
                    have HC293_1 := Aside0.mk hl293_1
                    clear hi293_1 hl293_1
                    replace p293 := eq_true p293
                    replace q293 := eq_true q293
                    try go_wp2_with (first | ((with_reducible refine gate_callee (f := 66) rfl ?_); refine Rgn.gl (some 63) Try.func66 #[.slice A293_1 ((rd_T61 l0_1 x9_1).f1).length c293_1] ?_; (with_reducible refine (spec_Escape.calls _ _ ((rd_T61 l0_1 x9_1).f1) t294 t295 t298 _ ?side1 ?side2 A38.out).mono ?_); (case side1 => exact Rgn.cq (Kd.C_below HR293_1.out HB.out)); (case side2 => exact HC293_1.out); rintro e w43 ⟨v296, rfl, ho0, hb⟩; refine ⟨_, rfl, ?_⟩; have n0_ := Aside0.mk (Kd.R_elder' (Rgn.rq HO_8.out) (Kd.R_base ho0) hb); have n1_ := Aside0.mk (Kd.R_below (Rgn.rq HO_290001.out) hb); have n2_ := Aside0.mk (Kd.R_lower (Kd.R_new' ho0 (Kd.R_lt (Rgn.rq HO_8.out))) (below_size (Rgn.bq HB.out))); have n3_ := Aside0.mk (Rgn.bb BK274.out hb); have n4_ := Aside0.mk (Rgn.bb BK289.out hb); have n5_ := Aside0.mk (below_step (Rgn.bq HB.out) hb); clear HO_8; clear HO_290001; clear BK274; clear BK289; clear HB; have HO_8 := n0_; have HO_290001 := n1_; have HO297 := n2_; have BK274 := n3_; have BK289 := n4_; have HB := n5_; clear n0_ n1_ n2_ n3_ n4_ n5_; (try clear hb); (try clear hb2); (try clear hk); (try clear hi); (try clear ho0)) | ((with_reducible refine gate_dst (N := 10) rfl ?_); refine box_event ?hg (N := 10) ?hd (cs := #[.bool false, .slice none 0 0, .bool false]) (t := 98) ?hr ?_; (case hd => rfl); (case hg => rfl); (case hr => first | (go_simp; done) | (go_simp; rfl)); intro gb299 hg w44 hbox hb; have n0_ := Aside0.mk (Kd.R_below (Rgn.rq HO_8.out) hb); have n1_ := Aside0.mk (Kd.R_below (Rgn.rq HO_290001.out) hb); have n2_ := Aside0.mk (Kd.R_below (Rgn.rq HO297.out) hb); have n3_ := Aside0.mk (Rgn.bb BK274.out hb); have n4_ := Aside0.mk (Rgn.bb BK289.out hb); have n5_ := Aside0.mk (below_step (Rgn.bq HB.out) hb); have n6_ := Aside0.mk (hbox); have n7_ := Aside0.mk ((by rw [hg]; exact (below_size (Rgn.bq HB.out)) : w.heap.size ≤ gb299)); have n8_ := Aside0.mk ((by rw [hg]; exact (below_size (Rgn.bq HB.out)) : w.heap.size ≤ gb299)); have n9_ := Aside0.mk ((by rw [hg]; exact Nat.ne_of_lt (blk_lt (g := gb274) (o := .cells #[.int .i64 a0_0, .slice (some ad293) l0_1.length c0_1, .slice A0_2 l0_2.length c0_2] 34 (0, 0)) (Rgn.kb BK274.out)) : gb274 ≠ gb299)); have n10_ := Aside0.mk ((by rw [hg]; exact Nat.ne_of_gt (blk_lt (g := gb274) (o := .cells #[.int .i64 a0_0, .slice (some ad293) l0_1.length c0_1, .slice A0_2 l0_2.length c0_2] 34 (0, 0)) (Rgn.kb BK274.out)) : gb299 ≠ gb274)); have n11_ := Aside0.mk ((by rw [hg]; exact Nat.ne_of_lt (blk_lt (g := gb289) (o := .cells #[.int .i64 a0_0, u290001] 96 (0, 0)) (Rgn.kb BK289.out)) : gb289 ≠ gb299)); have n12_ := Aside0.mk ((by rw [hg]; exact Nat.ne_of_gt (blk_lt (g := gb289) (o := .cells #[.int .i64 a0_0, u290001] 96 (0, 0)) (Rgn.kb BK289.out)) : gb299 ≠ gb289)); clear HO_8; clear HO_290001; clear HO297; clear BK274; clear BK289; clear HB; have HO_8 := n0_; have HO_290001 := n1_; have HO297 := n2_; have BK274 := n3_; have BK289 := n4_; have HB := n5_; have BK299 := n6_; have GW299 := n7_; have GE299 := n8_; have NB274_299 := n9_; have NB299_274 := n10_; have NB289_299 := n11_; have NB299_289 := n12_; clear n0_ n1_ n2_ n3_ n4_ n5_ n6_ n7_ n8_ n9_ n10_ n11_ n12_; clear hb hbox hg; have hnb45 := NB299_274.out; have hnc45 := NB274_299.out; have hnb46 := NB299_289.out; have hnc46 := NB289_299.out; have hcz47_0 : w44.cell? ⟨gb299, 0, none⟩ = some (.bool false) := (blk_cell BK299.out 0).trans rfl; have hcz47_1 : w44.cell? ⟨gb299, 1, none⟩ = some (.slice none 0 0) := (blk_cell BK299.out 1).trans rfl; have hcz47_2 : w44.cell? ⟨gb299, 2, none⟩ = some (.bool false) := (blk_cell BK299.out 2).trans rfl; have hfz47_0 := blk_frozen BK299.out 0; have hfz47_1 := blk_frozen BK299.out 1; have hfz47_2 := blk_frozen BK299.out 2; obtain ⟨Ao48, co48, eo48⟩ := Kd.R_slice HO297.out; subst eo48))
                    have n0_ : Aside0 (Kd.R (Kd.int .u8) 5 (((w44.setCell ⟨gb299, 0, none⟩ (.bool t294)).setCell ⟨gb299, 1, none⟩ (.slice Ao48 t295.length co48)).setCell ⟨gb299, 2, none⟩ (.bool t298)) w.heap.size (fun k_ => some k_ ≠ (.slice Ao48 t295.length co48 : Value).ownBlock) u8 x8_1) := ⟨by (with_reducible repeat (first | apply Kd.R_alloc | apply Kd.R_drewN | apply Kd.R_drew)); exact Kd.R_mono (Kd.R_far (p := ⟨gb299, 2, none⟩) (Kd.R_far (p := ⟨gb299, 1, none⟩) (Kd.R_far (p := ⟨gb299, 0, none⟩) (Kd.R_types HO_8.out BK299.out (by decide)) (fun _ hk => hk.2) (.bool t294)) (fun _ hk => hk.2) (.slice Ao48 t295.length co48)) (fun _ hk => hk.2) (.bool t298)) (fun _ hk => hk.1.2)⟩
                    have n1_ : Aside0 (Kd.R k101 101 (((w44.setCell ⟨gb299, 0, none⟩ (.bool t294)).setCell ⟨gb299, 1, none⟩ (.slice Ao48 t295.length co48)).setCell ⟨gb299, 2, none⟩ (.bool t298)) w.heap.size (fun _ => True) u290001 x290001_1) := ⟨by (with_reducible repeat (first | apply Kd.R_alloc | apply Kd.R_drewN | apply Kd.R_drew)); exact Kd.R_mono (Kd.R_far (p := ⟨gb299, 2, none⟩) (Kd.R_far (p := ⟨gb299, 1, none⟩) (Kd.R_far (p := ⟨gb299, 0, none⟩) (Kd.R_types HO_290001.out BK299.out (by decide)) (fun _ hk => hk.2) (.bool t294)) (fun _ hk => hk.2) (.slice Ao48 t295.length co48)) (fun _ hk => hk.2) (.bool t298)) (fun _ hk => trivial)⟩
                    have n2_ : Aside0 (Kd.R (Kd.int .u8) 5 (((w44.setCell ⟨gb299, 0, none⟩ (.bool t294)).setCell ⟨gb299, 1, none⟩ (.slice Ao48 t295.length co48)).setCell ⟨gb299, 2, none⟩ (.bool t298)) w.heap.size (fun k_ => some k_ ≠ (u8 : Value).ownBlock) (.slice Ao48 t295.length co48) t295) := ⟨by (with_reducible repeat (first | apply Kd.R_alloc | apply Kd.R_drewN | apply Kd.R_drew)); exact Kd.R_mono (Kd.R_far (p := ⟨gb299, 2, none⟩) (Kd.R_far (p := ⟨gb299, 1, none⟩) (Kd.R_far (p := ⟨gb299, 0, none⟩) (Kd.R_types HO297.out BK299.out (by decide)) (fun _ hk => hk.2) (.bool t294)) (fun _ hk => hk.2) (.slice Ao48 t295.length co48)) (fun _ hk => hk.2) (.bool t298)) (fun _ hk => hk.1.2)⟩
                    have n3_ : Aside0 ((((w44.setCell ⟨gb299, 0, none⟩ (.bool t294)).setCell ⟨gb299, 1, none⟩ (.slice Ao48 t295.length co48)).setCell ⟨gb299, 2, none⟩ (.bool t298)).heap[gb274]? = some (.cells #[.int .i64 a0_0, .slice (some ad293) l0_1.length c0_1, .slice A0_2 l0_2.length c0_2] 34 (0, 0))) := ⟨by (with_reducible repeat (first | refine blk_drewN ?_ _ | refine blk_drew ?_ | refine blk_alloc ?_ _)); refine blk_far ?_ NB274_299.out _; (with_reducible repeat (first | refine blk_drewN ?_ _ | refine blk_drew ?_ | refine blk_alloc ?_ _)); refine blk_far ?_ NB274_299.out _; (with_reducible repeat (first | refine blk_drewN ?_ _ | refine blk_drew ?_ | refine blk_alloc ?_ _)); refine blk_far ?_ NB274_299.out _; (with_reducible repeat (first | refine blk_drewN ?_ _ | refine blk_drew ?_ | refine blk_alloc ?_ _)); exact BK274.out⟩
                    have n4_ : Aside0 ((((w44.setCell ⟨gb299, 0, none⟩ (.bool t294)).setCell ⟨gb299, 1, none⟩ (.slice Ao48 t295.length co48)).setCell ⟨gb299, 2, none⟩ (.bool t298)).heap[gb289]? = some (.cells #[.int .i64 a0_0, u290001] 96 (0, 0))) := ⟨by (with_reducible repeat (first | refine blk_drewN ?_ _ | refine blk_drew ?_ | refine blk_alloc ?_ _)); refine blk_far ?_ NB289_299.out _; (with_reducible repeat (first | refine blk_drewN ?_ _ | refine blk_drew ?_ | refine blk_alloc ?_ _)); refine blk_far ?_ NB289_299.out _; (with_reducible repeat (first | refine blk_drewN ?_ _ | refine blk_drew ?_ | refine blk_alloc ?_ _)); refine blk_far ?_ NB289_299.out _; (with_reducible repeat (first | refine blk_drewN ?_ _ | refine blk_drew ?_ | refine blk_alloc ?_ _)); exact BK289.out⟩
                    have n5_ : Aside0 ((((w44.setCell ⟨gb299, 0, none⟩ (.bool t294)).setCell ⟨gb299, 1, none⟩ (.slice Ao48 t295.length co48)).setCell ⟨gb299, 2, none⟩ (.bool t298)).heap[gb299]? = some (.cells #[.bool t294, .slice Ao48 t295.length co48, .bool t298] 98 (0, 0))) := ⟨by (with_reducible repeat (first | refine blk_drewN ?_ _ | refine blk_drew ?_ | refine blk_alloc ?_ _)); refine blk_put (cs := #[.bool t294, .slice Ao48 t295.length co48, .bool false]) ?_ 2 _ rfl; (with_reducible repeat (first | refine blk_drewN ?_ _ | refine blk_drew ?_ | refine blk_alloc ?_ _)); refine blk_put (cs := #[.bool t294, .slice none 0 0, .bool false]) ?_ 1 _ rfl; (with_reducible repeat (first | refine blk_drewN ?_ _ | refine blk_drew ?_ | refine blk_alloc ?_ _)); refine blk_put (cs := #[.bool false, .slice none 0 0, .bool false]) ?_ 0 _ rfl; (with_reducible repeat (first | refine blk_drewN ?_ _ | refine blk_drew ?_ | refine blk_alloc ?_ _)); exact BK299.out⟩
                    have n6_ : Aside0 (Below w.heap.size w (((w44.setCell ⟨gb299, 0, none⟩ (.bool t294)).setCell ⟨gb299, 1, none⟩ (.slice Ao48 t295.length co48)).setCell ⟨gb299, 2, none⟩ (.bool t298))) := ⟨Rgn.bq HB.out⟩
                    (try clear HO_8)
                    (try clear HO_290001)
                    (try clear HO297)
                    (try clear BK274)
                    (try clear BK289)
                    (try clear BK299)
                    (try clear HB)
                    generalize (((w44.setCell ⟨gb299, 0, none⟩ (.bool t294)).setCell ⟨gb299, 1, none⟩ (.slice Ao48 t295.length co48)).setCell ⟨gb299, 2, none⟩ (.bool t298)) = w49 at n0_ n1_ n2_ n3_ n4_ n5_ n6_ ⊢
                    have HO_8 := n0_
                    have HO_290001 := n1_
                    have HO297 := n2_
                    have BK274 := n3_
                    have BK289 := n4_
                    have BK299 := n5_
                    have HB := n6_
                    clear n0_ n1_ n2_ n3_ n4_ n5_ n6_
                    have n0_ := Aside0.mk (Kd.R_drew HO_8.out)
                    have n1_ := Aside0.mk (Kd.R_drew HO_290001.out)
                    have n2_ := Aside0.mk (Kd.R_drew HO297.out)
                    have n3_ := Aside0.mk (blk_drew BK274.out)
                    have n4_ := Aside0.mk (blk_drew BK289.out)
                    have n5_ := Aside0.mk (blk_drew BK299.out)
                    have n6_ := Aside0.mk (below_drew1 HB.out)
                    clear HO_8
                    clear HO_290001
                    clear HO297
                    clear BK274
                    clear BK289
                    clear BK299
                    clear HB
                    have HO_8 := n0_
                    have HO_290001 := n1_
                    have HO297 := n2_
                    have BK274 := n3_
                    have BK289 := n4_
                    have BK299 := n5_
                    have HB := n6_
                    clear n0_ n1_ n2_ n3_ n4_ n5_ n6_
                    have p300 : 0 ≤ (x9_1 : Int) := of_decide_eq_true (by first | (with_reducible assumption) | assumption)
                    have q300 : x9_1 < (l0_1.length : Int) := of_decide_eq_true (by first | (with_reducible assumption) | assumption)
                    obtain ⟨ad300, A300_1, c300_1, e300, hx300_0, hx300_1, hl300_1, hi300_1⟩ := at_T61 HR0_1.out x9_1 p300 q300
                    have hw300_1 := hx300_1
                    have hw300_0 := hx300_0
                    obtain rfl : ad293 = ad300 := (by injection e300)
                    replace hx300_0 := (HB.out.cell (World.block_lt_of_cell? w _ hx300_0)).trans hx300_0
                    replace hx300_1 := (HB.out.cell (World.block_lt_of_cell? w _ hx300_1)).trans hx300_1
                    have HR300_1 := Aside0.mk hi300_1
                    have HC300_1 := Aside0.mk hl300_1
                    clear hi300_1 hl300_1
                    replace p300 := eq_true p300
                    replace q300 := eq_true q300
                    refine start_ (n := 15) (S := fun w' => w'.cell? ⟨gb289, 0, none⟩ = some (.int .i64 a0_0) ∧ w'.cell? ⟨gb289, 1, none⟩ = some (u290001) ∧ w'.cell? ⟨gb274, 0, none⟩ = some (.int .i64 a0_0) ∧ w'.cell? ⟨gb274, 1, none⟩ = some (.slice (some ad293) l0_1.length c0_1) ∧ w'.cell? ⟨gb274, 2, none⟩ = some (.slice A0_2 l0_2.length c0_2) ∧ w'.cell? ⟨gb299, 0, none⟩ = some (.bool t294) ∧ w'.cell? ⟨gb299, 1, none⟩ = some (.slice Ao48 t295.length co48) ∧ w'.cell? ⟨gb299, 2, none⟩ = some (.bool t298) ∧ w'.cell? (ad293.add ((x9_1).toNat * 2)) = some (.int .i64 ((rd_T61 l0_1 x9_1).f0)) ∧ w'.cell? ⟨(ad293.add ((x9_1).toNat * 2)).block, (ad293.add ((x9_1).toNat * 2)).off + 1, none⟩ = some (.slice A300_1 ((rd_T61 l0_1 x9_1).f1).length c300_1)) (ds := [14]) #[false, false, false, false, false, false, false, false, false, false, false, false, false, false, false] (by kernel_rfl) rfl rfl ⟨(blk_cell BK289.out 0).trans rfl, (blk_cell BK289.out 1).trans rfl, (blk_cell BK274.out 0).trans rfl, (blk_cell BK274.out 1).trans rfl, (blk_cell BK274.out 2).trans rfl, (blk_cell BK299.out 0).trans rfl, (blk_cell BK299.out 1).trans rfl, (blk_cell BK299.out 2).trans rfl, ((HB.out.cell (World.block_lt_of_cell? w _ hw300_0)).trans hw300_0), ((HB.out.cell (World.block_lt_of_cell? w _ hw300_1)).trans hw300_1)⟩ (fun hHeld => ?_); refine with_tabW spec_l4Body.tab15 spec_l4Body.bits15 (fun HT_ HW_ => ?_)
                    generalize w49.drew = w50 at HO_8 HO_290001 HO297 BK274 BK289 BK299 HB HR300_1 hx300_0 hx300_1 hHeld ⊢
                    refine Rgn.pu HT_.out 0 64 ?_
                    refine Rgn.pu HT_.out 2 66 ?_
                    refine Rgn.pu HT_.out 4 68 ?_
                    refine Rgn.pu HT_.out 8 72 ?_
                    refine Rgn.tk HT_.out HW_.out 1 65 hHeld ?_
                    refine Rgn.tk HT_.out HW_.out 3 67 hHeld ?_
                    refine Rgn.pu HT_.out 5 69 ?_
                    refine Rgn.pu HT_.out 6 70 ?_
                    refine Rgn.tk HT_.out HW_.out 7 71 hHeld ?_
                    refine Rgn.tk HT_.out HW_.out 9 73 hHeld ?_
                    refine Rgn.pu HT_.out 10 74 ?_
                    refine one_ (i := 11) (N := some 75) #[true, true, true, true, true, true, true, true, true, true, true, true, false, false, false] rfl rfl (one_of HT_.out (by kernel_rfl)) (by decide) (fun K hK => ?_)
                    refine value_ (w1 := ?_) (v := ?_) (by rfl) rfl ?_ ?_
                    rotate_left 2
                    · go_simp
                      constructor
                      · rfl
                      · rfl
                    refine hK.out _ _ ⟨(blk_cell (blk_alloc BK289.out _) 0).trans rfl, (blk_cell (blk_alloc BK289.out _) 1).trans rfl, (blk_cell (blk_alloc BK274.out _) 0).trans rfl, (blk_cell (blk_alloc BK274.out _) 1).trans rfl, (blk_cell (blk_alloc BK274.out _) 2).trans rfl, (blk_cell (blk_alloc BK299.out _) 0).trans rfl, (blk_cell (blk_alloc BK299.out _) 1).trans rfl, (blk_cell (blk_alloc BK299.out _) 2).trans rfl, (World.cell?_alloc_lt _ _ _ (World.block_lt_of_cell? _ _ (((HB.out.cell (World.block_lt_of_cell? w _ hw300_0)).trans hw300_0)))).trans (((HB.out.cell (World.block_lt_of_cell? w _ hw300_0)).trans hw300_0)), (World.cell?_alloc_lt _ _ _ (World.block_lt_of_cell? _ _ (((HB.out.cell (World.block_lt_of_cell? w _ hw300_1)).trans hw300_1)))).trans (((HB.out.cell (World.block_lt_of_cell? w _ hw300_1)).trans hw300_1))⟩ (fun hHeld => ?_)
                    clear hK K
                    refine norm_ (a' := ?_) ?_ ?_
                    rotate_left
                    · show Act.put _ (some 75) _ = _
                      simp only [Act.put, List.setIfInBounds_toArray, List.set_cons_zero, List.set_cons_succ, i64_w, i32_w]
                      rfl
                    refine one_ (i := 12) (N := some 76) #[true, true, true, true, true, true, true, true, true, true, true, true, true, false, false] rfl rfl (one_of HT_.out (by kernel_rfl)) (by decide) (fun K hK => ?_)
                    refine Kd.R_append_step k101 (w0 := w) w.heap.size (by rfl) (.tmp 65) (.tmp 75) 94 101 (.agg #[(.int .i64 0), (.bool false)]) 16 rfl Try.underlying94 info101 rfl (by decide) (by omega) u290001 x290001_1 (⟨(rd_T61 l0_1 x9_1).f0, t298⟩ : S101) [.int .i64 ((rd_T61 l0_1 x9_1).f0), .bool t298] (fun _ => True) (fun _ => False) rfl rfl ?aP (fun _ hk => hk.elim) ?aF ?aO ?aB ?aS ?aL ?_
                    (case aP => exact k101_mkM _ _ _ (⟨(rd_T61 l0_1 x9_1).f0, t298⟩ : S101))
                    (case aB => exact (Rgn.bq HB.out))
                    (case aF => exact (fun _ _ => trivial))
                    (case aO => exact (Rgn.rq HO_290001.out))
                    (case aS => exact (below_size (Rgn.bq HB.out)))
                    (case aL => have := LMc39.out; omega)
                    intro v302 w51 ho hb hg hat
                    rw [← Ny301.out] at ho
                    have n0_ := Aside0.mk (Kd.R_over' (Rgn.rq HO_8.out) (Kd.R_typed (Rgn.rq HO_290001.out)) (by decide) hg)
                    have n1_ := Aside0.mk (blk_grown (g := gb274) (o := .cells #[.int .i64 a0_0, .slice (some ad293) l0_1.length c0_1, .slice A0_2 l0_2.length c0_2] 34 (0, 0)) (Rgn.kb BK274.out) hg (Kd.R_ne HO_290001.out BK274.out (by decide)))
                    have n2_ := Aside0.mk (blk_grown (g := gb289) (o := .cells #[.int .i64 a0_0, u290001] 96 (0, 0)) (Rgn.kb BK289.out) hg (Kd.R_ne HO_290001.out BK289.out (by decide)))
                    have n3_ := Aside0.mk (Kd.R_over' (Rgn.rq HO297.out) (Kd.R_typed (Rgn.rq HO_290001.out)) (by decide) hg)
                    have n4_ := Aside0.mk (blk_grown (g := gb299) (o := .cells #[.bool t294, .slice Ao48 t295.length co48, .bool t298] 98 (0, 0)) (Rgn.kb BK299.out) hg (Kd.R_ne HO_290001.out BK299.out (by decide)))
                    have n5_ := Aside0.mk (hb)
                    have n6_ := Aside0.mk (ho)
                    clear HO_8
                    clear BK274
                    clear BK289
                    clear HO297
                    clear BK299
                    clear HB
                    clear HO_290001
                    have HO_8 := n0_
                    have BK274 := n1_
                    have BK289 := n2_
                    have HO297 := n3_
                    have BK299 := n4_
                    have HB := n5_
                    have HO303 := n6_
                    clear n0_ n1_ n2_ n3_ n4_ n5_ n6_
                    clear ho hb hg hat
                    obtain ⟨Ao52, co52, eo52⟩ := Kd.R_slice HO303.out
                    (first | subst eo52 | (injection eo52 with f1_ f2_ f3_; have f4_ := f1_.symm; have f5_ := f3_.symm; clear f1_ f2_ f3_; subst f4_; subst f5_))
                    refine hK.out _ _ ⟨(blk_cell BK289.out 0).trans rfl, (blk_cell BK289.out 1).trans rfl, (blk_cell BK274.out 0).trans rfl, (blk_cell BK274.out 1).trans rfl, (blk_cell BK274.out 2).trans rfl, (blk_cell BK299.out 0).trans rfl, (blk_cell BK299.out 1).trans rfl, (blk_cell BK299.out 2).trans rfl, ((HB.out.cell (World.block_lt_of_cell? w _ hw300_0)).trans hw300_0), ((HB.out.cell (World.block_lt_of_cell? w _ hw300_1)).trans hw300_1)⟩ (fun hHeld => ?_)
                    clear hK K
                    refine norm_ (a' := ?_) ?_ ?_
                    rotate_left
                    · show Act.put _ (some 76) _ = _
                      simp only [Act.put, List.setIfInBounds_toArray, List.set_cons_zero, List.set_cons_succ, i64_w, i32_w]
                      rfl
                    refine Rgn.pu HT_.out 13 77 ?_
                    refine last_ (i := 14) (N := none) #[true, true, true, true, true, true, true, true, true, true, true, true, true, true, true] rfl rfl (one_of HT_.out (by kernel_rfl)) (by decide) (fun K hK => ?_)
                    have hs53 : w51.cell? ⟨gb289, 1, none⟩ = some (u290001) := (blk_cell BK289.out 1).trans rfl
                    have hfs53 := blk_frozen BK289.out 1
                    have hns53_0 := NB274_289.out
                    have hns53_2 := NB299_289.out
                    have hms53_0 := NB289_274.out
                    have hms53_2 := NB289_299.out
                    refine skip_ (w1 := ?_) (by rfl) rfl ?_ ?_
                    rotate_left
                    · go_simp
                      rfl
                    refine hK.out _ _ ?_
                    clear hK K
                    refine done_ (done_of HT_.out (by kernel_rfl)) ?_
                    have hcz54_0 : w51.cell? ⟨gb299, 0, none⟩ = some (.bool t294) := (blk_cell BK299.out 0).trans rfl
                    have hcz54_1 : w51.cell? ⟨gb299, 1, none⟩ = some (.slice Ao48 t295.length co48) := (blk_cell BK299.out 1).trans rfl
                    have hcz54_2 : w51.cell? ⟨gb299, 2, none⟩ = some (.bool t298) := (blk_cell BK299.out 2).trans rfl
                    have hfz54_0 := blk_frozen BK299.out 0
                    have hfz54_1 := blk_frozen BK299.out 1
                    have hfz54_2 := blk_frozen BK299.out 2
                    try go_wp2_with (first | ((with_reducible refine gate_builtin (b := .append) (xs := #[.tmp 78, .tmp 80]) rfl ?_); at_builtin; refine Kd.R_append_rows (Kd.int .u8) (w0 := w) w.heap.size rfl (.tmp 78) (.tmp 80) 59 5 (.int .u8 0) 1 rfl Try.underlying59 info5 rfl (by decide) (by omega) u8 x8_1 t295 _ _ _ (fun k_ => some k_ ≠ (.slice Ao48 t295.length co48 : Value).ownBlock) (fun _ => False) rfl rfl ?aO ?aR (fun _ _ h => h) (fun _ h => h.elim) ?aF ?aB ?aS ?aL ?_; (case aR => refine (Kd.R_reads' (e := 5) (base := w.heap.size) (ok := fun k_ => some k_ ≠ (u8 : Value).ownBlock) (n := t295.length) (c := co48) ?_).2.2; exact (by (with_reducible repeat (first | apply Kd.R_alloc | apply Kd.R_drewN | apply Kd.R_drew)); exact (Kd.R_mono (Kd.R_far (p := ⟨gb289, 1, none⟩) (Kd.R_types HO297.out BK289.out (by decide)) (fun _ hk => hk.2) (.slice Ao52 y301.length co52)) (fun _ h_ => h_.1)))); (case aB => exact (Rgn.bq HB.out)); (case aF => exact (fun k_ hk => Kd.fresh' (Kd.R_lt (by (with_reducible repeat (first | apply Kd.R_alloc | apply Kd.R_drewN | apply Kd.R_drew)); exact (Kd.R_mono (Kd.R_far (p := ⟨gb289, 1, none⟩) (Kd.R_types HO297.out BK289.out (by decide)) (fun _ hk => hk.2) (.slice Ao52 y301.length co52)) (fun _ h_ => h_.1)))) k_ hk)); (case aO => exact (by (with_reducible repeat (first | apply Kd.R_alloc | apply Kd.R_drewN | apply Kd.R_drew)); exact Kd.R_mono (Kd.R_far (p := ⟨gb289, 1, none⟩) (Kd.R_types HO_8.out BK289.out (by decide)) (fun _ hk => hk.2) (.slice Ao52 y301.length co52)) (fun _ hk => hk.1))); (case aS => exact (below_size (Rgn.bq HB.out))); (case aL => have := LMc40.out; omega); intro v305 w55 ho hb hg hat; rw [← Ny304.out] at ho; have n0_ := Aside0.mk (blk_grown (g := gb274) (o := .cells #[.int .i64 a0_0, .slice (some ad293) l0_1.length c0_1, .slice A0_2 l0_2.length c0_2] 34 (0, 0)) (by (with_reducible repeat (first | refine blk_drewN ?_ _ | refine blk_drew ?_ | refine blk_alloc ?_ _)); refine blk_far ?_ NB274_289.out _; (with_reducible repeat (first | refine blk_drewN ?_ _ | refine blk_drew ?_ | refine blk_alloc ?_ _)); exact BK274.out) hg (Kd.R_ne HO_8.out BK274.out (by decide))); have n1_ := Aside0.mk (blk_grown (g := gb289) (o := .cells #[.int .i64 a0_0, .slice Ao52 y301.length co52] 96 (0, 0)) (by (with_reducible repeat (first | refine blk_drewN ?_ _ | refine blk_drew ?_ | refine blk_alloc ?_ _)); refine blk_put (cs := #[.int .i64 a0_0, u290001]) ?_ 1 _ rfl; (with_reducible repeat (first | refine blk_drewN ?_ _ | refine blk_drew ?_ | refine blk_alloc ?_ _)); exact BK289.out) hg (Kd.R_ne HO_8.out BK289.out (by decide))); have n2_ := Aside0.mk (Kd.R_after (ok := (fun _ => True)) (by (with_reducible repeat (first | apply Kd.R_alloc | apply Kd.R_drewN | apply Kd.R_drew)); exact Kd.R_mono (Kd.R_far (p := ⟨gb289, 1, none⟩) (Kd.R_types HO297.out BK289.out (by decide)) (fun _ hk => hk.2) (.slice Ao52 y301.length co52)) (fun _ hk => ⟨trivial, hk.1⟩)) hg hat); have n3_ := Aside0.mk (blk_grown (g := gb299) (o := .cells #[.bool t294, .slice Ao48 t295.length co48, .bool t298] 98 (0, 0)) (by (with_reducible repeat (first | refine blk_drewN ?_ _ | refine blk_drew ?_ | refine blk_alloc ?_ _)); refine blk_far ?_ NB299_289.out _; (with_reducible repeat (first | refine blk_drewN ?_ _ | refine blk_drew ?_ | refine blk_alloc ?_ _)); exact BK299.out) hg (Kd.R_ne HO_8.out BK299.out (by decide))); have n4_ := Aside0.mk (Kd.R_over' (by (with_reducible repeat (first | apply Kd.R_alloc | apply Kd.R_drewN | apply Kd.R_drew)); exact (Kd.R_mono (Kd.R_far (p := ⟨gb289, 1, none⟩) (Kd.R_types HO303.out BK289.out (by decide)) (fun _ hk => hk.2) (.slice Ao52 y301.length co52)) (fun _ h_ => h_.1))) (Kd.R_typed (by (with_reducible repeat (first | apply Kd.R_alloc | apply Kd.R_drewN | apply Kd.R_drew)); exact (Kd.R_mono (Kd.R_far (p := ⟨gb289, 1, none⟩) (Kd.R_types HO_8.out BK289.out (by decide)) (fun _ hk => hk.2) (.slice Ao52 y301.length co52)) (fun _ h_ => h_.1)))) (by decide) hg); have n5_ := Aside0.mk (hb); have n6_ := Aside0.mk (ho); clear BK274; clear BK289; clear HO297; clear BK299; clear HO303; clear HB; clear HO_8; have BK274 := n0_; have BK289 := n1_; have HO297 := n2_; have BK299 := n3_; have HO303 := n4_; have HB := n5_; have HO306 := n6_; clear n0_ n1_ n2_ n3_ n4_ n5_ n6_; clear ho hb hg hat))
                    go_roundg k1
                    case measure => have := HK1.out; omega
                    case rel => exact ⟨(y304), (wrap64 (x9_1 + 1)), (y301), (.slice Ao52 y301.length co52), (by first | rfl | (simp; done) | (simp [*]; done)), H', ⟨by have := HK1.out; omega⟩, ⟨by (with_reducible repeat (first | apply Kd.R_alloc | apply Kd.R_drewN | apply Kd.R_drew)); exact Kd.R_mono HO306.out (fun _ hk => trivial)⟩, ⟨Rgn.rq HO303.out⟩, ⟨Rgn.kb BK274.out⟩, ⟨Rgn.kb BK289.out⟩, ⟨Rgn.bq HB.out⟩⟩
                  · rw [if_neg c40] at H
                    exact absurd H (by simp)
                · rw [if_neg c39] at H
                  exact absurd H (by simp)
              · rw [if_neg c37] at H
                exact absurd H (by simp)
            · rw [if_neg c36] at H
              exact absurd H (by simp)
          · rw [if_neg c35] at H
            have c35b0 : decide (x9_1 < ji27) = false := decide_eq_false c35
            clear c35
            replace H := Option.bind_eq_some_iff.mp H
            obtain ⟨t307, A560, H⟩ := H
            replace H : ((spec_l2Join.f t307 x8_1).bind fun t310 => (if 0 ≤ ji27 then (if ji27 ≤ (l0_1.length : Int) then ((spec_l4Body.f k1 a0_0 (l0_1.drop (ji27 : Int).toNat) ([] : List Int)).bind fun t317 => ((spec_l2Join.f t310 t317).bind fun t320 => (some t320))) else (none)) else (none))) = some r := H
            have A56 := Aside0.mk A560
            clear A560
            replace H := Option.bind_eq_some_iff.mp H
            obtain ⟨t310, A570, H⟩ := H
            replace H : (if 0 ≤ ji27 then (if ji27 ≤ (l0_1.length : Int) then ((spec_l4Body.f k1 a0_0 (l0_1.drop (ji27 : Int).toNat) ([] : List Int)).bind fun t317 => ((spec_l2Join.f t310 t317).bind fun t320 => (some t320))) else (none)) else (none)) = some r := H
            have A57 := Aside0.mk A570
            clear A570
            by_cases c58 : 0 ≤ ji27
            · rw [if_pos c58] at H
              have c58b0 := eq_true c58
              have c58b1 : decide (0 ≤ ji27) = true := decide_eq_true c58
              clear c58
              by_cases c59 : ji27 ≤ (l0_1.length : Int)
              · rw [if_pos c59] at H
                have c59b0 := eq_true c59
                have c59b1 : decide (ji27 ≤ (l0_1.length : Int)) = true := decide_eq_true c59
                clear c59
                obtain ⟨y313, hy313⟩ : ∃ y_ : List (S61), y_ = (l0_1.drop (ji27 : Int).toNat) := ⟨_, rfl⟩
                replace H : ((spec_l4Body.f k1 a0_0 y313 ([] : List Int)).bind fun t317 => ((spec_l2Join.f t310 t317).bind fun t320 => (some t320))) = some r := by first | (rw [hy313]; with_reducible exact H) | (have H2_ := (Option.bind_some _ _).symm.trans H; rw [hy313]; with_reducible exact H2_) | (have H2_ := (Option.bind_some _ _).symm.trans H; with_reducible exact H2_) | with_reducible exact H | (rw [hy313]; exact H) | exact H
                have Ny313 := Aside0.mk hy313
                clear hy313
                replace H := Option.bind_eq_some_iff.mp H
                obtain ⟨t317, A600, H⟩ := H
                replace H : ((spec_l2Join.f t310 t317).bind fun t320 => (some t320)) = some r := H
                have A60 := Aside0.mk A600
                clear A600
                replace H := Option.bind_eq_some_iff.mp H
                obtain ⟨t320, A610, H⟩ := H
                replace H : (some t320) = some r := H
                have A61 := Aside0.mk A610
                clear A610
                obtain rfl := Option.some.inj H
                have hnb62 := NB289_274.out
                have hnc62 := NB274_289.out
                have hcz63_0 : wr.cell? ⟨gb289, 0, none⟩ = some (.int .i64 a0_0) := (blk_cell BK289.out 0).trans rfl
                have hcz63_1 : wr.cell? ⟨gb289, 1, none⟩ = some (u290001) := (blk_cell BK289.out 1).trans rfl
                have hfz63_0 := blk_frozen BK289.out 0
                have hfz63_1 := blk_frozen BK289.out 1
                obtain ⟨Ao64, co64, eo64⟩ := Kd.R_slice HO_290001.out
                subst eo64
                try go_wp2_with (first | ((with_reducible refine gate_callee (f := 67) rfl ?_); refine Rgn.gl (some 83) Try.func67 #[.agg #[.int .i64 a0_0, .slice Ao64 x290001_1.length co64]] ?_; (with_reducible refine (spec_EncodeDescriptor.calls k1 a0_0 _ _ x290001_1 t307 _ ?side1 ?side2 A56.out).mono ?_); (case side1 => exact Rgn.cq (Kd.R_reads' HO_290001.out).2.2); (case side2 => exact (Kd.R_reads' HO_290001.out).2.1); rintro e w65 ⟨v308, rfl, ho0, hb⟩; refine ⟨_, rfl, ?_⟩; have n0_ := Aside0.mk (Kd.R_elder' (Rgn.rq HO_8.out) (Kd.R_base ho0) hb); have n1_ := Aside0.mk (Kd.R_below (Rgn.rq HO_290001.out) hb); have n2_ := Aside0.mk (Kd.R_lower (Kd.R_new' ho0 (Kd.R_lt (Rgn.rq HO_8.out))) (below_size (Rgn.bq HB.out))); have n3_ := Aside0.mk (Rgn.bb BK274.out hb); have n4_ := Aside0.mk (Rgn.bb BK289.out hb); have n5_ := Aside0.mk (below_step (Rgn.bq HB.out) hb); clear HO_8; clear HO_290001; clear BK274; clear BK289; clear HB; have HO_8 := n0_; have HO_290001 := n1_; have HO309 := n2_; have BK274 := n3_; have BK289 := n4_; have HB := n5_; clear n0_ n1_ n2_ n3_ n4_ n5_; (try clear hb); (try clear hb2); (try clear hk); (try clear hi); (try clear ho0); obtain ⟨Ao66, co66, eo66⟩ := Kd.R_slice HO309.out; subst eo66; obtain ⟨Ao67, co67, eo67⟩ := Kd.R_slice HO_8.out; subst eo67) | ((with_reducible refine gate_callee (f := 57) rfl ?_); refine Rgn.gl (some 85) Try.func57 #[.slice Ao66 t307.length co66, .slice Ao67 x8_1.length co67] ?_; (with_reducible refine (spec_l2Join.calls _ _ t307 _ _ x8_1 t310 _ ?side1 ?side2 ?side3 ?side4 A57.out).mono ?_); (case side1 => exact Rgn.cq (Kd.R_reads' HO309.out).2.2); (case side2 => exact (Kd.R_reads' HO309.out).2.1); (case side3 => exact Rgn.cq (Kd.R_reads' HO_8.out).2.2); (case side4 => exact (Kd.R_reads' HO_8.out).2.1); rintro e w68 ⟨v311, rfl, ho0, hb⟩; refine ⟨_, rfl, ?_⟩; have n0_ := Aside0.mk (Kd.R_elder' (Rgn.rq HO_8.out) (Kd.R_base ho0) hb); have n1_ := Aside0.mk (Kd.R_below (Rgn.rq HO_290001.out) hb); have n2_ := Aside0.mk (Kd.R_elder' (Rgn.rq HO309.out) (Kd.R_base ho0) hb); have n3_ := Aside0.mk (Kd.R_lower (Kd.R_new' (Kd.R_new' ho0 (Kd.R_lt (Rgn.rq HO_8.out))) (Kd.R_lt (Rgn.rq HO309.out))) (below_size (Rgn.bq HB.out))); have n4_ := Aside0.mk (Rgn.bb BK274.out hb); have n5_ := Aside0.mk (Rgn.bb BK289.out hb); have n6_ := Aside0.mk (below_step (Rgn.bq HB.out) hb); clear HO_8; clear HO_290001; clear HO309; clear BK274; clear BK289; clear HB; have HO_8 := n0_; have HO_290001 := n1_; have HO309 := n2_; have HO312 := n3_; have BK274 := n4_; have BK289 := n5_; have HB := n6_; clear n0_ n1_ n2_ n3_ n4_ n5_ n6_; (try clear hb); (try clear hb2); (try clear hk); (try clear hi); (try clear ho0)))
                have n0_ := Aside0.mk (Kd.R_drew HO_8.out)
                have n1_ := Aside0.mk (Kd.R_drew HO_290001.out)
                have n2_ := Aside0.mk (Kd.R_drew HO309.out)
                have n3_ := Aside0.mk (Kd.R_drew HO312.out)
                have n4_ := Aside0.mk (blk_drew BK274.out)
                have n5_ := Aside0.mk (blk_drew BK289.out)
                have n6_ := Aside0.mk (below_drew1 HB.out)
                clear HO_8
                clear HO_290001
                clear HO309
                clear HO312
                clear BK274
                clear BK289
                clear HB
                have HO_8 := n0_
                have HO_290001 := n1_
                have HO309 := n2_
                have HO312 := n3_
                have BK274 := n4_
                have BK289 := n5_
                have HB := n6_
                clear n0_ n1_ n2_ n3_ n4_ n5_ n6_
                have q70 : (ji27 : Int) ≤ ((l0_1.length : Int) : Int) := of_decide_eq_true (by first | (with_reducible assumption) | assumption)
                obtain ⟨i070, hi070, _, hsz70, _⟩ := info_parts info61
                have hroom70 : l0_1.length ≤ c0_1 := HC0_1.out
                have hC70 : Kd.C k61 _ A0_1 l0_1.length l0_1 := HR0_1.out
                have q070 : (0 : Int) ≤ (ji27 : Int) := of_decide_eq_true (by first | (with_reducible assumption) | assumption)
                have hcut70 := cut_from (P := Try.prog) 32 61 .i64 Try.underlying32 hi070 2 hsz70 A0_1 l0_1.length c0_1 ji27 q070 q70
                have hr70 := Kd.C_drop (m := (ji27 : Int).toNat) (c := c0_1) hC70 (by omega) hroom70
                obtain ⟨A70, hA70⟩ : ∃ A1, A1 = (if c0_1 = (ji27 : Int).toNat then A0_1 else (A0_1 : Option Addr).map (·.add ((ji27 : Int).toNat * 2))) := ⟨_, rfl⟩
                obtain ⟨c70, hc70⟩ : ∃ c1, c1 = c0_1 - (ji27 : Int).toNat := ⟨_, rfl⟩
                have hy70 : y313.length = l0_1.length - (ji27 : Int).toNat := (by rw [Ny313.out, List.length_drop] <;> omega)
                rw [show (l0_1).drop (ji27 : Int).toNat = y313 from Ny313.out.symm] at hr70
                replace hr70 : Kd.C k61 _ A70 y313.length y313 := (by rw [hA70]; exact hr70)
                rw [← hy70, ← hA70, ← hc70] at hcut70
                have HR316 := Aside0.mk hr70
                have HC316 := Aside0.mk (show y313.length ≤ c70 from by rw [hy70, hc70]; exact Nat.sub_le_sub_right hroom70 _)
                clear hr70 hC70 hroom70 hi070 hsz70 hc70
                have KY70 := Aside0.mk hy70
                have KA70 := Aside0.mk hA70
                clear hy70 hA70
                replace q70 := eq_true q70
                refine start_ (n := 11) (S := fun w' => w'.cell? ⟨gb274, 0, none⟩ = some (.int .i64 a0_0) ∧ w'.cell? ⟨gb274, 1, none⟩ = some (.slice A0_1 l0_1.length c0_1) ∧ w'.cell? ⟨gb274, 2, none⟩ = some (.slice A0_2 l0_2.length c0_2)) (ds := []) #[false, false, false, false, false, false, false, false, false, false, false] (by kernel_rfl) rfl rfl ⟨(blk_cell BK274.out 0).trans rfl, (blk_cell BK274.out 1).trans rfl, (blk_cell BK274.out 2).trans rfl⟩ (fun hHeld => ?_); refine with_tabW spec_l4Body.tab18 spec_l4Body.bits18 (fun HT_ HW_ => ?_)
                generalize w68.drew = w69 at HO_8 HO_290001 HO309 HO312 BK274 BK289 HB HR316 hHeld ⊢
                refine Rgn.pu HT_.out 0 86 ?_
                refine Rgn.pu HT_.out 1 87 ?_
                refine Rgn.pu HT_.out 3 89 ?_
                refine Rgn.pu HT_.out 5 91 ?_
                refine Rgn.tk HT_.out HW_.out 2 88 hHeld ?_
                refine Rgn.tk HT_.out HW_.out 4 90 hHeld ?_
                refine Rgn.pu HT_.out 6 92 ?_
                refine Rgn.pu HT_.out 7 93 ?_
                refine one_ (i := 8) (N := some 94) #[true, true, true, true, true, true, true, true, true, false, false] rfl rfl (one_of HT_.out (by kernel_rfl)) (by decide) (fun K hK => ?_)
                refine Rgn.gs Try.func55 #[.agg #[.int .i64 a0_0, .slice A70 y313.length c70, .slice none 0 0]] ?_
                refine (ih k1 (by have := HK1.out; omega) a0_0 _ _ y313 _ _ ([] : List Int) t317 _ ?side1 ?side2 ?side3 ?side4 A60.out).mono ?_
                (case side1 => exact Rgn.cq (Kd.C_below HR316.out HB.out))
                (case side2 => exact HC316.out)
                (case side3 => exact Kd.C_nil _ _)
                (case side4 => exact Nat.le_refl _)
                rintro e w71 ⟨v318, rfl, ho0, hb⟩
                refine ⟨_, rfl, ?_⟩
                have n0_ := Aside0.mk (Kd.R_elder' (Rgn.rq HO_8.out) (Kd.R_base ho0) hb)
                have n1_ := Aside0.mk (Kd.R_below (Rgn.rq HO_290001.out) hb)
                have n2_ := Aside0.mk (Kd.R_elder' (Rgn.rq HO309.out) (Kd.R_base ho0) hb)
                have n3_ := Aside0.mk (Kd.R_elder' (Rgn.rq HO312.out) (Kd.R_base ho0) hb)
                have n4_ := Aside0.mk (Kd.R_lower (Kd.R_new' (Kd.R_new' (Kd.R_new' ho0 (Kd.R_lt (Rgn.rq HO_8.out))) (Kd.R_lt (Rgn.rq HO309.out))) (Kd.R_lt (Rgn.rq HO312.out))) (below_size (Rgn.bq HB.out)))
                have n5_ := Aside0.mk (Rgn.bb BK274.out hb)
                have n6_ := Aside0.mk (Rgn.bb BK289.out hb)
                have n7_ := Aside0.mk (below_step (Rgn.bq HB.out) hb)
                clear HO_8
                clear HO_290001
                clear HO309
                clear HO312
                clear BK274
                clear BK289
                clear HB
                have HO_8 := n0_
                have HO_290001 := n1_
                have HO309 := n2_
                have HO312 := n3_
                have HO319 := n4_
                have BK274 := n5_
                have BK289 := n6_
                have HB := n7_
                clear n0_ n1_ n2_ n3_ n4_ n5_ n6_ n7_
                (try clear hb)
                (try clear hb2)
                (try clear hk)
                (try clear hi)
                (try clear ho0)
                obtain ⟨Ao72, co72, eo72⟩ := Kd.R_slice HO312.out
                (first | subst eo72 | (injection eo72 with f1_ f2_ f3_; have f4_ := f1_.symm; have f5_ := f3_.symm; clear f1_ f2_ f3_; subst f4_; subst f5_))
                obtain ⟨Ao73, co73, eo73⟩ := Kd.R_slice HO319.out
                (first | subst eo73 | (injection eo73 with f1_ f2_ f3_; have f4_ := f1_.symm; have f5_ := f3_.symm; clear f1_ f2_ f3_; subst f4_; subst f5_))
                refine hK.out _ _ ⟨(blk_cell BK274.out 0).trans rfl, (blk_cell BK274.out 1).trans rfl, (blk_cell BK274.out 2).trans rfl⟩ (fun hHeld => ?_)
                clear hK K
                refine norm_ (a' := ?_) ?_ ?_
                rotate_left
                · show Act.put _ (some 94) _ = _
                  simp only [Act.put, List.setIfInBounds_toArray, List.set_cons_zero, List.set_cons_succ, i64_w, i32_w]
                  rfl
                refine one_ (i := 9) (N := some 95) #[true, true, true, true, true, true, true, true, true, true, false] rfl rfl (one_of HT_.out (by kernel_rfl)) (by decide) (fun K hK => ?_)
                refine Rgn.gs Try.func57 #[.slice Ao72 t310.length co72, .slice Ao73 t317.length co73] ?_
                with_reducible refine (spec_l2Join.calls _ _ t310 _ _ t317 t320 _ ?side1 ?side2 ?side3 ?side4 A61.out).mono ?_
                (case side1 => exact Rgn.cq (Kd.R_reads' HO312.out).2.2)
                (case side2 => exact (Kd.R_reads' HO312.out).2.1)
                (case side3 => exact Rgn.cq (Kd.R_reads' HO319.out).2.2)
                (case side4 => exact (Kd.R_reads' HO319.out).2.1)
                rintro e w74 ⟨v321, rfl, ho0, hb⟩
                refine ⟨_, rfl, ?_⟩
                have n0_ := Aside0.mk (Kd.R_elder' (Rgn.rq HO_8.out) (Kd.R_base ho0) hb)
                have n1_ := Aside0.mk (Kd.R_below (Rgn.rq HO_290001.out) hb)
                have n2_ := Aside0.mk (Kd.R_elder' (Rgn.rq HO309.out) (Kd.R_base ho0) hb)
                have n3_ := Aside0.mk (Kd.R_elder' (Rgn.rq HO312.out) (Kd.R_base ho0) hb)
                have n4_ := Aside0.mk (Kd.R_elder' (Rgn.rq HO319.out) (Kd.R_base ho0) hb)
                have n5_ := Aside0.mk (Kd.R_lower (Kd.R_new' (Kd.R_new' (Kd.R_new' (Kd.R_new' ho0 (Kd.R_lt (Rgn.rq HO_8.out))) (Kd.R_lt (Rgn.rq HO309.out))) (Kd.R_lt (Rgn.rq HO312.out))) (Kd.R_lt (Rgn.rq HO319.out))) (below_size (Rgn.bq HB.out)))
                have n6_ := Aside0.mk (Rgn.bb BK274.out hb)
                have n7_ := Aside0.mk (Rgn.bb BK289.out hb)
                have n8_ := Aside0.mk (below_step (Rgn.bq HB.out) hb)
                clear HO_8
                clear HO_290001
                clear HO309
                clear HO312
                clear HO319
                clear BK274
                clear BK289
                clear HB
                have HO_8 := n0_
                have HO_290001 := n1_
                have HO309 := n2_
                have HO312 := n3_
                have HO319 := n4_
                have HO322 := n5_
                have BK274 := n6_
                have BK289 := n7_
                have HB := n8_
                clear n0_ n1_ n2_ n3_ n4_ n5_ n6_ n7_ n8_
                (try clear hb)
                (try clear hb2)
                (try clear hk)
                (try clear hi)
                (try clear ho0)
                refine hK.out _ _ ⟨(blk_cell BK274.out 0).trans rfl, (blk_cell BK274.out 1).trans rfl, (blk_cell BK274.out 2).trans rfl⟩ (fun hHeld => ?_)
                clear hK K
                refine norm_ (a' := ?_) ?_ ?_
                rotate_left
                · show Act.put _ (some 95) _ = _
                  simp only [Act.put, List.setIfInBounds_toArray, List.set_cons_zero, List.set_cons_succ, i64_w, i32_w]
                  rfl
                refine Rgn.pu HT_.out 10 2 ?_
                refine done_ (done_of HT_.out (by kernel_rfl)) ?_
                try go_wp2
                go_ret
                exact ⟨_, by first | rfl | (simp [errW_none, errW_some] <;> rfl) | (simp only [← hji27]; first | rfl | (simp [errW_none, errW_some] <;> rfl)) | (simp [*, errW_none, errW_some] <;> rfl), by (with_reducible repeat (first | apply Kd.R_alloc | apply Kd.R_drewN | apply Kd.R_drew)); exact Kd.R_mono HO322.out (fun _ hk => trivial), Rgn.bq HB.out⟩
              · rw [if_neg c59] at H
                exact absurd H (by simp)
            · rw [if_neg c58] at H
              exact absurd H (by simp)

/-! ### spec_l2Step: function 77 -/
def spec_l2Step.f (a0 : Int) (a1 : Int) : Option (Int) := if (Int.tmod (wrap64 (a0 + a1)) 2) = 1 then (some (Go.bits .xor .i64 (wrap64 (Int.tdiv a0 2)) 2197175160)) else (some (wrap64 (Int.tdiv a0 2)))
set_option maxHeartbeats 8000000 in
set_option maxRecDepth 100000 in
theorem spec_l2Step.calls (a0 : Int) (a1 : Int) (r : Int) (w : World) (h : spec_l2Step.f a0 a1 = some r) :
    Calls Try.prog 77 #[.int .i64 a0, .int .i64 a1] w fun e w' => e = .returned (.int .i64 r) ∧ Drawn0 w w' := by
  have H : (if (Int.tmod (wrap64 (a0 + a1)) 2) = 1 then (some (Go.bits .xor .i64 (wrap64 (Int.tdiv a0 2)) 2197175160)) else (some (wrap64 (Int.tdiv a0 2)))) = some r := h
  clear h
  by_cases c3 : (Int.tmod (wrap64 (a0 + a1)) 2) = 1
  · rw [if_pos c3] at H
    have c3b0 : ((Int.tmod (wrap64 (a0 + a1)) 2) == 1) = true := beq_iff_eq.mpr c3
    have c3b1 : ((Int.tmod (wrap64 (a0 + a1)) 2) != 1) = false := bne_eq_false_iff_eq.mpr c3
    clear c3
    obtain rfl := Option.some.inj H
    go_enter Try.func77, Try.ntmps77
    go_wp2
    go_ret
    exact ⟨by first | rfl | (simp; done) | (simp [*]; done), by repeat (first | exact Drawn0.refl _ | apply Drawn0.step)⟩
  · rw [if_neg c3] at H
    have c3b0 : ((Int.tmod (wrap64 (a0 + a1)) 2) == 1) = false := beq_eq_false_iff_ne.mpr c3
    have c3b1 : ((Int.tmod (wrap64 (a0 + a1)) 2) != 1) = true := bne_iff_ne.mpr c3
    obtain rfl := Option.some.inj H
    go_enter Try.func77, Try.ntmps77
    go_wp2
    go_ret
    exact ⟨by first | rfl | (simp; done) | (simp [*]; done), by repeat (first | exact Drawn0.refl _ | apply Drawn0.step)⟩

end Go.Proofs.Ytkehfdadplpaeaa.PFnExactLogNext
