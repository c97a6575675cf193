-- written by a program of this session (wip/src/print2.py)
import Derived.Test.YtkehfdadplpaeaaPFnExactLogNextx0
import Derived.Test.YtkehfdadplpaeaaPFnExactLogNextx1
import Derived.Test.YtkehfdadplpaeaaPFnExactLogNextx7
import Derived.Test.YtkehfdadplpaeaaPFnExactLogNextx8
namespace Go.Proofs.Ytkehfdadplpaeaa.PFnExactLogNext
open Go.RowKit Go.Proofs.YtkehfdadplpaeaaW.PrintWords Go.Proofs.YtkehfdadplpaeaaW.PrintLast Go.Proofs.YtkehfdadplpaeaaW.PrintMore
attribute [local go_sem] max2_int min2_int max_two min_two max_three min_three max_four min_four   -- for this text's walks alone
set_option linter.unusedVariables false
set_option linter.unusedSimpArgs false

/-! ### impl_ValidTxn: function 46 -/
mutual
def impl_ValidTxn.j0 : Nat → Bool → Int → List (S61) → List Int → Option (Bool)
  | 0, _, _, _, _ => none
  | k + 1, x33, x420000, x420001, x420002 => if x33 = true then (some false) else (impl_ValidTxn.l0 k ([] : List Int) x420001 (x420001.length : Int) 0 x420000 x420001 x420002)
def impl_ValidTxn.l0 : Nat → List Int → List (S61) → Int → Int → Int → List (S61) → List Int → Option (Bool)
  | 0, _, _, _, _, _, _, _ => none
  | k + 1, x4, x35, x36, x37, x420000, x420001, x420002 => if x37 < x36 then (if 0 ≤ x37 then (if x37 < (x35.length : Int) then (if (((rd_T61 x35 x37).f1).length : Int) = 64 then (impl_ValidTxn.l1 k x4 x35 x36 x37 x420002 (x420002.length : Int) 0 x420000 x420001 x420002 ((rd_T61 x35 x37).f0) ((rd_T61 x35 x37).f1)) else (some false)) else (none)) else (none)) else ((impl_rising.f k x4).bind fun t422 => (some t422))
def impl_ValidTxn.l1 : Nat → List Int → List (S61) → Int → Int → List Int → Int → Int → Int → List (S61) → List Int → Int → List Int → Option (Bool)
  | 0, _, _, _, _, _, _, _, _, _, _, _, _ => none
  | k + 1, x4, x35, x36, x37, x46, x47, x48, x420000, x420001, x420002, x425000, x425001 => if x48 < x47 then (if 0 ≤ x48 then (if x48 < (x46.length : Int) then (if (rd x46 x48) = x425000 then (some false) else (impl_ValidTxn.l1 k x4 x35 x36 x37 x46 x47 (wrap64 (x48 + 1)) x420000 x420001 x420002 x425000 x425001)) else (none)) else (none)) else (if x4.length < 17592186044416 then (impl_ValidTxn.l0 k (x4 ++ [x425000]) x35 x36 (wrap64 (x37 + 1)) x420000 x420001 x420002) else (none))
end
def impl_ValidTxn.f (k : Nat) (a0_0 : Int) (l0_1 : List (S61)) (l0_2 : List Int) : Option (Bool) := if (wrap64 ((l0_1.length : Int) + (l0_2.length : Int))) < 1 then (impl_ValidTxn.j0 k true a0_0 l0_1 l0_2) else (if (wrap64 ((l0_1.length : Int) + (l0_2.length : Int))) > 128 then (impl_ValidTxn.j0 k true a0_0 l0_1 l0_2) else ((impl_in.f a0_0 1 4294967295).bind fun t420 => (if t420 = true then ((impl_rising.f k l0_2).bind fun t421 => (impl_ValidTxn.j0 k (!t421) a0_0 l0_1 l0_2)) else (impl_ValidTxn.j0 k true a0_0 l0_1 l0_2))))
theorem impl_ValidTxn.mono_l : ∀ k, (∀ y0 y1 y2 y3, LeO (impl_ValidTxn.j0 k y0 y1 y2 y3) (impl_ValidTxn.j0 (k + 1) y0 y1 y2 y3)) ∧ (∀ y0 y1 y2 y3 y4 y5 y6, LeO (impl_ValidTxn.l0 k y0 y1 y2 y3 y4 y5 y6) (impl_ValidTxn.l0 (k + 1) y0 y1 y2 y3 y4 y5 y6)) ∧ (∀ y0 y1 y2 y3 y4 y5 y6 y7 y8 y9 y10 y11, LeO (impl_ValidTxn.l1 k y0 y1 y2 y3 y4 y5 y6 y7 y8 y9 y10 y11) (impl_ValidTxn.l1 (k + 1) y0 y1 y2 y3 y4 y5 y6 y7 y8 y9 y10 y11))
  | 0 => ⟨fun _ _ _ _ r h => by simp [impl_ValidTxn.j0] at h, fun _ _ _ _ _ _ _ r h => by simp [impl_ValidTxn.l0] at h, fun _ _ _ _ _ _ _ _ _ _ _ _ r h => by simp [impl_ValidTxn.l1] at h⟩
  | k + 1 => by
    obtain ⟨ih0, ih1, ih2⟩ := impl_ValidTxn.mono_l k
    refine ⟨?_, ?_, ?_⟩
    · intro y0 y1 y2 y3
      unfold impl_ValidTxn.j0
      repeat' first
      | (with_reducible exact ih0 _ _ _ _)
      | (with_reducible exact ih1 _ _ _ _ _ _ _)
      | (with_reducible exact ih2 _ _ _ _ _ _ _ _ _ _ _ _)
      | (with_reducible exact impl_rising.mono _ _)
      | (with_reducible exact LeO.refl _)
      | (with_reducible exact LeO.none _)
      | (with_reducible refine LeO.ite ?_ ?_)
      | (with_reducible refine LeO.bind ?_ (fun _ => ?_))
      | exact ih0 _ _ _ _
      | exact ih1 _ _ _ _ _ _ _
      | exact ih2 _ _ _ _ _ _ _ _ _ _ _ _
      | exact impl_rising.mono _ _
      | exact LeO.none _
      | refine LeO.ite ?_ ?_
      | refine LeO.bind ?_ (fun _ => ?_)
    · intro y0 y1 y2 y3 y4 y5 y6
      unfold impl_ValidTxn.l0
      repeat' first
      | (with_reducible exact ih0 _ _ _ _)
      | (with_reducible exact ih1 _ _ _ _ _ _ _)
      | (with_reducible exact ih2 _ _ _ _ _ _ _ _ _ _ _ _)
      | (with_reducible exact impl_rising.mono _ _)
      | (with_reducible exact LeO.refl _)
      | (with_reducible exact LeO.none _)
      | (with_reducible refine LeO.ite ?_ ?_)
      | (with_reducible refine LeO.bind ?_ (fun _ => ?_))
      | exact ih0 _ _ _ _
      | exact ih1 _ _ _ _ _ _ _
      | exact ih2 _ _ _ _ _ _ _ _ _ _ _ _
      | exact impl_rising.mono _ _
      | exact LeO.none _
      | refine LeO.ite ?_ ?_
      | refine LeO.bind ?_ (fun _ => ?_)
    · intro y0 y1 y2 y3 y4 y5 y6 y7 y8 y9 y10 y11
      unfold impl_ValidTxn.l1
      repeat' first
      | (with_reducible exact ih0 _ _ _ _)
      | (with_reducible exact ih1 _ _ _ _ _ _ _)
      | (with_reducible exact ih2 _ _ _ _ _ _ _ _ _ _ _ _)
      | (with_reducible exact impl_rising.mono _ _)
      | (with_reducible exact LeO.refl _)
      | (with_reducible exact LeO.none _)
      | (with_reducible refine LeO.ite ?_ ?_)
      | (with_reducible refine LeO.bind ?_ (fun _ => ?_))
      | exact ih0 _ _ _ _
      | exact ih1 _ _ _ _ _ _ _
      | exact ih2 _ _ _ _ _ _ _ _ _ _ _ _
      | exact impl_rising.mono _ _
      | exact LeO.none _
      | refine LeO.ite ?_ ?_
      | refine LeO.bind ?_ (fun _ => ?_)
theorem impl_ValidTxn.mono : ∀ a0 a1 a2 k, LeO (impl_ValidTxn.f k a0 a1 a2) (impl_ValidTxn.f (k + 1) a0 a1 a2) := by
  intro a0 a1 a2 k
  obtain ⟨ih0, ih1, ih2⟩ := impl_ValidTxn.mono_l k
  unfold impl_ValidTxn.f
  repeat' first
      | (with_reducible exact ih0 _ _ _ _)
      | (with_reducible exact ih1 _ _ _ _ _ _ _)
      | (with_reducible exact ih2 _ _ _ _ _ _ _ _ _ _ _ _)
      | (with_reducible exact impl_rising.mono _ _)
      | (with_reducible exact LeO.refl _)
      | (with_reducible exact LeO.none _)
      | (with_reducible refine LeO.ite ?_ ?_)
      | (with_reducible refine LeO.bind ?_ (fun _ => ?_))
      | exact ih0 _ _ _ _
      | exact ih1 _ _ _ _ _ _ _
      | exact ih2 _ _ _ _ _ _ _ _ _ _ _ _
      | exact impl_rising.mono _ _
      | exact LeO.none _
      | refine LeO.ite ?_ ?_
      | refine LeO.bind ?_ (fun _ => ?_)
set_option maxHeartbeats 8000000 in
set_option maxRecDepth 100000 in
theorem impl_ValidTxn.calls (k : Nat) (a0_0 : Int) (A0_1 : Option Addr) (c0_1 : Nat) (l0_1 : List (S61)) (A0_2 : Option Addr) (c0_2 : Nat) (l0_2 : List Int) (r : Bool) (w : World) (hr0_1 : Kd.C k61 w A0_1 l0_1.length l0_1) (hc0_1 : l0_1.length ≤ c0_1) (hr0_2 : Kd.C (Kd.int .i64) w A0_2 l0_2.length l0_2) (hc0_2 : l0_2.length ≤ c0_2) (h : impl_ValidTxn.f k a0_0 l0_1 l0_2 = some r) :
    Calls Try.prog 46 #[.agg #[.int .i64 a0_0, .slice A0_1 l0_1.length c0_1, .slice A0_2 l0_2.length c0_2]] w fun e w' => e = .returned (.bool r) ∧ Below w.heap.size w w' := by
  have hu34 := Try.underlying34
  have hu61 := Try.underlying61
  have HR0_1 := Aside0.mk hr0_1
  have HC0_1 := Aside0.mk hc0_1
  clear hr0_1 hc0_1
  have HR0_2 := Aside0.mk hr0_2
  have HC0_2 := Aside0.mk hc0_2
  clear hr0_2 hc0_2
  have HB := Aside0.mk (Below.refl w.heap.size w)
  have H : (if (wrap64 ((l0_1.length : Int) + (l0_2.length : Int))) < 1 then (impl_ValidTxn.j0 k true a0_0 l0_1 l0_2) else (if (wrap64 ((l0_1.length : Int) + (l0_2.length : Int))) > 128 then (impl_ValidTxn.j0 k true a0_0 l0_1 l0_2) else ((impl_in.f a0_0 1 4294967295).bind fun t420 => (if t420 = true then ((impl_rising.f k l0_2).bind fun t421 => (impl_ValidTxn.j0 k (!t421) a0_0 l0_1 l0_2)) else (impl_ValidTxn.j0 k true a0_0 l0_1 l0_2))))) = some r := h
  clear h
  have HC2 := Aside0.mk H
  clear H
  go_enter Try.func46, Try.ntmps46
  go_upto_region 2 with (first | ((with_reducible refine gate_dst (N := 1) rfl ?_); refine box_event ?hg (N := 1) ?hd (cs := #[.int .i64 a0_0, .slice A0_1 l0_1.length c0_1, .slice A0_2 l0_2.length c0_2]) (t := 34) ?hr ?_; (case hd => rfl); (case hg => rfl); (case hr => first | (go_simp; done) | (go_simp; rfl)); intro gb419 hg w3 hbox hb; have n0_ := Aside0.mk (below_step (Rgn.bq HB.out) hb); have n1_ := Aside0.mk (hbox); have n2_ := Aside0.mk ((by rw [hg]; exact (below_size (Rgn.bq HB.out)) : w.heap.size ≤ gb419)); have n3_ := Aside0.mk ((by rw [hg]; exact (below_size (Rgn.bq HB.out)) : w.heap.size ≤ gb419)); clear HB; have HB := n0_; have BK419 := n1_; have GW419 := n2_; have GE419 := n3_; clear n0_ n1_ n2_ n3_; clear hb hbox hg; have hcz4_0 : w3.cell? ⟨gb419, 0, none⟩ = some (.int .i64 a0_0) := (blk_cell BK419.out 0).trans rfl; have hcz4_1 : w3.cell? ⟨gb419, 1, none⟩ = some (.slice A0_1 l0_1.length c0_1) := (blk_cell BK419.out 1).trans rfl; have hcz4_2 : w3.cell? ⟨gb419, 2, none⟩ = some (.slice A0_2 l0_2.length c0_2) := (blk_cell BK419.out 2).trans rfl; have hfz4_0 := blk_frozen BK419.out 0; have hfz4_1 := blk_frozen BK419.out 1; have hfz4_2 := blk_frozen BK419.out 2))
  (try simp only [Act.put, List.setIfInBounds_toArray, List.set_cons_zero, List.set_cons_succ])
  go_cut [33] (fun v33 wc => ∃ (kq : Nat) (x33_1 : Bool), v33 = .bool x33_1 ∧ Aside0 (impl_ValidTxn.j0 kq x33_1 a0_0 l0_1 l0_2 = some r) ∧ Aside0 (kq ≤ k) ∧ Aside0 (wc.heap[gb419]? = some (.cells #[.int .i64 a0_0, (.slice A0_1 l0_1.length c0_1), (.slice A0_2 l0_2.length c0_2)] 34 (0, 0))) ∧ Aside0 (Below w.heap.size w wc))
  case first =>
    have H := HC2.out
    clear HC2
    by_cases c5 : (wrap64 ((l0_1.length : Int) + (l0_2.length : Int))) < 1
    · rw [if_pos c5] at H
      have c5b0 : decide ((wrap64 ((l0_1.length : Int) + (l0_2.length : Int))) < 1) = true := decide_eq_true c5
      clear c5
      (first | rw [c5b0] | (simp only [i64_w, i32_w]; rw [c5b0]) | skip)
      have H' := Aside0.mk H
      clear H
      go_wp2
      go_meet
      case rel => exact ⟨_, (true), (by first | rfl | (simp; done) | (simp [*]; done)), H', ⟨by first | omega | exact Nat.le_refl _⟩, ⟨Rgn.kb BK419.out⟩, ⟨Rgn.bq HB.out⟩⟩
    · rw [if_neg c5] at H
      have c5b0 : decide ((wrap64 ((l0_1.length : Int) + (l0_2.length : Int))) < 1) = false := decide_eq_false c5
      clear c5
      (first | rw [c5b0] | (simp only [i64_w, i32_w]; rw [c5b0]) | skip)
      by_cases c6 : (wrap64 ((l0_1.length : Int) + (l0_2.length : Int))) > 128
      · rw [if_pos c6] at H
        have c6b0 : decide (128 < (wrap64 ((l0_1.length : Int) + (l0_2.length : Int)))) = true := decide_eq_true c6
        clear c6
        have H' := Aside0.mk H
        clear H
        go_wp2
        go_meet
        case rel => exact ⟨_, (true), (by first | rfl | (simp; done) | (simp [*]; done)), H', ⟨by first | omega | exact Nat.le_refl _⟩, ⟨Rgn.kb BK419.out⟩, ⟨Rgn.bq HB.out⟩⟩
      · rw [if_neg c6] at H
        have c6b0 : decide (128 < (wrap64 ((l0_1.length : Int) + (l0_2.length : Int)))) = false := decide_eq_false c6
        clear c6
        replace H := Option.bind_eq_some_iff.mp H
        obtain ⟨t420, A70, H⟩ := H
        replace H : (if t420 = true then ((impl_rising.f k l0_2).bind fun t421 => (impl_ValidTxn.j0 k (!t421) a0_0 l0_1 l0_2)) else (impl_ValidTxn.j0 k true a0_0 l0_1 l0_2)) = some r := H
        have A7 := Aside0.mk A70
        clear A70
        by_cases c8 : t420 = true
        · subst c8
          have H1 : ((impl_rising.f k l0_2).bind fun t421 => (impl_ValidTxn.j0 k (!t421) a0_0 l0_1 l0_2)) = some r := by rw [if_pos rfl] at H; exact H
          clear H
          have H := H1
          clear H1
          replace H := Option.bind_eq_some_iff.mp H
          obtain ⟨t421, A90, H⟩ := H
          replace H : (impl_ValidTxn.j0 k (!t421) a0_0 l0_1 l0_2) = some r := H
          have A9 := Aside0.mk A90
          clear A90
          have H' := Aside0.mk H
          clear H
          have hcz10_0 : w3.cell? ⟨gb419, 0, none⟩ = some (.int .i64 a0_0) := (blk_cell BK419.out 0).trans rfl
          have hcz10_1 : w3.cell? ⟨gb419, 1, none⟩ = some (.slice A0_1 l0_1.length c0_1) := (blk_cell BK419.out 1).trans rfl
          have hcz10_2 : w3.cell? ⟨gb419, 2, none⟩ = some (.slice A0_2 l0_2.length c0_2) := (blk_cell BK419.out 2).trans rfl
          have hfz10_0 := blk_frozen BK419.out 0
          have hfz10_1 := blk_frozen BK419.out 1
          have hfz10_2 := blk_frozen BK419.out 2
          go_wp2_with (first | (go_at_call 60; (with_reducible refine (impl_in.calls a0_0 1 4294967295 true _ A7.out).mono ?_); rintro e w' ⟨rfl, ⟨nd, rfl⟩⟩) | (go_at_call 61; (with_reducible refine (impl_rising.calls k _ _ l0_2 t421 _ ?side1 ?side2 A9.out).mono ?_); (case side1 => repeat (first | exact (Kd.C_below HR0_2.out (Rgn.bq HB.out)) | (with_reducible refine Kd.C_alloc ?_ _) | (with_reducible refine Kd.C_drewN ?_ _) | (with_reducible refine Kd.C_drew ?_))); (case side2 => exact HC0_2.out); rintro e w' ⟨rfl, ⟨nd, rfl⟩⟩))
          go_meet
          case rel => exact ⟨_, (!t421), (by first | rfl | (simp; done) | (simp [*]; done)), H', ⟨by first | omega | exact Nat.le_refl _⟩, ⟨Rgn.kb BK419.out⟩, ⟨Rgn.bq HB.out⟩⟩
        · replace c8 := Bool.eq_false_iff.mpr c8
          subst c8
          have H1 : (impl_ValidTxn.j0 k true a0_0 l0_1 l0_2) = some r := by rw [if_neg (show ¬ (false = true) by decide)] at H; exact H
          clear H
          have H := H1
          clear H1
          have H' := Aside0.mk H
          clear H
          have hcz11_0 : w3.cell? ⟨gb419, 0, none⟩ = some (.int .i64 a0_0) := (blk_cell BK419.out 0).trans rfl
          have hcz11_1 : w3.cell? ⟨gb419, 1, none⟩ = some (.slice A0_1 l0_1.length c0_1) := (blk_cell BK419.out 1).trans rfl
          have hcz11_2 : w3.cell? ⟨gb419, 2, none⟩ = some (.slice A0_2 l0_2.length c0_2) := (blk_cell BK419.out 2).trans rfl
          have hfz11_0 := blk_frozen BK419.out 0
          have hfz11_1 := blk_frozen BK419.out 1
          have hfz11_2 := blk_frozen BK419.out 2
          go_wp2_with (first | (go_at_call 60; (with_reducible refine (impl_in.calls a0_0 1 4294967295 false _ A7.out).mono ?_); rintro e w' ⟨rfl, ⟨nd, rfl⟩⟩))
          go_meet
          case rel => exact ⟨_, (true), (by first | rfl | (simp; done) | (simp [*]; done)), H', ⟨by first | omega | exact Nat.le_refl _⟩, ⟨Rgn.kb BK419.out⟩, ⟨Rgn.bq HB.out⟩⟩
  case rest =>
    clear HC2
    try clear p2
    try clear c4
    try clear c5
    try clear c5b0
    try clear c6
    try clear c6b0
    try clear p6
    try clear c8
    try clear hcz10_0
    try clear hcz10_1
    try clear hcz10_2
    try clear hcz11_0
    try clear hcz11_1
    try clear hcz11_2
    try clear hcz4_0
    try clear hcz4_1
    try clear hcz4_2
    try clear hfz10_0
    try clear hfz10_1
    try clear hfz10_2
    try clear hfz11_0
    try clear hfz11_1
    try clear hfz11_2
    try clear hfz4_0
    try clear hfz4_1
    try clear hfz4_2
    obtain ⟨kq, x33_1, rfl, HA, HJ1, BK419, HB⟩ := hcut
    cases kq with
    | zero => exact absurd HA.out (by simp [impl_ValidTxn.j0])
    | succ kj1 =>
      have H := HA.out
      clear HA
      simp only [impl_ValidTxn.j0] at H
      by_cases c12 : x33_1 = true
      · subst c12
        have H1 : (some false) = some r := by rw [if_pos rfl] at H; exact H
        clear H
        have H := H1
        clear H1
        obtain rfl := Option.some.inj H
        go_wp2
        go_ret
        exact ⟨by first | rfl | (simp [errW_none, errW_some] <;> rfl) | (simp [*, errW_none, errW_some] <;> rfl), Rgn.bq HB.out⟩
      · replace c12 := Bool.eq_false_iff.mpr c12
        subst c12
        have H1 : (impl_ValidTxn.l0 kj1 ([] : List Int) l0_1 (l0_1.length : Int) 0 a0_0 l0_1 l0_2) = some r := by rw [if_neg (show ¬ (false = true) by decide)] at H; exact H
        clear H
        have H := H1
        clear H1
        have H' := Aside0.mk H
        clear H
        have hcz13_0 : wc.cell? ⟨gb419, 0, none⟩ = some (.int .i64 a0_0) := (blk_cell BK419.out 0).trans rfl
        have hcz13_1 : wc.cell? ⟨gb419, 1, none⟩ = some (.slice A0_1 l0_1.length c0_1) := (blk_cell BK419.out 1).trans rfl
        have hcz13_2 : wc.cell? ⟨gb419, 2, none⟩ = some (.slice A0_2 l0_2.length c0_2) := (blk_cell BK419.out 2).trans rfl
        have hfz13_0 := blk_frozen BK419.out 0
        have hfz13_1 := blk_frozen BK419.out 1
        have hfz13_2 := blk_frozen BK419.out 2
        go_wp2
        go_loopg [4, 37] kj1 (fun kq v4 v37 w' => ∃ (x4_2 : List Int) (x37_2 : Int), v37 = .int .i64 x37_2 ∧ Aside0 (impl_ValidTxn.l0 kq x4_2 l0_1 (l0_1.length : Int) x37_2 a0_0 l0_1 l0_2 = some r) ∧ Aside0 (kq ≤ kj1) ∧ Aside0 (Kd.R (Kd.int .i64) 2 w' w.heap.size (fun _ => True) v4 x4_2) ∧ Aside0 (w'.heap[gb419]? = some (.cells #[.int .i64 a0_0, (.slice A0_1 l0_1.length c0_1), (.slice A0_2 l0_2.length c0_2)] 34 (0, 0))) ∧ Aside0 (Below w.heap.size w w'))
        case atStart => exact ⟨(([] : List Int)), (0), (by first | rfl | (simp; done) | (simp [*]; done)), H', ⟨Nat.le_refl _⟩, ⟨by first | exact Kd.R_nil _ _ _ _ _ | exact Kd.N_nil _ _ _ _ _ | exact Kd.V_nil _ _ _ _ _ | exact Kd.Q_nil _ _ _ _ _ | exact Kd.S_nil _ _ _ _ _⟩, ⟨Rgn.kb BK419.out⟩, ⟨Rgn.bq HB.out⟩⟩
        case round =>
          clear H'
          try clear c1
          try clear p2
          try clear c4
          try clear c5
          try clear c5b0
          try clear c6
          try clear c6b0
          try clear p6
          try clear c8
          try clear c12
          try clear hcz10_0
          try clear hcz10_1
          try clear hcz10_2
          try clear hcz11_0
          try clear hcz11_1
          try clear hcz11_2
          try clear hcz13_0
          try clear hcz13_1
          try clear hcz13_2
          try clear hcz4_0
          try clear hcz4_1
          try clear hcz4_2
          try clear hfz10_0
          try clear hfz10_1
          try clear hfz10_2
          try clear hfz11_0
          try clear hfz11_1
          try clear hfz11_2
          try clear hfz13_0
          try clear hfz13_1
          try clear hfz13_2
          try clear hfz4_0
          try clear hfz4_1
          try clear hfz4_2
          try clear p2
          try clear p6
          obtain ⟨x4_2, x37_2, rfl, HA, HK2, HO_4, BK419, HB⟩ := hrel
          cases gk with
          | zero => exact absurd HA.out (by simp [impl_ValidTxn.l0])
          | succ k2 =>
            have H := HA.out
            clear HA
            simp only [impl_ValidTxn.l0] at H
            by_cases c14 : x37_2 < (l0_1.length : Int)
            · rw [if_pos c14] at H
              have c14b0 : decide (x37_2 < (l0_1.length : Int)) = true := decide_eq_true c14
              clear c14
              by_cases c15 : 0 ≤ x37_2
              · rw [if_pos c15] at H
                have c15b0 : decide (0 ≤ x37_2) = true := decide_eq_true c15
                clear c15
                by_cases c16 : x37_2 < (l0_1.length : Int)
                · rw [if_pos c16] at H
                  have c16b0 : decide (x37_2 < (l0_1.length : Int)) = true := decide_eq_true c16
                  clear c16
                  by_cases c17 : (((rd_T61 l0_1 x37_2).f1).length : Int) = 64
                  · rw [if_pos c17] at H
                    have c17b0 : ((((rd_T61 l0_1 x37_2).f1).length : Int) == 64) = true := beq_iff_eq.mpr c17
                    have c17b1 : ((((rd_T61 l0_1 x37_2).f1).length : Int) != 64) = false := bne_eq_false_iff_eq.mpr c17
                    clear c17
                    have H' := Aside0.mk H
                    clear H
                    have p423 : 0 ≤ (x37_2 : Int) := of_decide_eq_true (by first | (with_reducible assumption) | assumption)
                    have q423 : x37_2 < (l0_1.length : Int) := of_decide_eq_true (by first | (with_reducible assumption) | assumption)
                    obtain ⟨ad423, A423_1, c423_1, e423, hx423_0, hx423_1, hl423_1, hi423_1⟩ := at_T61 HR0_1.out x37_2 p423 q423
                    cases e423
                    replace hx423_0 := (HB.out.cell (World.block_lt_of_cell? w _ hx423_0)).trans hx423_0
                    replace hx423_1 := (HB.out.cell (World.block_lt_of_cell? w _ hx423_1)).trans hx423_1
                    have HR423_1 := Aside0.mk hi423_1
                    have HC423_1 := Aside0.mk hl423_1
                    clear hi423_1 hl423_1
                    replace p423 := eq_true p423
                    replace q423 := eq_true q423
                    go_wp2_with (first | ((with_reducible refine gate_dst (N := 6) rfl ?_); refine box_event ?hg (N := 6) ?hd (cs := #[.int .i64 0, .slice none 0 0]) (t := 61) ?hr ?_; (case hd => rfl); (case hg => rfl); (case hr => first | (go_simp; done) | (go_simp; rfl)); intro gb424 hg w18 hbox hb; have n0_ := Aside0.mk (Kd.R_below (Rgn.rq HO_4.out) hb); have n1_ := Aside0.mk (Rgn.bb BK419.out hb); have n2_ := Aside0.mk (below_step (Rgn.bq HB.out) hb); have n3_ := Aside0.mk (hbox); have n4_ := Aside0.mk ((by rw [hg]; exact (below_size (Rgn.bq HB.out)) : w.heap.size ≤ gb424)); have n5_ := Aside0.mk ((by rw [hg]; exact (below_size (Rgn.bq HB.out)) : w.heap.size ≤ gb424)); have n6_ := Aside0.mk ((by rw [hg]; exact Nat.ne_of_lt (blk_lt (g := gb419) (o := .cells #[.int .i64 a0_0, .slice (some ad423) l0_1.length c0_1, .slice A0_2 l0_2.length c0_2] 34 (0, 0)) (Rgn.kb BK419.out)) : gb419 ≠ gb424)); have n7_ := Aside0.mk ((by rw [hg]; exact Nat.ne_of_gt (blk_lt (g := gb419) (o := .cells #[.int .i64 a0_0, .slice (some ad423) l0_1.length c0_1, .slice A0_2 l0_2.length c0_2] 34 (0, 0)) (Rgn.kb BK419.out)) : gb424 ≠ gb419)); clear HO_4; clear BK419; clear HB; have HO_4 := n0_; have BK419 := n1_; have HB := n2_; have BK424 := n3_; have GW424 := n4_; have GE424 := n5_; have NB419_424 := n6_; have NB424_419 := n7_; clear n0_ n1_ n2_ n3_ n4_ n5_ n6_ n7_; clear hb hbox hg; have hnb19 := NB424_419.out; have hnc19 := NB419_424.out; have hcz20_0 : w18.cell? ⟨gb424, 0, none⟩ = some (.int .i64 0) := (blk_cell BK424.out 0).trans rfl; have hcz20_1 : w18.cell? ⟨gb424, 1, none⟩ = some (.slice none 0 0) := (blk_cell BK424.out 1).trans rfl; have hfz20_0 := blk_frozen BK424.out 0; have hfz20_1 := blk_frozen BK424.out 1; have hcz21_0 : w18.cell? ⟨gb419, 0, none⟩ = some (.int .i64 a0_0) := (blk_cell BK419.out 0).trans rfl; have hcz21_1 : w18.cell? ⟨gb419, 1, none⟩ = some (.slice (some ad423) l0_1.length c0_1) := (blk_cell BK419.out 1).trans rfl; have hcz21_2 : w18.cell? ⟨gb419, 2, none⟩ = some (.slice A0_2 l0_2.length c0_2) := (blk_cell BK419.out 2).trans rfl; have hfz21_0 := blk_frozen BK419.out 0; have hfz21_1 := blk_frozen BK419.out 1; have hfz21_2 := blk_frozen BK419.out 2))
                    go_loopg [48] k2 (fun kq v48 w' => ∃ (x48_3 : Int), v48 = .int .i64 x48_3 ∧ Aside0 (impl_ValidTxn.l1 kq x4_2 l0_1 (l0_1.length : Int) x37_2 l0_2 (l0_2.length : Int) x48_3 a0_0 l0_1 l0_2 ((rd_T61 l0_1 x37_2).f0) ((rd_T61 l0_1 x37_2).f1) = some r) ∧ Aside0 (kq ≤ k2) ∧ Aside0 (Kd.R (Kd.int .i64) 2 w' w.heap.size (fun _ => True) u4 x4_2) ∧ Aside0 (w'.heap[gb419]? = some (.cells #[.int .i64 a0_0, (.slice (some ad423) l0_1.length c0_1), (.slice A0_2 l0_2.length c0_2)] 34 (0, 0))) ∧ Aside0 (w'.heap[gb424]? = some (.cells #[.int .i64 ((rd_T61 l0_1 x37_2).f0), (.slice A423_1 ((rd_T61 l0_1 x37_2).f1).length c423_1)] 61 (0, 0))) ∧ Aside0 (Below w.heap.size w w'))
                    case atStart => exact ⟨(0), (by first | rfl | (simp; done) | (simp [*]; done)), H', ⟨Nat.le_refl _⟩, ⟨by (with_reducible repeat (first | apply Kd.R_alloc | apply Kd.R_drewN | apply Kd.R_drew)); exact Kd.R_mono (Kd.R_far (p := ⟨gb424, 1, none⟩) (Kd.R_far (p := ⟨gb424, 0, none⟩) (Kd.R_types HO_4.out BK424.out (by decide)) (fun _ hk => hk.2) (.int .i64 ((rd_T61 l0_1 x37_2).f0))) (fun _ hk => hk.2) (.slice A423_1 ((rd_T61 l0_1 x37_2).f1).length c423_1)) (fun _ hk => trivial)⟩, ⟨by (with_reducible repeat (first | refine blk_drewN ?_ _ | refine blk_drew ?_ | refine blk_alloc ?_ _)); refine blk_far ?_ NB419_424.out _; (with_reducible repeat (first | refine blk_drewN ?_ _ | refine blk_drew ?_ | refine blk_alloc ?_ _)); refine blk_far ?_ NB419_424.out _; (with_reducible repeat (first | refine blk_drewN ?_ _ | refine blk_drew ?_ | refine blk_alloc ?_ _)); exact BK419.out⟩, ⟨by (with_reducible repeat (first | refine blk_drewN ?_ _ | refine blk_drew ?_ | refine blk_alloc ?_ _)); refine blk_put (cs := #[.int .i64 ((rd_T61 l0_1 x37_2).f0), .slice none 0 0]) ?_ 1 _ rfl; (with_reducible repeat (first | refine blk_drewN ?_ _ | refine blk_drew ?_ | refine blk_alloc ?_ _)); refine blk_put (cs := #[.int .i64 0, .slice none 0 0]) ?_ 0 _ rfl; (with_reducible repeat (first | refine blk_drewN ?_ _ | refine blk_drew ?_ | refine blk_alloc ?_ _)); exact BK424.out⟩, ⟨Rgn.bq HB.out⟩⟩
                    case round =>
                      clear H'
                      try clear c1
                      try clear p2
                      try clear c4
                      try clear p4
                      try clear q4
                      try clear hx4
                      try clear c5
                      try clear c5b0
                      try clear c6
                      try clear c6b0
                      try clear p6
                      try clear c8
                      try clear c12
                      try clear c14
                      try clear c14b0
                      try clear c15
                      try clear c15b0
                      try clear c16
                      try clear c16b0
                      try clear c17
                      try clear c17b0
                      try clear c17b1
                      try clear c19
                      try clear hcz10_0
                      try clear hcz10_1
                      try clear hcz10_2
                      try clear hcz11_0
                      try clear hcz11_1
                      try clear hcz11_2
                      try clear hcz13_0
                      try clear hcz13_1
                      try clear hcz13_2
                      try clear hcz20_0
                      try clear hcz20_1
                      try clear hcz21_0
                      try clear hcz21_1
                      try clear hcz21_2
                      try clear hcz4_0
                      try clear hcz4_1
                      try clear hcz4_2
                      try clear hfz10_0
                      try clear hfz10_1
                      try clear hfz10_2
                      try clear hfz11_0
                      try clear hfz11_1
                      try clear hfz11_2
                      try clear hfz13_0
                      try clear hfz13_1
                      try clear hfz13_2
                      try clear hfz20_0
                      try clear hfz20_1
                      try clear hfz21_0
                      try clear hfz21_1
                      try clear hfz21_2
                      try clear hfz4_0
                      try clear hfz4_1
                      try clear hfz4_2
                      try clear hx423_0
                      try clear hx423_1
                      try clear p2
                      try clear p423
                      try clear p6
                      try clear q423
                      obtain ⟨x48_3, rfl, HA, HK3, HO_4, BK419, BK424, HB⟩ := hrel
                      cases gk with
                      | zero => exact absurd HA.out (by simp [impl_ValidTxn.l1])
                      | succ k3 =>
                        have H := HA.out
                        clear HA
                        simp only [impl_ValidTxn.l1] at H
                        by_cases c22 : x48_3 < (l0_2.length : Int)
                        · rw [if_pos c22] at H
                          have c22b0 : decide (x48_3 < (l0_2.length : Int)) = true := decide_eq_true c22
                          clear c22
                          by_cases c23 : 0 ≤ x48_3
                          · rw [if_pos c23] at H
                            have c23b0 : decide (0 ≤ x48_3) = true := decide_eq_true c23
                            clear c23
                            by_cases c24 : x48_3 < (l0_2.length : Int)
                            · rw [if_pos c24] at H
                              have c24b0 : decide (x48_3 < (l0_2.length : Int)) = true := decide_eq_true c24
                              clear c24
                              by_cases c25 : (rd l0_2 x48_3) = ((rd_T61 l0_1 x37_2).f0)
                              · rw [if_pos c25] at H
                                have c25b0 : ((rd l0_2 x48_3) == ((rd_T61 l0_1 x37_2).f0)) = true := beq_iff_eq.mpr c25
                                have c25b1 : ((rd l0_2 x48_3) != ((rd_T61 l0_1 x37_2).f0)) = false := bne_eq_false_iff_eq.mpr c25
                                clear c25
                                obtain rfl := Option.some.inj H
                                have p425 : 0 ≤ (x48_3 : Int) := of_decide_eq_true (by first | (with_reducible assumption) | assumption)
                                have q425 : x48_3 < (l0_2.length : Int) := of_decide_eq_true (by first | (with_reducible assumption) | assumption)
                                obtain ⟨ad425, e425, hx425_0⟩ := Kd.at_int HR0_2.out x48_3 p425 q425
                                cases e425
                                replace hx425_0 := (HB.out.cell (World.block_lt_of_cell? w _ hx425_0)).trans hx425_0
                                replace p425 := eq_true p425
                                replace q425 := eq_true q425
                                have hnb26 := NB424_419.out
                                have hnc26 := NB419_424.out
                                have hcz27_0 : wr.cell? ⟨gb424, 0, none⟩ = some (.int .i64 ((rd_T61 l0_1 x37_2).f0)) := (blk_cell BK424.out 0).trans rfl
                                have hcz27_1 : wr.cell? ⟨gb424, 1, none⟩ = some (.slice A423_1 ((rd_T61 l0_1 x37_2).f1).length c423_1) := (blk_cell BK424.out 1).trans rfl
                                have hfz27_0 := blk_frozen BK424.out 0
                                have hfz27_1 := blk_frozen BK424.out 1
                                go_wp2
                                go_ret
                                exact ⟨by first | rfl | (simp [errW_none, errW_some] <;> rfl) | (simp [*, errW_none, errW_some] <;> rfl), Rgn.bq HB.out⟩
                              · rw [if_neg c25] at H
                                have c25b0 : ((rd l0_2 x48_3) == ((rd_T61 l0_1 x37_2).f0)) = false := beq_eq_false_iff_ne.mpr c25
                                have c25b1 : ((rd l0_2 x48_3) != ((rd_T61 l0_1 x37_2).f0)) = true := bne_iff_ne.mpr c25
                                have H' := Aside0.mk H
                                clear H
                                have p425 : 0 ≤ (x48_3 : Int) := of_decide_eq_true (by first | (with_reducible assumption) | assumption)
                                have q425 : x48_3 < (l0_2.length : Int) := of_decide_eq_true (by first | (with_reducible assumption) | assumption)
                                obtain ⟨ad425, e425, hx425_0⟩ := Kd.at_int HR0_2.out x48_3 p425 q425
                                cases e425
                                replace hx425_0 := (HB.out.cell (World.block_lt_of_cell? w _ hx425_0)).trans hx425_0
                                replace p425 := eq_true p425
                                replace q425 := eq_true q425
                                have hnb28 := NB424_419.out
                                have hnc28 := NB419_424.out
                                have hcz29_0 : wr.cell? ⟨gb424, 0, none⟩ = some (.int .i64 ((rd_T61 l0_1 x37_2).f0)) := (blk_cell BK424.out 0).trans rfl
                                have hcz29_1 : wr.cell? ⟨gb424, 1, none⟩ = some (.slice A423_1 ((rd_T61 l0_1 x37_2).f1).length c423_1) := (blk_cell BK424.out 1).trans rfl
                                have hfz29_0 := blk_frozen BK424.out 0
                                have hfz29_1 := blk_frozen BK424.out 1
                                go_wp2
                                go_roundg k3
                                case measure => have := HJ1.out; have := HK2.out; have := HK3.out; omega
                                case rel => exact ⟨(wrap64 (x48_3 + 1)), (by first | rfl | (simp; done) | (simp [*]; done)), H', ⟨by have := HJ1.out; have := HK2.out; have := HK3.out; omega⟩, ⟨Rgn.rq HO_4.out⟩, ⟨Rgn.kb BK419.out⟩, ⟨Rgn.kb BK424.out⟩, ⟨Rgn.bq HB.out⟩⟩
                            · rw [if_neg c24] at H
                              exact absurd H (by simp)
                          · rw [if_neg c23] at H
                            exact absurd H (by simp)
                        · rw [if_neg c22] at H
                          have c22b0 : decide (x48_3 < (l0_2.length : Int)) = false := decide_eq_false c22
                          clear c22
                          by_cases c30 : x4_2.length < 17592186044416
                          · rw [if_pos c30] at H
                            have LMc30 := Aside0.mk c30
                            clear c30
                            obtain ⟨y426, hy426⟩ : ∃ y_ : List Int, y_ = (x4_2 ++ [((rd_T61 l0_1 x37_2).f0)]) := ⟨_, rfl⟩
                            replace H : (impl_ValidTxn.l0 k3 y426 l0_1 (l0_1.length : Int) (wrap64 (x37_2 + 1)) a0_0 l0_1 l0_2) = some r := by first | (rw [hy426]; with_reducible exact H) | (have H2_ := (Option.bind_some _ _).symm.trans H; rw [hy426]; with_reducible exact H2_) | (have H2_ := (Option.bind_some _ _).symm.trans H; with_reducible exact H2_) | with_reducible exact H | (rw [hy426]; exact H) | exact H
                            have Ny426 := Aside0.mk hy426
                            clear hy426
                            have H' := Aside0.mk H
                            clear H
                            have hnb31 := NB424_419.out
                            have hnc31 := NB419_424.out
                            have hcz32_0 : wr.cell? ⟨gb424, 0, none⟩ = some (.int .i64 ((rd_T61 l0_1 x37_2).f0)) := (blk_cell BK424.out 0).trans rfl
                            have hcz32_1 : wr.cell? ⟨gb424, 1, none⟩ = some (.slice A423_1 ((rd_T61 l0_1 x37_2).f1).length c423_1) := (blk_cell BK424.out 1).trans rfl
                            have hfz32_0 := blk_frozen BK424.out 0
                            have hfz32_1 := blk_frozen BK424.out 1
                            go_wp2_with (first | ((with_reducible refine gate_builtin (b := .append) (xs := #[.tmp 57, .tmp 60]) rfl ?_); at_builtin; refine Kd.R_append (Kd.int .i64) (w0 := w) w.heap.size rfl (.tmp 57) (.tmp 60) 25 2 (.int .i64 0) 8 rfl Try.underlying25 info2 rfl (by decide) (by omega) u4 x4_2 ((rd_T61 l0_1 x37_2).f0) [.int .i64 ((rd_T61 l0_1 x37_2).f0)] (fun _ => True) (fun _ => False) rfl rfl ?aP (fun _ hk => hk.elim) ?aF ?aO ?aB ?aS ?aL ?_; (case aP => exact rfl); (case aB => exact (Rgn.bq HB.out)); (case aF => exact (fun _ _ => trivial)); (case aO => exact (Rgn.rq HO_4.out)); (case aS => exact (below_size (Rgn.bq HB.out))); (case aL => have := LMc30.out; omega); intro v427 w33 ho hb hg hat; rw [← Ny426.out] at ho; have n0_ := Aside0.mk (blk_grown (g := gb419) (o := .cells #[.int .i64 a0_0, .slice (some ad423) l0_1.length c0_1, .slice A0_2 l0_2.length c0_2] 34 (0, 0)) (Rgn.kb BK419.out) hg (Kd.R_ne HO_4.out BK419.out (by decide))); have n1_ := Aside0.mk (blk_grown (g := gb424) (o := .cells #[.int .i64 ((rd_T61 l0_1 x37_2).f0), .slice A423_1 ((rd_T61 l0_1 x37_2).f1).length c423_1] 61 (0, 0)) (Rgn.kb BK424.out) hg (Kd.R_ne HO_4.out BK424.out (by decide))); have n2_ := Aside0.mk (hb); have n3_ := Aside0.mk (ho); clear BK419; clear BK424; clear HB; clear HO_4; have BK419 := n0_; have BK424 := n1_; have HB := n2_; have HO428 := n3_; clear n0_ n1_ n2_ n3_; clear ho hb hg hat))
                            go_roundg k3
                            case measure => have := HJ1.out; have := HK2.out; have := HK3.out; omega
                            case rel => exact ⟨(y426), (wrap64 (x37_2 + 1)), (by first | rfl | (simp; done) | (simp [*]; done)), H', ⟨by have := HJ1.out; have := HK2.out; have := HK3.out; omega⟩, ⟨Rgn.rq HO428.out⟩, ⟨Rgn.kb BK419.out⟩, ⟨Rgn.bq HB.out⟩⟩
                          · rw [if_neg c30] at H
                            exact absurd H (by simp)
                  · rw [if_neg c17] at H
                    have c17b0 : ((((rd_T61 l0_1 x37_2).f1).length : Int) == 64) = false := beq_eq_false_iff_ne.mpr c17
                    have c17b1 : ((((rd_T61 l0_1 x37_2).f1).length : Int) != 64) = true := bne_iff_ne.mpr c17
                    obtain rfl := Option.some.inj H
                    have p423 : 0 ≤ (x37_2 : Int) := of_decide_eq_true (by first | (with_reducible assumption) | assumption)
                    have q423 : x37_2 < (l0_1.length : Int) := of_decide_eq_true (by first | (with_reducible assumption) | assumption)
                    obtain ⟨ad423, A423_1, c423_1, e423, hx423_0, hx423_1, hl423_1, hi423_1⟩ := at_T61 HR0_1.out x37_2 p423 q423
                    cases e423
                    replace hx423_0 := (HB.out.cell (World.block_lt_of_cell? w _ hx423_0)).trans hx423_0
                    replace hx423_1 := (HB.out.cell (World.block_lt_of_cell? w _ hx423_1)).trans hx423_1
                    have HR423_1 := Aside0.mk hi423_1
                    have HC423_1 := Aside0.mk hl423_1
                    clear hi423_1 hl423_1
                    replace p423 := eq_true p423
                    replace q423 := eq_true q423
                    go_wp2_with (first | ((with_reducible refine gate_dst (N := 6) rfl ?_); refine box_event ?hg (N := 6) ?hd (cs := #[.int .i64 0, .slice none 0 0]) (t := 61) ?hr ?_; (case hd => rfl); (case hg => rfl); (case hr => first | (go_simp; done) | (go_simp; rfl)); intro gb424 hg w34 hbox hb; have n0_ := Aside0.mk (Kd.R_below (Rgn.rq HO_4.out) hb); have n1_ := Aside0.mk (Rgn.bb BK419.out hb); have n2_ := Aside0.mk (below_step (Rgn.bq HB.out) hb); have n3_ := Aside0.mk (hbox); have n4_ := Aside0.mk ((by rw [hg]; exact (below_size (Rgn.bq HB.out)) : w.heap.size ≤ gb424)); have n5_ := Aside0.mk ((by rw [hg]; exact (below_size (Rgn.bq HB.out)) : w.heap.size ≤ gb424)); have n6_ := Aside0.mk ((by rw [hg]; exact Nat.ne_of_lt (blk_lt (g := gb419) (o := .cells #[.int .i64 a0_0, .slice (some ad423) l0_1.length c0_1, .slice A0_2 l0_2.length c0_2] 34 (0, 0)) (Rgn.kb BK419.out)) : gb419 ≠ gb424)); have n7_ := Aside0.mk ((by rw [hg]; exact Nat.ne_of_gt (blk_lt (g := gb419) (o := .cells #[.int .i64 a0_0, .slice (some ad423) l0_1.length c0_1, .slice A0_2 l0_2.length c0_2] 34 (0, 0)) (Rgn.kb BK419.out)) : gb424 ≠ gb419)); clear HO_4; clear BK419; clear HB; have HO_4 := n0_; have BK419 := n1_; have HB := n2_; have BK424 := n3_; have GW424 := n4_; have GE424 := n5_; have NB419_424 := n6_; have NB424_419 := n7_; clear n0_ n1_ n2_ n3_ n4_ n5_ n6_ n7_; clear hb hbox hg; have hnb35 := NB424_419.out; have hnc35 := NB419_424.out; have hcz36_0 : w34.cell? ⟨gb424, 0, none⟩ = some (.int .i64 0) := (blk_cell BK424.out 0).trans rfl; have hcz36_1 : w34.cell? ⟨gb424, 1, none⟩ = some (.slice none 0 0) := (blk_cell BK424.out 1).trans rfl; have hfz36_0 := blk_frozen BK424.out 0; have hfz36_1 := blk_frozen BK424.out 1))
                    go_ret
                    exact ⟨by first | rfl | (simp [errW_none, errW_some] <;> rfl) | (simp [*, errW_none, errW_some] <;> rfl), Rgn.bq HB.out⟩
                · rw [if_neg c16] at H
                  exact absurd H (by simp)
              · rw [if_neg c15] at H
                exact absurd H (by simp)
            · rw [if_neg c14] at H
              have c14b0 : decide (x37_2 < (l0_1.length : Int)) = false := decide_eq_false c14
              clear c14
              replace H := Option.bind_eq_some_iff.mp H
              obtain ⟨t422, A370, H⟩ := H
              replace H : (some t422) = some r := H
              have A37 := Aside0.mk A370
              clear A370
              obtain rfl := Option.some.inj H
              obtain ⟨Ao38, co38, eo38⟩ := Kd.R_slice HO_4.out
              subst eo38
              go_wp2_with (first | ((with_reducible refine gate_callee (f := 61) rfl ?_); refine Rgn.gl (some 64) Try.func61 #[.slice Ao38 x4_2.length co38] ?_; (with_reducible refine (impl_rising.calls k2 _ _ x4_2 t422 _ ?side1 ?side2 A37.out).mono ?_); (case side1 => exact Rgn.cq (Kd.R_reads' HO_4.out).2.2); (case side2 => exact (Kd.R_reads' HO_4.out).2.1); rintro e w' ⟨rfl, ⟨nd, rfl⟩⟩; refine ⟨_, rfl, ?_⟩))
              go_ret
              exact ⟨by first | rfl | (simp [errW_none, errW_some] <;> rfl) | (simp [*, errW_none, errW_some] <;> rfl), Rgn.bq HB.out⟩

/-! ### impl_TxnLength: function 29 -/
def impl_TxnLength.f (k : Nat) (a0_0 : Int) (l0_1 : List (S61)) (l0_2 : List Int) : Option (Int) := (impl_ValidTxn.f k a0_0 l0_1 l0_2).bind fun t430 => (if t430 = true then (some (wrap64 ((wrap64 ((wrap64 ((wrap64 (Int.tdiv (wrap64 ((l0_2.length : Int) + 25)) 26)) + (l0_1.length : Int))) + (wrap64 (Int.tdiv (wrap64 ((l0_1.length : Int) + 16)) 17)))) + 1))) else (some 0))
theorem impl_TxnLength.mono : ∀ a0 a1 a2 k, LeO (impl_TxnLength.f k a0 a1 a2) (impl_TxnLength.f (k + 1) a0 a1 a2) := by
  intro a0 a1 a2 k
  unfold impl_TxnLength.f
  repeat' first
      | (with_reducible exact impl_ValidTxn.mono _ _ _ _)
      | (with_reducible exact LeO.refl _)
      | (with_reducible exact LeO.none _)
      | (with_reducible refine LeO.ite ?_ ?_)
      | (with_reducible refine LeO.bind ?_ (fun _ => ?_))
      | exact impl_ValidTxn.mono _ _ _ _
      | exact LeO.none _
      | refine LeO.ite ?_ ?_
      | refine LeO.bind ?_ (fun _ => ?_)
set_option maxHeartbeats 8000000 in
set_option maxRecDepth 100000 in
theorem impl_TxnLength.calls (k : Nat) (a0_0 : Int) (A0_1 : Option Addr) (c0_1 : Nat) (l0_1 : List (S61)) (A0_2 : Option Addr) (c0_2 : Nat) (l0_2 : List Int) (r : Int) (w : World) (hr0_1 : Kd.C k61 w A0_1 l0_1.length l0_1) (hc0_1 : l0_1.length ≤ c0_1) (hr0_2 : Kd.C (Kd.int .i64) w A0_2 l0_2.length l0_2) (hc0_2 : l0_2.length ≤ c0_2) (h : impl_TxnLength.f k a0_0 l0_1 l0_2 = some r) :
    Calls Try.prog 29 #[.agg #[.int .i64 a0_0, .slice A0_1 l0_1.length c0_1, .slice A0_2 l0_2.length c0_2]] w fun e w' => e = .returned (.int .i64 r) ∧ Below w.heap.size w w' := by
  have hu34 := Try.underlying34
  have HR0_1 := Aside0.mk hr0_1
  have HC0_1 := Aside0.mk hc0_1
  clear hr0_1 hc0_1
  have HR0_2 := Aside0.mk hr0_2
  have HC0_2 := Aside0.mk hc0_2
  clear hr0_2 hc0_2
  have HB := Aside0.mk (Below.refl w.heap.size w)
  have H : ((impl_ValidTxn.f k a0_0 l0_1 l0_2).bind fun t430 => (if t430 = true then (some (wrap64 ((wrap64 ((wrap64 ((wrap64 (Int.tdiv (wrap64 ((l0_2.length : Int) + 25)) 26)) + (l0_1.length : Int))) + (wrap64 (Int.tdiv (wrap64 ((l0_1.length : Int) + 16)) 17)))) + 1))) else (some 0))) = some r := h
  clear h
  replace H := Option.bind_eq_some_iff.mp H
  obtain ⟨t430, A20, H⟩ := H
  replace H : (if t430 = true then (some (wrap64 ((wrap64 ((wrap64 ((wrap64 (Int.tdiv (wrap64 ((l0_2.length : Int) + 25)) 26)) + (l0_1.length : Int))) + (wrap64 (Int.tdiv (wrap64 ((l0_1.length : Int) + 16)) 17)))) + 1))) else (some 0)) = some r := H
  have A2 := Aside0.mk A20
  clear A20
  by_cases c3 : t430 = true
  · subst c3
    have H1 : (some (wrap64 ((wrap64 ((wrap64 ((wrap64 (Int.tdiv (wrap64 ((l0_2.length : Int) + 25)) 26)) + (l0_1.length : Int))) + (wrap64 (Int.tdiv (wrap64 ((l0_1.length : Int) + 16)) 17)))) + 1))) = some r := by rw [if_pos rfl] at H; exact H
    clear H
    have H := H1
    clear H1
    obtain rfl := Option.some.inj H
    go_enter Try.func29, Try.ntmps29
    go_wp2_with (first | ((with_reducible refine gate_dst (N := 1) rfl ?_); refine box_event ?hg (N := 1) ?hd (cs := #[.int .i64 a0_0, .slice A0_1 l0_1.length c0_1, .slice A0_2 l0_2.length c0_2]) (t := 34) ?hr ?_; (case hd => rfl); (case hg => rfl); (case hr => first | (go_simp; done) | (go_simp; rfl)); intro gb429 hg w4 hbox hb; have n0_ := Aside0.mk (below_step (Rgn.bq HB.out) hb); have n1_ := Aside0.mk (hbox); have n2_ := Aside0.mk ((by rw [hg]; exact (below_size (Rgn.bq HB.out)) : w.heap.size ≤ gb429)); have n3_ := Aside0.mk ((by rw [hg]; exact (below_size (Rgn.bq HB.out)) : w.heap.size ≤ gb429)); clear HB; have HB := n0_; have BK429 := n1_; have GW429 := n2_; have GE429 := n3_; clear n0_ n1_ n2_ n3_; clear hb hbox hg; have hcz5_0 : w4.cell? ⟨gb429, 0, none⟩ = some (.int .i64 a0_0) := (blk_cell BK429.out 0).trans rfl; have hcz5_1 : w4.cell? ⟨gb429, 1, none⟩ = some (.slice A0_1 l0_1.length c0_1) := (blk_cell BK429.out 1).trans rfl; have hcz5_2 : w4.cell? ⟨gb429, 2, none⟩ = some (.slice A0_2 l0_2.length c0_2) := (blk_cell BK429.out 2).trans rfl; have hfz5_0 := blk_frozen BK429.out 0; have hfz5_1 := blk_frozen BK429.out 1; have hfz5_2 := blk_frozen BK429.out 2) | (go_at_call 46; (with_reducible refine (impl_ValidTxn.calls k a0_0 _ _ l0_1 _ _ l0_2 true _ ?side1 ?side2 ?side3 ?side4 A2.out).mono ?_); (case side1 => exact Rgn.cq (Kd.C_below HR0_1.out HB.out)); (case side2 => exact HC0_1.out); (case side3 => exact Rgn.cq (Kd.C_below HR0_2.out HB.out)); (case side4 => exact HC0_2.out); rintro e w6 ⟨rfl, hb⟩; have n0_ := Aside0.mk (Rgn.bb BK429.out hb); have n1_ := Aside0.mk (below_step (Rgn.bq HB.out) hb); clear BK429; clear HB; have BK429 := n0_; have HB := n1_; clear n0_ n1_; (try clear hb); (try clear hb2); (try clear hk); (try clear hi); have hcz7_0 : w6.cell? ⟨gb429, 0, none⟩ = some (.int .i64 a0_0) := (blk_cell BK429.out 0).trans rfl; have hcz7_1 : w6.cell? ⟨gb429, 1, none⟩ = some (.slice A0_1 l0_1.length c0_1) := (blk_cell BK429.out 1).trans rfl; have hcz7_2 : w6.cell? ⟨gb429, 2, none⟩ = some (.slice A0_2 l0_2.length c0_2) := (blk_cell BK429.out 2).trans rfl; have hfz7_0 := blk_frozen BK429.out 0; have hfz7_1 := blk_frozen BK429.out 1; have hfz7_2 := blk_frozen BK429.out 2))
    repeat (go_quiet (first | ((with_reducible refine gate_dst (N := 1) rfl ?_); refine box_event ?hg (N := 1) ?hd (cs := #[.int .i64 a0_0, .slice A0_1 l0_1.length c0_1, .slice A0_2 l0_2.length c0_2]) (t := 34) ?hr ?_; (case hd => rfl); (case hg => rfl); (case hr => first | (go_simp; done) | (go_simp; rfl)); intro gb429 hg w4 hbox hb; have n0_ := Aside0.mk (below_step (Rgn.bq HB.out) hb); have n1_ := Aside0.mk (hbox); have n2_ := Aside0.mk ((by rw [hg]; exact (below_size (Rgn.bq HB.out)) : w.heap.size ≤ gb429)); have n3_ := Aside0.mk ((by rw [hg]; exact (below_size (Rgn.bq HB.out)) : w.heap.size ≤ gb429)); clear HB; have HB := n0_; have BK429 := n1_; have GW429 := n2_; have GE429 := n3_; clear n0_ n1_ n2_ n3_; clear hb hbox hg; have hcz5_0 : w4.cell? ⟨gb429, 0, none⟩ = some (.int .i64 a0_0) := (blk_cell BK429.out 0).trans rfl; have hcz5_1 : w4.cell? ⟨gb429, 1, none⟩ = some (.slice A0_1 l0_1.length c0_1) := (blk_cell BK429.out 1).trans rfl; have hcz5_2 : w4.cell? ⟨gb429, 2, none⟩ = some (.slice A0_2 l0_2.length c0_2) := (blk_cell BK429.out 2).trans rfl; have hfz5_0 := blk_frozen BK429.out 0; have hfz5_1 := blk_frozen BK429.out 1; have hfz5_2 := blk_frozen BK429.out 2) | (go_at_call 46; (with_reducible refine (impl_ValidTxn.calls k a0_0 _ _ l0_1 _ _ l0_2 true _ ?side1 ?side2 ?side3 ?side4 A2.out).mono ?_); (case side1 => exact Rgn.cq (Kd.C_below HR0_1.out HB.out)); (case side2 => exact HC0_1.out); (case side3 => exact Rgn.cq (Kd.C_below HR0_2.out HB.out)); (case side4 => exact HC0_2.out); rintro e w6 ⟨rfl, hb⟩; have n0_ := Aside0.mk (Rgn.bb BK429.out hb); have n1_ := Aside0.mk (below_step (Rgn.bq HB.out) hb); clear BK429; clear HB; have BK429 := n0_; have HB := n1_; clear n0_ n1_; (try clear hb); (try clear hb2); (try clear hk); (try clear hi); have hcz7_0 : w6.cell? ⟨gb429, 0, none⟩ = some (.int .i64 a0_0) := (blk_cell BK429.out 0).trans rfl; have hcz7_1 : w6.cell? ⟨gb429, 1, none⟩ = some (.slice A0_1 l0_1.length c0_1) := (blk_cell BK429.out 1).trans rfl; have hcz7_2 : w6.cell? ⟨gb429, 2, none⟩ = some (.slice A0_2 l0_2.length c0_2) := (blk_cell BK429.out 2).trans rfl; have hfz7_0 := blk_frozen BK429.out 0; have hfz7_1 := blk_frozen BK429.out 1; have hfz7_2 := blk_frozen BK429.out 2)); try go_wp2_with (first | ((with_reducible refine gate_dst (N := 1) rfl ?_); refine box_event ?hg (N := 1) ?hd (cs := #[.int .i64 a0_0, .slice A0_1 l0_1.length c0_1, .slice A0_2 l0_2.length c0_2]) (t := 34) ?hr ?_; (case hd => rfl); (case hg => rfl); (case hr => first | (go_simp; done) | (go_simp; rfl)); intro gb429 hg w4 hbox hb; have n0_ := Aside0.mk (below_step (Rgn.bq HB.out) hb); have n1_ := Aside0.mk (hbox); have n2_ := Aside0.mk ((by rw [hg]; exact (below_size (Rgn.bq HB.out)) : w.heap.size ≤ gb429)); have n3_ := Aside0.mk ((by rw [hg]; exact (below_size (Rgn.bq HB.out)) : w.heap.size ≤ gb429)); clear HB; have HB := n0_; have BK429 := n1_; have GW429 := n2_; have GE429 := n3_; clear n0_ n1_ n2_ n3_; clear hb hbox hg; have hcz5_0 : w4.cell? ⟨gb429, 0, none⟩ = some (.int .i64 a0_0) := (blk_cell BK429.out 0).trans rfl; have hcz5_1 : w4.cell? ⟨gb429, 1, none⟩ = some (.slice A0_1 l0_1.length c0_1) := (blk_cell BK429.out 1).trans rfl; have hcz5_2 : w4.cell? ⟨gb429, 2, none⟩ = some (.slice A0_2 l0_2.length c0_2) := (blk_cell BK429.out 2).trans rfl; have hfz5_0 := blk_frozen BK429.out 0; have hfz5_1 := blk_frozen BK429.out 1; have hfz5_2 := blk_frozen BK429.out 2) | (go_at_call 46; (with_reducible refine (impl_ValidTxn.calls k a0_0 _ _ l0_1 _ _ l0_2 true _ ?side1 ?side2 ?side3 ?side4 A2.out).mono ?_); (case side1 => exact Rgn.cq (Kd.C_below HR0_1.out HB.out)); (case side2 => exact HC0_1.out); (case side3 => exact Rgn.cq (Kd.C_below HR0_2.out HB.out)); (case side4 => exact HC0_2.out); rintro e w6 ⟨rfl, hb⟩; have n0_ := Aside0.mk (Rgn.bb BK429.out hb); have n1_ := Aside0.mk (below_step (Rgn.bq HB.out) hb); clear BK429; clear HB; have BK429 := n0_; have HB := n1_; clear n0_ n1_; (try clear hb); (try clear hb2); (try clear hk); (try clear hi); have hcz7_0 : w6.cell? ⟨gb429, 0, none⟩ = some (.int .i64 a0_0) := (blk_cell BK429.out 0).trans rfl; have hcz7_1 : w6.cell? ⟨gb429, 1, none⟩ = some (.slice A0_1 l0_1.length c0_1) := (blk_cell BK429.out 1).trans rfl; have hcz7_2 : w6.cell? ⟨gb429, 2, none⟩ = some (.slice A0_2 l0_2.length c0_2) := (blk_cell BK429.out 2).trans rfl; have hfz7_0 := blk_frozen BK429.out 0; have hfz7_1 := blk_frozen BK429.out 1; have hfz7_2 := blk_frozen BK429.out 2)))
    go_ret
    exact ⟨by first | rfl | (simp [errW_none, errW_some] <;> rfl) | (simp [*, errW_none, errW_some] <;> rfl), Rgn.bq HB.out⟩
  · replace c3 := Bool.eq_false_iff.mpr c3
    subst c3
    have H1 : (some 0) = some r := by rw [if_neg (show ¬ (false = true) by decide)] at H; exact H
    clear H
    have H := H1
    clear H1
    obtain rfl := Option.some.inj H
    go_enter Try.func29, Try.ntmps29
    go_wp2_with (first | ((with_reducible refine gate_dst (N := 1) rfl ?_); refine box_event ?hg (N := 1) ?hd (cs := #[.int .i64 a0_0, .slice A0_1 l0_1.length c0_1, .slice A0_2 l0_2.length c0_2]) (t := 34) ?hr ?_; (case hd => rfl); (case hg => rfl); (case hr => first | (go_simp; done) | (go_simp; rfl)); intro gb429 hg w8 hbox hb; have n0_ := Aside0.mk (below_step (Rgn.bq HB.out) hb); have n1_ := Aside0.mk (hbox); have n2_ := Aside0.mk ((by rw [hg]; exact (below_size (Rgn.bq HB.out)) : w.heap.size ≤ gb429)); have n3_ := Aside0.mk ((by rw [hg]; exact (below_size (Rgn.bq HB.out)) : w.heap.size ≤ gb429)); clear HB; have HB := n0_; have BK429 := n1_; have GW429 := n2_; have GE429 := n3_; clear n0_ n1_ n2_ n3_; clear hb hbox hg; have hcz9_0 : w8.cell? ⟨gb429, 0, none⟩ = some (.int .i64 a0_0) := (blk_cell BK429.out 0).trans rfl; have hcz9_1 : w8.cell? ⟨gb429, 1, none⟩ = some (.slice A0_1 l0_1.length c0_1) := (blk_cell BK429.out 1).trans rfl; have hcz9_2 : w8.cell? ⟨gb429, 2, none⟩ = some (.slice A0_2 l0_2.length c0_2) := (blk_cell BK429.out 2).trans rfl; have hfz9_0 := blk_frozen BK429.out 0; have hfz9_1 := blk_frozen BK429.out 1; have hfz9_2 := blk_frozen BK429.out 2) | (go_at_call 46; (with_reducible refine (impl_ValidTxn.calls k a0_0 _ _ l0_1 _ _ l0_2 false _ ?side1 ?side2 ?side3 ?side4 A2.out).mono ?_); (case side1 => exact Rgn.cq (Kd.C_below HR0_1.out HB.out)); (case side2 => exact HC0_1.out); (case side3 => exact Rgn.cq (Kd.C_below HR0_2.out HB.out)); (case side4 => exact HC0_2.out); rintro e w10 ⟨rfl, hb⟩; have n0_ := Aside0.mk (Rgn.bb BK429.out hb); have n1_ := Aside0.mk (below_step (Rgn.bq HB.out) hb); clear BK429; clear HB; have BK429 := n0_; have HB := n1_; clear n0_ n1_; (try clear hb); (try clear hb2); (try clear hk); (try clear hi)))
    repeat (go_quiet (first | ((with_reducible refine gate_dst (N := 1) rfl ?_); refine box_event ?hg (N := 1) ?hd (cs := #[.int .i64 a0_0, .slice A0_1 l0_1.length c0_1, .slice A0_2 l0_2.length c0_2]) (t := 34) ?hr ?_; (case hd => rfl); (case hg => rfl); (case hr => first | (go_simp; done) | (go_simp; rfl)); intro gb429 hg w8 hbox hb; have n0_ := Aside0.mk (below_step (Rgn.bq HB.out) hb); have n1_ := Aside0.mk (hbox); have n2_ := Aside0.mk ((by rw [hg]; exact (below_size (Rgn.bq HB.out)) : w.heap.size ≤ gb429)); have n3_ := Aside0.mk ((by rw [hg]; exact (below_size (Rgn.bq HB.out)) : w.heap.size ≤ gb429)); clear HB; have HB := n0_; have BK429 := n1_; have GW429 := n2_; have GE429 := n3_; clear n0_ n1_ n2_ n3_; clear hb hbox hg; have hcz9_0 : w8.cell? ⟨gb429, 0, none⟩ = some (.int .i64 a0_0) := (blk_cell BK429.out 0).trans rfl; have hcz9_1 : w8.cell? ⟨gb429, 1, none⟩ = some (.slice A0_1 l0_1.length c0_1) := (blk_cell BK429.out 1).trans rfl; have hcz9_2 : w8.cell? ⟨gb429, 2, none⟩ = some (.slice A0_2 l0_2.length c0_2) := (blk_cell BK429.out 2).trans rfl; have hfz9_0 := blk_frozen BK429.out 0; have hfz9_1 := blk_frozen BK429.out 1; have hfz9_2 := blk_frozen BK429.out 2) | (go_at_call 46; (with_reducible refine (impl_ValidTxn.calls k a0_0 _ _ l0_1 _ _ l0_2 false _ ?side1 ?side2 ?side3 ?side4 A2.out).mono ?_); (case side1 => exact Rgn.cq (Kd.C_below HR0_1.out HB.out)); (case side2 => exact HC0_1.out); (case side3 => exact Rgn.cq (Kd.C_below HR0_2.out HB.out)); (case side4 => exact HC0_2.out); rintro e w10 ⟨rfl, hb⟩; have n0_ := Aside0.mk (Rgn.bb BK429.out hb); have n1_ := Aside0.mk (below_step (Rgn.bq HB.out) hb); clear BK429; clear HB; have BK429 := n0_; have HB := n1_; clear n0_ n1_; (try clear hb); (try clear hb2); (try clear hk); (try clear hi))); try go_wp2_with (first | ((with_reducible refine gate_dst (N := 1) rfl ?_); refine box_event ?hg (N := 1) ?hd (cs := #[.int .i64 a0_0, .slice A0_1 l0_1.length c0_1, .slice A0_2 l0_2.length c0_2]) (t := 34) ?hr ?_; (case hd => rfl); (case hg => rfl); (case hr => first | (go_simp; done) | (go_simp; rfl)); intro gb429 hg w8 hbox hb; have n0_ := Aside0.mk (below_step (Rgn.bq HB.out) hb); have n1_ := Aside0.mk (hbox); have n2_ := Aside0.mk ((by rw [hg]; exact (below_size (Rgn.bq HB.out)) : w.heap.size ≤ gb429)); have n3_ := Aside0.mk ((by rw [hg]; exact (below_size (Rgn.bq HB.out)) : w.heap.size ≤ gb429)); clear HB; have HB := n0_; have BK429 := n1_; have GW429 := n2_; have GE429 := n3_; clear n0_ n1_ n2_ n3_; clear hb hbox hg; have hcz9_0 : w8.cell? ⟨gb429, 0, none⟩ = some (.int .i64 a0_0) := (blk_cell BK429.out 0).trans rfl; have hcz9_1 : w8.cell? ⟨gb429, 1, none⟩ = some (.slice A0_1 l0_1.length c0_1) := (blk_cell BK429.out 1).trans rfl; have hcz9_2 : w8.cell? ⟨gb429, 2, none⟩ = some (.slice A0_2 l0_2.length c0_2) := (blk_cell BK429.out 2).trans rfl; have hfz9_0 := blk_frozen BK429.out 0; have hfz9_1 := blk_frozen BK429.out 1; have hfz9_2 := blk_frozen BK429.out 2) | (go_at_call 46; (with_reducible refine (impl_ValidTxn.calls k a0_0 _ _ l0_1 _ _ l0_2 false _ ?side1 ?side2 ?side3 ?side4 A2.out).mono ?_); (case side1 => exact Rgn.cq (Kd.C_below HR0_1.out HB.out)); (case side2 => exact HC0_1.out); (case side3 => exact Rgn.cq (Kd.C_below HR0_2.out HB.out)); (case side4 => exact HC0_2.out); rintro e w10 ⟨rfl, hb⟩; have n0_ := Aside0.mk (Rgn.bb BK429.out hb); have n1_ := Aside0.mk (below_step (Rgn.bq HB.out) hb); clear BK429; clear HB; have BK429 := n0_; have HB := n1_; clear n0_ n1_; (try clear hb); (try clear hb2); (try clear hk); (try clear hi))))
    go_ret
    exact ⟨by first | rfl | (simp [errW_none, errW_some] <;> rfl) | (simp [*, errW_none, errW_some] <;> rfl), Rgn.bq HB.out⟩

/-! ### impl_nth: function 30 -/
def impl_nth.f (a0 : Int) (a1 : Int) (a2 : Int) : Option (Int) := if a2 = 0 then (none) else (some (wrap64 ((Int.tmod (wrap64 ((wrap64 (a0 - 1)) + a1)) a2) + 1)))
set_option maxHeartbeats 8000000 in
set_option maxRecDepth 100000 in
theorem impl_nth.calls (a0 : Int) (a1 : Int) (a2 : Int) (r : Int) (w : World) (h : impl_nth.f a0 a1 a2 = some r) :
    Calls Try.prog 30 #[.int .i64 a0, .int .i64 a1, .int .i64 a2] w fun e w' => e = .returned (.int .i64 r) ∧ Drawn0 w w' := by
  have H : (if a2 = 0 then (none) else (some (wrap64 ((Int.tmod (wrap64 ((wrap64 (a0 - 1)) + a1)) a2) + 1)))) = some r := h
  clear h
  by_cases c4 : a2 = 0
  · rw [if_pos c4] at H
    exact absurd H (by simp)
  · rw [if_neg c4] at H
    have c4b0 : (a2 == 0) = false := beq_eq_false_iff_ne.mpr c4
    have c4b1 : (a2 != 0) = true := bne_iff_ne.mpr c4
    obtain rfl := Option.some.inj H
    go_enter Try.func30, Try.ntmps30
    go_wp2
    go_ret
    exact ⟨by first | rfl | (simp; done) | (simp [*]; done), by repeat (first | exact Drawn0.refl _ | apply Drawn0.step)⟩

/-! ### impl_ValidLog: function 45 -/
def impl_ValidLog.f (k : Nat) (a0_0 : Int) (a0_1 : Int) (a0_2 : Int) (a0_3 : Int) (a0_4 : Int) : Option (Bool) := spec_ValidLog.f k a0_0 a0_1 a0_2 a0_3 a0_4
theorem impl_ValidLog.mono : ∀ a0 a1 a2 a3 a4 k, LeO (impl_ValidLog.f k a0 a1 a2 a3 a4) (impl_ValidLog.f (k + 1) a0 a1 a2 a3 a4) :=spec_ValidLog.mono

def vlIn (a lo hi : Int) : Bool := decide (lo ≤ a ∧ a ≤ hi)
theorem vl_in (a b c : Int) (w : World) : Calls Try.prog 60 #[.int .i64 a, .int .i64 b, .int .i64 c] w fun e w' => e = .returned (.bool (vlIn a b c)) ∧ ∃ n, w' = w.drewN n := by
  refine (impl_in.calls a b c (vlIn a b c) w ?_).mono fun _ _ h => ⟨h.1, h.2.out⟩
  unfold impl_in.f vlIn
  by_cases h : a ≥ b
  · rw [if_pos h]; congr 1; rw [decide_eq_decide]; omega
  · rw [if_neg h]; congr 1; exact (decide_eq_false (by omega)).symm
theorem vl_t {a b c : Int} (w : World) (h : vlIn a b c = true) : Calls Try.prog 60 #[.int .i64 a, .int .i64 b, .int .i64 c] w fun e w' => e = .returned (.bool true) ∧ ∃ n, w' = w.drewN n := by rw [← h]; exact vl_in a b c w
theorem vl_f {a b c : Int} (w : World) (h : vlIn a b c = false) : Calls Try.prog 60 #[.int .i64 a, .int .i64 b, .int .i64 c] w fun e w' => e = .returned (.bool false) ∧ ∃ n, w' = w.drewN n := by rw [← h]; exact vl_in a b c w
theorem vl_j0 {k : Nat} {a b c d e : Int} {r : Bool} (h : spec_ValidLog.j0 k true a b c d e = some r) : r = false := by
  cases k with
  | zero => cases h
  | succ k => simp only [spec_ValidLog.j0] at h; rw [if_pos trivial] at h; exact (Option.some.inj h).symm
def vlAll (s st q hd us : Int) : Prop := vlIn s 16 512 = true ∧ vlIn st 0 s = true ∧ vlIn q 1 4294967295 = true ∧ vlIn hd 1 s = true ∧ vlIn us 0 s = true ∧ (st = 0 → us = 0) ∧ (st ≠ 0 → impl_nth.f st us s = some hd)
theorem vl_of {k : Nat} {s st q hd us : Int} {r : Bool} (h : spec_ValidLog.f k s st q hd us = some r) : r = true ↔ vlAll s st q hd us := by
  have no : ∀ {p : Prop}, r = false → ¬ p → (r = true ↔ p) := fun hr hp => ⟨fun h => (by rw [hr] at h; cases h), fun h => absurd h hp⟩
  unfold vlAll vlIn
  simp only [decide_eq_true_eq]
  unfold spec_ValidLog.f spec_l3GoodSeq.f at h
  by_cases c1 : q ≥ 1
  rotate_left
  · rw [if_neg c1] at h; simp only [Option.bind_some] at h; rw [if_neg (by simp)] at h
    exact no (vl_j0 h) (by omega)
  rw [if_pos c1] at h; simp only [Option.bind_some, decide_eq_true_eq] at h
  by_cases c2 : q ≤ 4294967295
  rotate_left
  · rw [if_neg c2] at h; exact no (vl_j0 h) (by omega)
  rw [if_pos c2] at h
  by_cases c3 : s < 16
  · rw [if_pos c3] at h; exact no (vl_j0 h) (by omega)
  rw [if_neg c3] at h
  by_cases c4 : s > 512
  · rw [if_pos c4] at h; exact no (vl_j0 h) (by omega)
  rw [if_neg c4] at h
  by_cases c5 : st < 0
  · rw [if_pos c5] at h; exact no (vl_j0 h) (by omega)
  rw [if_neg c5] at h
  by_cases c6 : st > s
  · rw [if_pos c6] at h; exact no (vl_j0 h) (by omega)
  rw [if_neg c6] at h
  by_cases c7 : hd < 1
  · rw [if_pos c7] at h; exact no (vl_j0 h) (by omega)
  rw [if_neg c7] at h
  by_cases c8 : hd > s
  · rw [if_pos c8] at h; exact no (vl_j0 h) (by omega)
  rw [if_neg c8] at h
  by_cases c9 : us < 0
  · rw [if_pos c9] at h; exact no (vl_j0 h) (by omega)
  rw [if_neg c9] at h
  by_cases c10 : us > s
  · rw [decide_eq_true c10] at h; exact no (vl_j0 h) (by omega)
  rw [decide_eq_false c10] at h
  cases k with
  | zero => cases h
  | succ k =>
    simp only [spec_ValidLog.j0] at h
    rw [if_neg (by simp)] at h
    by_cases c11 : st = 0
    · rw [if_pos c11] at h
      obtain rfl := Option.some.inj h
      rw [beq_iff_eq]
      exact ⟨fun e => ⟨by omega, by omega, by omega, by omega, by omega, fun _ => e, fun e2 => absurd c11 e2⟩, fun e => e.2.2.2.2.2.1 c11⟩
    · rw [if_neg c11] at h
      obtain ⟨t, h1, h⟩ := Option.bind_eq_some_iff.1 h
      obtain rfl := Option.some.inj h
      have h2 : impl_nth.f st us s = some t := h1
      rw [beq_iff_eq]
      exact ⟨fun e => ⟨by omega, by omega, by omega, by omega, by omega, fun e2 => absurd e2 c11, fun _ => by rw [h2, e]⟩, fun e => by have := e.2.2.2.2.2.2 c11; rw [h2] at this; exact (Option.some.inj this).symm⟩
set_option maxHeartbeats 8000000 in
set_option maxRecDepth 100000 in
theorem impl_ValidLog.calls (k : Nat) (a0_0 : Int) (a0_1 : Int) (a0_2 : Int) (a0_3 : Int) (a0_4 : Int) (r : Bool) (w : World) (h : impl_ValidLog.f k a0_0 a0_1 a0_2 a0_3 a0_4 = some r) :
    Calls Try.prog 45 #[.agg #[.int .i64 a0_0, .int .i64 a0_1, .int .i64 a0_2, .int .i64 a0_3, .int .i64 a0_4]] w fun e w' => e = .returned (.bool r) ∧ Below w.heap.size w w' := by
  have hv : r = true ↔ vlAll a0_0 a0_1 a0_2 a0_3 a0_4 := vl_of h
  clear h
  have HB := Aside0.mk (Below.refl w.heap.size w)
  have c1 : vlIn a0_0 16 512 = true ∨ vlIn a0_0 16 512 = false := by cases vlIn a0_0 16 512 <;> simp
  rcases c1 with c1 | c1
  rotate_left
  · obtain rfl : r = false := Bool.eq_false_iff.2 fun e => by rw [(hv.1 e).1] at c1; cases c1
    clear hv
    go_enter Try.func45, Try.ntmps45
    go_wp2
    go_quiet ((go_at_call 60; first | exact Calls.quiet_of (vl_t _ (by assumption)) | exact Calls.quiet_of (vl_f _ (by assumption))))
    go_wp2
    go_ret
    exact ⟨by first | rfl | (simp [*]; done), by repeat (first | (with_reducible first | exact HB.out | apply below_alloc | apply pw_below_drewN | apply below_drew1) | exact HB.out)⟩
  have c2 : vlIn a0_1 0 a0_0 = true ∨ vlIn a0_1 0 a0_0 = false := by cases vlIn a0_1 0 a0_0 <;> simp
  rcases c2 with c2 | c2
  rotate_left
  · obtain rfl : r = false := Bool.eq_false_iff.2 fun e => by rw [(hv.1 e).2.1] at c2; cases c2
    clear hv
    go_enter Try.func45, Try.ntmps45
    go_wp2
    go_quiet ((go_at_call 60; first | exact Calls.quiet_of (vl_t _ (by assumption)) | exact Calls.quiet_of (vl_f _ (by assumption))))
    go_wp2
    go_ret
    exact ⟨by first | rfl | (simp [*]; done), by repeat (first | (with_reducible first | exact HB.out | apply below_alloc | apply pw_below_drewN | apply below_drew1) | exact HB.out)⟩
  have c3 : vlIn a0_2 1 4294967295 = true ∨ vlIn a0_2 1 4294967295 = false := by cases vlIn a0_2 1 4294967295 <;> simp
  rcases c3 with c3 | c3
  rotate_left
  · obtain rfl : r = false := Bool.eq_false_iff.2 fun e => by rw [(hv.1 e).2.2.1] at c3; cases c3
    clear hv
    go_enter Try.func45, Try.ntmps45
    go_wp2
    go_quiet ((go_at_call 60; first | exact Calls.quiet_of (vl_t _ (by assumption)) | exact Calls.quiet_of (vl_f _ (by assumption))))
    go_wp2
    go_ret
    exact ⟨by first | rfl | (simp [*]; done), by repeat (first | (with_reducible first | exact HB.out | apply below_alloc | apply pw_below_drewN | apply below_drew1) | exact HB.out)⟩
  have c4 : vlIn a0_3 1 a0_0 = true ∨ vlIn a0_3 1 a0_0 = false := by cases vlIn a0_3 1 a0_0 <;> simp
  rcases c4 with c4 | c4
  rotate_left
  · obtain rfl : r = false := Bool.eq_false_iff.2 fun e => by rw [(hv.1 e).2.2.2.1] at c4; cases c4
    clear hv
    go_enter Try.func45, Try.ntmps45
    go_wp2
    go_quiet ((go_at_call 60; first | exact Calls.quiet_of (vl_t _ (by assumption)) | exact Calls.quiet_of (vl_f _ (by assumption))))
    go_wp2
    go_ret
    exact ⟨by first | rfl | (simp [*]; done), by repeat (first | (with_reducible first | exact HB.out | apply below_alloc | apply pw_below_drewN | apply below_drew1) | exact HB.out)⟩
  have c5 : vlIn a0_4 0 a0_0 = true ∨ vlIn a0_4 0 a0_0 = false := by cases vlIn a0_4 0 a0_0 <;> simp
  rcases c5 with c5 | c5
  rotate_left
  · obtain rfl : r = false := Bool.eq_false_iff.2 fun e => by rw [(hv.1 e).2.2.2.2.1] at c5; cases c5
    clear hv
    go_enter Try.func45, Try.ntmps45
    go_wp2
    go_quiet ((go_at_call 60; first | exact Calls.quiet_of (vl_t _ (by assumption)) | exact Calls.quiet_of (vl_f _ (by assumption))))
    go_wp2
    go_ret
    exact ⟨by first | rfl | (simp [*]; done), by repeat (first | (with_reducible first | exact HB.out | apply below_alloc | apply pw_below_drewN | apply below_drew1) | exact HB.out)⟩
  by_cases c6 : a0_1 = 0
  · have c6a : (a0_1 == 0) = true := beq_iff_eq.mpr c6
    have c6b : (a0_1 != 0) = false := by simp [c6]
    by_cases c7 : a0_4 = 0
    · obtain rfl : r = true := hv.2 ⟨c1, c2, c3, c4, c5, fun _ => c7, fun e => absurd c6 e⟩
      have c7a : (a0_4 == 0) = true := beq_iff_eq.mpr c7
      clear hv c6 c7
      go_enter Try.func45, Try.ntmps45
      go_wp2
      go_quiet ((go_at_call 60; first | exact Calls.quiet_of (vl_t _ (by assumption)) | exact Calls.quiet_of (vl_f _ (by assumption))))
      go_wp2
      go_ret
      exact ⟨by first | rfl | (simp [*]; done), by repeat (first | (with_reducible first | exact HB.out | apply below_alloc | apply pw_below_drewN | apply below_drew1) | exact HB.out)⟩
    · obtain rfl : r = false := Bool.eq_false_iff.2 fun e => c7 ((hv.1 e).2.2.2.2.2.1 c6)
      have c7a : (a0_4 == 0) = false := beq_eq_false_iff_ne.mpr c7
      clear hv c6 c7
      go_enter Try.func45, Try.ntmps45
      go_wp2
      go_quiet ((go_at_call 60; first | exact Calls.quiet_of (vl_t _ (by assumption)) | exact Calls.quiet_of (vl_f _ (by assumption))))
      go_wp2
      go_ret
      exact ⟨by first | rfl | (simp [*]; done), by repeat (first | (with_reducible first | exact HB.out | apply below_alloc | apply pw_below_drewN | apply below_drew1) | exact HB.out)⟩
  · have c6a : (a0_1 == 0) = false := beq_eq_false_iff_ne.mpr c6
    have c6b : (a0_1 != 0) = true := by simp [c6]
    have hs0 : a0_0 ≠ 0 := by unfold vlIn at c1; simp at c1; omega
    obtain ⟨t, ht⟩ : ∃ t, impl_nth.f a0_1 a0_4 a0_0 = some t := by unfold impl_nth.f; rw [if_neg hs0]; exact ⟨_, rfl⟩
    have hn : ∀ W : World, Calls Try.prog 30 #[.int .i64 a0_1, .int .i64 a0_4, .int .i64 a0_0] W fun e w' => e = .returned (.int .i64 t) ∧ ∃ n, w' = W.drewN n := fun W => (impl_nth.calls a0_1 a0_4 a0_0 t W ht).mono fun _ _ h => ⟨h.1, h.2.out⟩
    by_cases c7 : a0_3 = t
    · obtain rfl : r = true := hv.2 ⟨c1, c2, c3, c4, c5, fun e => absurd e c6, fun _ => by rw [ht, c7]⟩
      have c7a : (a0_3 == t) = true := beq_iff_eq.mpr c7
      have HN := Aside0.mk hn
      clear hv c6 c7 hn ht hs0
      go_enter Try.func45, Try.ntmps45
      go_wp2
      go_quiet (first | (go_at_call 60; first | exact Calls.quiet_of (vl_t _ (by assumption)) | exact Calls.quiet_of (vl_f _ (by assumption))) | (go_at_call 30; exact Calls.quiet_of (HN.out _)))
      go_wp2
      go_ret
      exact ⟨by first | rfl | (simp [*]; done), by repeat (first | (with_reducible first | exact HB.out | apply below_alloc | apply pw_below_drewN | apply below_drew1) | exact HB.out)⟩
    · obtain rfl : r = false := Bool.eq_false_iff.2 fun e => by
        have := (hv.1 e).2.2.2.2.2.2 c6; rw [ht] at this; exact c7 (Option.some.inj this).symm
      have c7a : (a0_3 == t) = false := beq_eq_false_iff_ne.mpr c7
      have HN := Aside0.mk hn
      clear hv c6 c7 hn ht hs0
      go_enter Try.func45, Try.ntmps45
      go_wp2
      go_quiet (first | (go_at_call 60; first | exact Calls.quiet_of (vl_t _ (by assumption)) | exact Calls.quiet_of (vl_f _ (by assumption))) | (go_at_call 30; exact Calls.quiet_of (HN.out _)))
      go_wp2
      go_ret
      exact ⟨by first | rfl | (simp [*]; done), by repeat (first | (with_reducible first | exact HB.out | apply below_alloc | apply pw_below_drewN | apply below_drew1) | exact HB.out)⟩


end Go.Proofs.Ytkehfdadplpaeaa.PFnExactLogNext
