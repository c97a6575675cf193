-- written by a program of this session (wip/src/print2.py)
import Derived.Test.YtejomghgmdmebaaPFnExactTxnLengthx0
import Derived.Test.YtejomghgmdmebaaPFnExactTxnLengthx1
import Derived.Test.YtejomghgmdmebaaPFnExactTxnLengthx2
import Derived.Test.YtejomghgmdmebaaPFnExactTxnLengthx9
namespace Go.Proofs.Ytejomghgmdmebaa.PFnExactTxnLength
open Go.RowKit Go.Proofs.YtejomghgmdmebaaW.PrintWords Go.Proofs.YtejomghgmdmebaaW.PrintLast Go.Proofs.YtejomghgmdmebaaW.PrintMore
attribute [local go_sem] max2_int min2_int max_two min_two max_three min_three max_four min_four   -- for this text's walks alone
set_option linter.unusedVariables false
set_option linter.unusedSimpArgs false

/-! ### impl_ValidTxn: function 16 -/
mutual
def impl_ValidTxn.j0 : Nat → Bool → Int → List (S62) → List Int → Option (Bool)
  | 0, _, _, _, _ => none
  | k + 1, x33, x415000, x415001, x415002 => if x33 = true then (some false) else (impl_ValidTxn.l0 k ([] : List Int) x415001 (x415001.length : Int) 0 x415000 x415001 x415002)
def impl_ValidTxn.l0 : Nat → List Int → List (S62) → Int → Int → Int → List (S62) → List Int → Option (Bool)
  | 0, _, _, _, _, _, _, _ => none
  | k + 1, x4, x35, x36, x37, x415000, x415001, x415002 => if x37 < x36 then (if 0 ≤ x37 then (if x37 < (x35.length : Int) then (if (((rd_T62 x35 x37).f1).length : Int) = 64 then (impl_ValidTxn.l1 k x4 x35 x36 x37 x415002 (x415002.length : Int) 0 x415000 x415001 x415002 ((rd_T62 x35 x37).f0) ((rd_T62 x35 x37).f1)) else (some false)) else (none)) else (none)) else ((impl_rising.f k x4).bind fun t417 => (some t417))
def impl_ValidTxn.l1 : Nat → List Int → List (S62) → Int → Int → List Int → Int → Int → Int → List (S62) → List Int → Int → List Int → Option (Bool)
  | 0, _, _, _, _, _, _, _, _, _, _, _, _ => none
  | k + 1, x4, x35, x36, x37, x46, x47, x48, x415000, x415001, x415002, x420000, x420001 => if x48 < x47 then (if 0 ≤ x48 then (if x48 < (x46.length : Int) then (if (rd x46 x48) = x420000 then (some false) else (impl_ValidTxn.l1 k x4 x35 x36 x37 x46 x47 (wrap64 (x48 + 1)) x415000 x415001 x415002 x420000 x420001)) else (none)) else (none)) else (if x4.length < 17592186044416 then (impl_ValidTxn.l0 k (x4 ++ [x420000]) x35 x36 (wrap64 (x37 + 1)) x415000 x415001 x415002) else (none))
end
def impl_ValidTxn.f (k : Nat) (a0_0 : Int) (l0_1 : List (S62)) (l0_2 : List Int) : Option (Bool) := if (wrap64 ((l0_1.length : Int) + (l0_2.length : Int))) < 1 then (impl_ValidTxn.j0 k true a0_0 l0_1 l0_2) else (if (wrap64 ((l0_1.length : Int) + (l0_2.length : Int))) > 128 then (impl_ValidTxn.j0 k true a0_0 l0_1 l0_2) else ((impl_in.f a0_0 1 4294967295).bind fun t415 => (if t415 = true then ((impl_rising.f k l0_2).bind fun t416 => (impl_ValidTxn.j0 k (!t416) a0_0 l0_1 l0_2)) else (impl_ValidTxn.j0 k true a0_0 l0_1 l0_2))))
theorem impl_ValidTxn.mono_l : ∀ k, (∀ y0 y1 y2 y3, LeO (impl_ValidTxn.j0 k y0 y1 y2 y3) (impl_ValidTxn.j0 (k + 1) y0 y1 y2 y3)) ∧ (∀ y0 y1 y2 y3 y4 y5 y6, LeO (impl_ValidTxn.l0 k y0 y1 y2 y3 y4 y5 y6) (impl_ValidTxn.l0 (k + 1) y0 y1 y2 y3 y4 y5 y6)) ∧ (∀ y0 y1 y2 y3 y4 y5 y6 y7 y8 y9 y10 y11, LeO (impl_ValidTxn.l1 k y0 y1 y2 y3 y4 y5 y6 y7 y8 y9 y10 y11) (impl_ValidTxn.l1 (k + 1) y0 y1 y2 y3 y4 y5 y6 y7 y8 y9 y10 y11))
  | 0 => ⟨fun _ _ _ _ r h => by simp [impl_ValidTxn.j0] at h, fun _ _ _ _ _ _ _ r h => by simp [impl_ValidTxn.l0] at h, fun _ _ _ _ _ _ _ _ _ _ _ _ r h => by simp [impl_ValidTxn.l1] at h⟩
  | k + 1 => by
    obtain ⟨ih0, ih1, ih2⟩ := impl_ValidTxn.mono_l k
    refine ⟨?_, ?_, ?_⟩
    · intro y0 y1 y2 y3
      unfold impl_ValidTxn.j0
      repeat' first
      | (with_reducible exact ih0 _ _ _ _)
      | (with_reducible exact ih1 _ _ _ _ _ _ _)
      | (with_reducible exact ih2 _ _ _ _ _ _ _ _ _ _ _ _)
      | (with_reducible exact impl_rising.mono _ _)
      | (with_reducible exact LeO.refl _)
      | (with_reducible exact LeO.none _)
      | (with_reducible refine LeO.ite ?_ ?_)
      | (with_reducible refine LeO.bind ?_ (fun _ => ?_))
      | exact ih0 _ _ _ _
      | exact ih1 _ _ _ _ _ _ _
      | exact ih2 _ _ _ _ _ _ _ _ _ _ _ _
      | exact impl_rising.mono _ _
      | exact LeO.none _
      | refine LeO.ite ?_ ?_
      | refine LeO.bind ?_ (fun _ => ?_)
    · intro y0 y1 y2 y3 y4 y5 y6
      unfold impl_ValidTxn.l0
      repeat' first
      | (with_reducible exact ih0 _ _ _ _)
      | (with_reducible exact ih1 _ _ _ _ _ _ _)
      | (with_reducible exact ih2 _ _ _ _ _ _ _ _ _ _ _ _)
      | (with_reducible exact impl_rising.mono _ _)
      | (with_reducible exact LeO.refl _)
      | (with_reducible exact LeO.none _)
      | (with_reducible refine LeO.ite ?_ ?_)
      | (with_reducible refine LeO.bind ?_ (fun _ => ?_))
      | exact ih0 _ _ _ _
      | exact ih1 _ _ _ _ _ _ _
      | exact ih2 _ _ _ _ _ _ _ _ _ _ _ _
      | exact impl_rising.mono _ _
      | exact LeO.none _
      | refine LeO.ite ?_ ?_
      | refine LeO.bind ?_ (fun _ => ?_)
    · intro y0 y1 y2 y3 y4 y5 y6 y7 y8 y9 y10 y11
      unfold impl_ValidTxn.l1
      repeat' first
      | (with_reducible exact ih0 _ _ _ _)
      | (with_reducible exact ih1 _ _ _ _ _ _ _)
      | (with_reducible exact ih2 _ _ _ _ _ _ _ _ _ _ _ _)
      | (with_reducible exact impl_rising.mono _ _)
      | (with_reducible exact LeO.refl _)
      | (with_reducible exact LeO.none _)
      | (with_reducible refine LeO.ite ?_ ?_)
      | (with_reducible refine LeO.bind ?_ (fun _ => ?_))
      | exact ih0 _ _ _ _
      | exact ih1 _ _ _ _ _ _ _
      | exact ih2 _ _ _ _ _ _ _ _ _ _ _ _
      | exact impl_rising.mono _ _
      | exact LeO.none _
      | refine LeO.ite ?_ ?_
      | refine LeO.bind ?_ (fun _ => ?_)
theorem impl_ValidTxn.mono : ∀ a0 a1 a2 k, LeO (impl_ValidTxn.f k a0 a1 a2) (impl_ValidTxn.f (k + 1) a0 a1 a2) := by
  intro a0 a1 a2 k
  obtain ⟨ih0, ih1, ih2⟩ := impl_ValidTxn.mono_l k
  unfold impl_ValidTxn.f
  repeat' first
      | (with_reducible exact ih0 _ _ _ _)
      | (with_reducible exact ih1 _ _ _ _ _ _ _)
      | (with_reducible exact ih2 _ _ _ _ _ _ _ _ _ _ _ _)
      | (with_reducible exact impl_rising.mono _ _)
      | (with_reducible exact LeO.refl _)
      | (with_reducible exact LeO.none _)
      | (with_reducible refine LeO.ite ?_ ?_)
      | (with_reducible refine LeO.bind ?_ (fun _ => ?_))
      | exact ih0 _ _ _ _
      | exact ih1 _ _ _ _ _ _ _
      | exact ih2 _ _ _ _ _ _ _ _ _ _ _ _
      | exact impl_rising.mono _ _
      | exact LeO.none _
      | refine LeO.ite ?_ ?_
      | refine LeO.bind ?_ (fun _ => ?_)
set_option maxHeartbeats 8000000 in
set_option maxRecDepth 100000 in
theorem impl_ValidTxn.calls (k : Nat) (a0_0 : Int) (A0_1 : Option Addr) (c0_1 : Nat) (l0_1 : List (S62)) (A0_2 : Option Addr) (c0_2 : Nat) (l0_2 : List Int) (r : Bool) (w : World) (hr0_1 : Kd.C k62 w A0_1 l0_1.length l0_1) (hc0_1 : l0_1.length ≤ c0_1) (hr0_2 : Kd.C (Kd.int .i64) w A0_2 l0_2.length l0_2) (hc0_2 : l0_2.length ≤ c0_2) (h : impl_ValidTxn.f k a0_0 l0_1 l0_2 = some r) :
    Calls Try.prog 16 #[.agg #[.int .i64 a0_0, .slice A0_1 l0_1.length c0_1, .slice A0_2 l0_2.length c0_2]] w fun e w' => e = .returned (.bool r) ∧ Below w.heap.size w w' := by
  have hu37 := Try.underlying37
  have hu62 := Try.underlying62
  have HR0_1 := Aside0.mk hr0_1
  have HC0_1 := Aside0.mk hc0_1
  clear hr0_1 hc0_1
  have HR0_2 := Aside0.mk hr0_2
  have HC0_2 := Aside0.mk hc0_2
  clear hr0_2 hc0_2
  have HB := Aside0.mk (Below.refl w.heap.size w)
  have H : (if (wrap64 ((l0_1.length : Int) + (l0_2.length : Int))) < 1 then (impl_ValidTxn.j0 k true a0_0 l0_1 l0_2) else (if (wrap64 ((l0_1.length : Int) + (l0_2.length : Int))) > 128 then (impl_ValidTxn.j0 k true a0_0 l0_1 l0_2) else ((impl_in.f a0_0 1 4294967295).bind fun t415 => (if t415 = true then ((impl_rising.f k l0_2).bind fun t416 => (impl_ValidTxn.j0 k (!t416) a0_0 l0_1 l0_2)) else (impl_ValidTxn.j0 k true a0_0 l0_1 l0_2))))) = some r := h
  clear h
  have HC2 := Aside0.mk H
  clear H
  go_enter Try.func16, Try.ntmps16
  go_upto_region 2 with (first | ((with_reducible refine gate_dst (N := 1) rfl ?_); refine box_event ?hg (N := 1) ?hd (cs := #[.int .i64 a0_0, .slice A0_1 l0_1.length c0_1, .slice A0_2 l0_2.length c0_2]) (t := 37) ?hr ?_; (case hd => rfl); (case hg => rfl); (case hr => first | (go_simp; done) | (go_simp; rfl)); intro gb414 hg w3 hbox hb; have n0_ := Aside0.mk (below_step (by repeat (first | (with_reducible first | exact HB.out | apply below_alloc | apply pw_below_drewN | apply below_drew1) | exact HB.out)) hb); have n1_ := Aside0.mk (hbox); have n2_ := Aside0.mk ((by rw [hg]; exact (below_size (by repeat (first | (with_reducible first | exact HB.out | apply below_alloc | apply pw_below_drewN | apply below_drew1) | exact HB.out))) : w.heap.size ≤ gb414)); have n3_ := Aside0.mk ((by rw [hg]; exact (below_size (by repeat (first | (with_reducible first | exact HB.out | apply below_alloc | apply pw_below_drewN | apply below_drew1) | exact HB.out))) : w.heap.size ≤ gb414)); clear HB; have HB := n0_; have BK414 := n1_; have GW414 := n2_; have GE414 := n3_; clear n0_ n1_ n2_ n3_; clear hb hbox hg; have hcz4_0 : w3.cell? ⟨gb414, 0, none⟩ = some (.int .i64 a0_0) := (blk_cell BK414.out 0).trans rfl; have hcz4_1 : w3.cell? ⟨gb414, 1, none⟩ = some (.slice A0_1 l0_1.length c0_1) := (blk_cell BK414.out 1).trans rfl; have hcz4_2 : w3.cell? ⟨gb414, 2, none⟩ = some (.slice A0_2 l0_2.length c0_2) := (blk_cell BK414.out 2).trans rfl; have hfz4_0 := blk_frozen BK414.out 0; have hfz4_1 := blk_frozen BK414.out 1; have hfz4_2 := blk_frozen BK414.out 2))
  (try simp only [Act.put, List.setIfInBounds_toArray, List.set_cons_zero, List.set_cons_succ])
  go_cut [33] (fun v33 wc => ∃ (kq : Nat) (x33_1 : Bool), v33 = .bool x33_1 ∧ Aside0 (impl_ValidTxn.j0 kq x33_1 a0_0 l0_1 l0_2 = some r) ∧ Aside0 (kq ≤ k) ∧ Aside0 (wc.heap[gb414]? = some (.cells #[.int .i64 a0_0, (.slice A0_1 l0_1.length c0_1), (.slice A0_2 l0_2.length c0_2)] 37 (0, 0))) ∧ Aside0 (Below w.heap.size w wc))
  case first =>
    have H := HC2.out
    clear HC2
    by_cases c5 : (wrap64 ((l0_1.length : Int) + (l0_2.length : Int))) < 1
    · rw [if_pos c5] at H
      have c5b0 : decide ((wrap64 ((l0_1.length : Int) + (l0_2.length : Int))) < 1) = true := decide_eq_true c5
      clear c5
      (first | rw [c5b0] | (simp only [i64_w, i32_w]; rw [c5b0]) | skip)
      have H' := Aside0.mk H
      clear H
      go_wp2
      go_meet
      case rel => exact ⟨_, (true), (by first | rfl | (simp; done) | (simp [*]; done)), H', ⟨by first | omega | exact Nat.le_refl _⟩, ⟨by (with_reducible repeat (first | refine blk_drewN ?_ _ | refine blk_drew ?_ | refine blk_alloc ?_ _)); exact BK414.out⟩, ⟨by repeat (first | (with_reducible first | exact HB.out | apply below_alloc | apply pw_below_drewN | apply below_drew1 | refine below_set ?_ GE414.out) | exact HB.out)⟩⟩
    · rw [if_neg c5] at H
      have c5b0 : decide ((wrap64 ((l0_1.length : Int) + (l0_2.length : Int))) < 1) = false := decide_eq_false c5
      clear c5
      (first | rw [c5b0] | (simp only [i64_w, i32_w]; rw [c5b0]) | skip)
      by_cases c6 : (wrap64 ((l0_1.length : Int) + (l0_2.length : Int))) > 128
      · rw [if_pos c6] at H
        have c6b0 : decide (128 < (wrap64 ((l0_1.length : Int) + (l0_2.length : Int)))) = true := decide_eq_true c6
        clear c6
        have H' := Aside0.mk H
        clear H
        go_wp2
        go_meet
        case rel => exact ⟨_, (true), (by first | rfl | (simp; done) | (simp [*]; done)), H', ⟨by first | omega | exact Nat.le_refl _⟩, ⟨by (with_reducible repeat (first | refine blk_drewN ?_ _ | refine blk_drew ?_ | refine blk_alloc ?_ _)); exact BK414.out⟩, ⟨by repeat (first | (with_reducible first | exact HB.out | apply below_alloc | apply pw_below_drewN | apply below_drew1 | refine below_set ?_ GE414.out) | exact HB.out)⟩⟩
      · rw [if_neg c6] at H
        have c6b0 : decide (128 < (wrap64 ((l0_1.length : Int) + (l0_2.length : Int)))) = false := decide_eq_false c6
        clear c6
        replace H := Option.bind_eq_some_iff.mp H
        obtain ⟨t415, A70, H⟩ := H
        replace H : (if t415 = true then ((impl_rising.f k l0_2).bind fun t416 => (impl_ValidTxn.j0 k (!t416) a0_0 l0_1 l0_2)) else (impl_ValidTxn.j0 k true a0_0 l0_1 l0_2)) = some r := H
        have A7 := Aside0.mk A70
        clear A70
        by_cases c8 : t415 = true
        · subst c8
          have H1 : ((impl_rising.f k l0_2).bind fun t416 => (impl_ValidTxn.j0 k (!t416) a0_0 l0_1 l0_2)) = some r := by rw [if_pos rfl] at H; exact H
          clear H
          have H := H1
          clear H1
          replace H := Option.bind_eq_some_iff.mp H
          obtain ⟨t416, A90, H⟩ := H
          replace H : (impl_ValidTxn.j0 k (!t416) a0_0 l0_1 l0_2) = some r := H
          have A9 := Aside0.mk A90
          clear A90
          have H' := Aside0.mk H
          clear H
          have hcz10_0 : w3.cell? ⟨gb414, 0, none⟩ = some (.int .i64 a0_0) := (blk_cell BK414.out 0).trans rfl
          have hcz10_1 : w3.cell? ⟨gb414, 1, none⟩ = some (.slice A0_1 l0_1.length c0_1) := (blk_cell BK414.out 1).trans rfl
          have hcz10_2 : w3.cell? ⟨gb414, 2, none⟩ = some (.slice A0_2 l0_2.length c0_2) := (blk_cell BK414.out 2).trans rfl
          have hfz10_0 := blk_frozen BK414.out 0
          have hfz10_1 := blk_frozen BK414.out 1
          have hfz10_2 := blk_frozen BK414.out 2
          go_wp2_with (first | (go_at_call 38; (with_reducible refine (impl_in.calls a0_0 1 4294967295 true _ A7.out).mono ?_); rintro e w' ⟨rfl, ⟨nd, rfl⟩⟩) | (go_at_call 39; (with_reducible refine (impl_rising.calls k _ _ l0_2 t416 _ ?side1 ?side2 A9.out).mono ?_); (case side1 => repeat (first | exact (Kd.C_below HR0_2.out (by repeat (first | (with_reducible first | exact HB.out | apply below_alloc | apply pw_below_drewN | apply below_drew1 | refine below_set ?_ GE414.out) | exact HB.out))) | (with_reducible refine Kd.C_alloc ?_ _) | (with_reducible refine Kd.C_drewN ?_ _) | (with_reducible refine Kd.C_drew ?_))); (case side2 => exact HC0_2.out); rintro e w' ⟨rfl, ⟨nd, rfl⟩⟩))
          go_meet
          case rel => exact ⟨_, (!t416), (by first | rfl | (simp; done) | (simp [*]; done)), H', ⟨by first | omega | exact Nat.le_refl _⟩, ⟨by (with_reducible repeat (first | refine blk_drewN ?_ _ | refine blk_drew ?_ | refine blk_alloc ?_ _)); exact BK414.out⟩, ⟨by repeat (first | (with_reducible first | exact HB.out | apply below_alloc | apply pw_below_drewN | apply below_drew1 | refine below_set ?_ GE414.out) | exact HB.out)⟩⟩
        · replace c8 := Bool.eq_false_iff.mpr c8
          subst c8
          have H1 : (impl_ValidTxn.j0 k true a0_0 l0_1 l0_2) = some r := by rw [if_neg (show ¬ (false = true) by decide)] at H; exact H
          clear H
          have H := H1
          clear H1
          have H' := Aside0.mk H
          clear H
          have hcz11_0 : w3.cell? ⟨gb414, 0, none⟩ = some (.int .i64 a0_0) := (blk_cell BK414.out 0).trans rfl
          have hcz11_1 : w3.cell? ⟨gb414, 1, none⟩ = some (.slice A0_1 l0_1.length c0_1) := (blk_cell BK414.out 1).trans rfl
          have hcz11_2 : w3.cell? ⟨gb414, 2, none⟩ = some (.slice A0_2 l0_2.length c0_2) := (blk_cell BK414.out 2).trans rfl
          have hfz11_0 := blk_frozen BK414.out 0
          have hfz11_1 := blk_frozen BK414.out 1
          have hfz11_2 := blk_frozen BK414.out 2
          go_wp2_with (first | (go_at_call 38; (with_reducible refine (impl_in.calls a0_0 1 4294967295 false _ A7.out).mono ?_); rintro e w' ⟨rfl, ⟨nd, rfl⟩⟩))
          go_meet
          case rel => exact ⟨_, (true), (by first | rfl | (simp; done) | (simp [*]; done)), H', ⟨by first | omega | exact Nat.le_refl _⟩, ⟨by (with_reducible repeat (first | refine blk_drewN ?_ _ | refine blk_drew ?_ | refine blk_alloc ?_ _)); exact BK414.out⟩, ⟨by repeat (first | (with_reducible first | exact HB.out | apply below_alloc | apply pw_below_drewN | apply below_drew1 | refine below_set ?_ GE414.out) | exact HB.out)⟩⟩
  case rest =>
    clear HC2
    try clear c1
    try clear p2
    try clear c5
    try clear c5b0
    try clear c6
    try clear c6b0
    try clear p6
    try clear c8
    try clear hcz10_0
    try clear hcz10_1
    try clear hcz10_2
    try clear hcz11_0
    try clear hcz11_1
    try clear hcz11_2
    try clear hcz4_0
    try clear hcz4_1
    try clear hcz4_2
    try clear hfz10_0
    try clear hfz10_1
    try clear hfz10_2
    try clear hfz11_0
    try clear hfz11_1
    try clear hfz11_2
    try clear hfz4_0
    try clear hfz4_1
    try clear hfz4_2
    obtain ⟨kq, x33_1, rfl, HA, HJ1, BK414, HB⟩ := hcut
    cases kq with
    | zero => exact absurd HA.out (by simp [impl_ValidTxn.j0])
    | succ kj1 =>
      have H := HA.out
      clear HA
      simp only [impl_ValidTxn.j0] at H
      by_cases c12 : x33_1 = true
      · subst c12
        have H1 : (some false) = some r := by rw [if_pos rfl] at H; exact H
        clear H
        have H := H1
        clear H1
        obtain rfl := Option.some.inj H
        go_wp2
        go_ret
        exact ⟨by first | rfl | (simp [errW_none, errW_some] <;> rfl) | (simp [*, errW_none, errW_some] <;> rfl), by repeat (first | (with_reducible first | exact HB.out | apply below_alloc | apply pw_below_drewN | apply below_drew1 | refine below_set ?_ GE414.out) | exact HB.out)⟩
      · replace c12 := Bool.eq_false_iff.mpr c12
        subst c12
        have H1 : (impl_ValidTxn.l0 kj1 ([] : List Int) l0_1 (l0_1.length : Int) 0 a0_0 l0_1 l0_2) = some r := by rw [if_neg (show ¬ (false = true) by decide)] at H; exact H
        clear H
        have H := H1
        clear H1
        have H' := Aside0.mk H
        clear H
        have hcz13_0 : wc.cell? ⟨gb414, 0, none⟩ = some (.int .i64 a0_0) := (blk_cell BK414.out 0).trans rfl
        have hcz13_1 : wc.cell? ⟨gb414, 1, none⟩ = some (.slice A0_1 l0_1.length c0_1) := (blk_cell BK414.out 1).trans rfl
        have hcz13_2 : wc.cell? ⟨gb414, 2, none⟩ = some (.slice A0_2 l0_2.length c0_2) := (blk_cell BK414.out 2).trans rfl
        have hfz13_0 := blk_frozen BK414.out 0
        have hfz13_1 := blk_frozen BK414.out 1
        have hfz13_2 := blk_frozen BK414.out 2
        go_wp2
        go_loopg [4, 37] kj1 (fun kq v4 v37 w' => ∃ (x4_2 : List Int) (x37_2 : Int), v37 = .int .i64 x37_2 ∧ Aside0 (impl_ValidTxn.l0 kq x4_2 l0_1 (l0_1.length : Int) x37_2 a0_0 l0_1 l0_2 = some r) ∧ Aside0 (kq ≤ kj1) ∧ Aside0 (Kd.R (Kd.int .i64) 2 w' w.heap.size (fun _ => True) v4 x4_2) ∧ Aside0 (w'.heap[gb414]? = some (.cells #[.int .i64 a0_0, (.slice A0_1 l0_1.length c0_1), (.slice A0_2 l0_2.length c0_2)] 37 (0, 0))) ∧ Aside0 (Below w.heap.size w w'))
        case atStart => exact ⟨(([] : List Int)), (0), (by first | rfl | (simp; done) | (simp [*]; done)), H', ⟨Nat.le_refl _⟩, ⟨by first | exact Kd.R_nil _ _ _ _ _ | exact Kd.N_nil _ _ _ _ _ | exact Kd.V_nil _ _ _ _ _ | exact Kd.Q_nil _ _ _ _ _ | exact Kd.S_nil _ _ _ _ _⟩, ⟨by (with_reducible repeat (first | refine blk_drewN ?_ _ | refine blk_drew ?_ | refine blk_alloc ?_ _)); exact BK414.out⟩, ⟨by repeat (first | (with_reducible first | exact HB.out | apply below_alloc | apply pw_below_drewN | apply below_drew1 | refine below_set ?_ GE414.out) | exact HB.out)⟩⟩
        case round =>
          clear H'
          try clear c1
          try clear p2
          try clear c5
          try clear c5b0
          try clear c6
          try clear c6b0
          try clear p6
          try clear c8
          try clear c12
          try clear hcz10_0
          try clear hcz10_1
          try clear hcz10_2
          try clear hcz11_0
          try clear hcz11_1
          try clear hcz11_2
          try clear hcz13_0
          try clear hcz13_1
          try clear hcz13_2
          try clear hcz4_0
          try clear hcz4_1
          try clear hcz4_2
          try clear hfz10_0
          try clear hfz10_1
          try clear hfz10_2
          try clear hfz11_0
          try clear hfz11_1
          try clear hfz11_2
          try clear hfz13_0
          try clear hfz13_1
          try clear hfz13_2
          try clear hfz4_0
          try clear hfz4_1
          try clear hfz4_2
          try clear p2
          try clear p6
          obtain ⟨x4_2, x37_2, rfl, HA, HK2, HO_4, BK414, HB⟩ := hrel
          cases gk with
          | zero => exact absurd HA.out (by simp [impl_ValidTxn.l0])
          | succ k2 =>
            have H := HA.out
            clear HA
            simp only [impl_ValidTxn.l0] at H
            by_cases c14 : x37_2 < (l0_1.length : Int)
            · rw [if_pos c14] at H
              have c14b0 : decide (x37_2 < (l0_1.length : Int)) = true := decide_eq_true c14
              clear c14
              by_cases c15 : 0 ≤ x37_2
              · rw [if_pos c15] at H
                have c15b0 : decide (0 ≤ x37_2) = true := decide_eq_true c15
                clear c15
                by_cases c16 : x37_2 < (l0_1.length : Int)
                · rw [if_pos c16] at H
                  have c16b0 : decide (x37_2 < (l0_1.length : Int)) = true := decide_eq_true c16
                  clear c16
                  by_cases c17 : (((rd_T62 l0_1 x37_2).f1).length : Int) = 64
                  · rw [if_pos c17] at H
                    have c17b0 : ((((rd_T62 l0_1 x37_2).f1).length : Int) == 64) = true := beq_iff_eq.mpr c17
                    have c17b1 : ((((rd_T62 l0_1 x37_2).f1).length : Int) != 64) = false := bne_eq_false_iff_eq.mpr c17
                    clear c17
                    have H' := Aside0.mk H
                    clear H
                    have p418 : 0 ≤ (x37_2 : Int) := of_decide_eq_true (by first | (with_reducible assumption) | assumption)
                    have q418 : x37_2 < (l0_1.length : Int) := of_decide_eq_true (by first | (with_reducible assumption) | assumption)
                    obtain ⟨ad418, A418_1, c418_1, e418, hx418_0, hx418_1, hl418_1, hi418_1⟩ := at_T62 HR0_1.out x37_2 p418 q418
                    cases e418
                    replace hx418_0 := (HB.out.cell (World.block_lt_of_cell? w _ hx418_0)).trans hx418_0
                    replace hx418_1 := (HB.out.cell (World.block_lt_of_cell? w _ hx418_1)).trans hx418_1
                    have HR418_1 := Aside0.mk hi418_1
                    have HC418_1 := Aside0.mk hl418_1
                    clear hi418_1 hl418_1
                    replace p418 := eq_true p418
                    replace q418 := eq_true q418
                    go_wp2_with (first | ((with_reducible refine gate_dst (N := 6) rfl ?_); refine box_event ?hg (N := 6) ?hd (cs := #[.int .i64 0, .slice none 0 0]) (t := 62) ?hr ?_; (case hd => rfl); (case hg => rfl); (case hr => first | (go_simp; done) | (go_simp; rfl)); intro gb419 hg w18 hbox hb; have n0_ := Aside0.mk (Kd.R_below (by (with_reducible repeat (first | apply Kd.R_alloc | apply Kd.R_drewN | apply Kd.R_drew)); exact HO_4.out) hb); have n1_ := Aside0.mk (blk_below (g := gb414) (o := .cells #[.int .i64 a0_0, .slice (some ad418) l0_1.length c0_1, .slice A0_2 l0_2.length c0_2] 37 (0, 0)) (by (with_reducible repeat (first | refine blk_drewN ?_ _ | refine blk_drew ?_ | refine blk_alloc ?_ _)); exact BK414.out) hb); have n2_ := Aside0.mk (below_step (by repeat (first | (with_reducible first | exact HB.out | apply below_alloc | apply pw_below_drewN | apply below_drew1 | refine below_set ?_ GE414.out) | exact HB.out)) hb); have n3_ := Aside0.mk (hbox); have n4_ := Aside0.mk ((by rw [hg]; exact (below_size (by repeat (first | (with_reducible first | exact HB.out | apply below_alloc | apply pw_below_drewN | apply below_drew1 | refine below_set ?_ GE414.out) | exact HB.out))) : w.heap.size ≤ gb419)); have n5_ := Aside0.mk ((by rw [hg]; exact (below_size (by repeat (first | (with_reducible first | exact HB.out | apply below_alloc | apply pw_below_drewN | apply below_drew1 | refine below_set ?_ GE414.out) | exact HB.out))) : w.heap.size ≤ gb419)); have n6_ := Aside0.mk ((by rw [hg]; exact Nat.ne_of_lt (blk_lt (g := gb414) (o := .cells #[.int .i64 a0_0, .slice (some ad418) l0_1.length c0_1, .slice A0_2 l0_2.length c0_2] 37 (0, 0)) (by (with_reducible repeat (first | refine blk_drewN ?_ _ | refine blk_drew ?_ | refine blk_alloc ?_ _)); exact BK414.out)) : gb414 ≠ gb419)); have n7_ := Aside0.mk ((by rw [hg]; exact Nat.ne_of_gt (blk_lt (g := gb414) (o := .cells #[.int .i64 a0_0, .slice (some ad418) l0_1.length c0_1, .slice A0_2 l0_2.length c0_2] 37 (0, 0)) (by (with_reducible repeat (first | refine blk_drewN ?_ _ | refine blk_drew ?_ | refine blk_alloc ?_ _)); exact BK414.out)) : gb419 ≠ gb414)); clear HO_4; clear BK414; clear HB; have HO_4 := n0_; have BK414 := n1_; have HB := n2_; have BK419 := n3_; have GW419 := n4_; have GE419 := n5_; have NB414_419 := n6_; have NB419_414 := n7_; clear n0_ n1_ n2_ n3_ n4_ n5_ n6_ n7_; clear hb hbox hg; have hnb19 := NB419_414.out; have hnc19 := NB414_419.out; have hcz20_0 : w18.cell? ⟨gb419, 0, none⟩ = some (.int .i64 0) := (blk_cell BK419.out 0).trans rfl; have hcz20_1 : w18.cell? ⟨gb419, 1, none⟩ = some (.slice none 0 0) := (blk_cell BK419.out 1).trans rfl; have hfz20_0 := blk_frozen BK419.out 0; have hfz20_1 := blk_frozen BK419.out 1; have hcz21_0 : w18.cell? ⟨gb414, 0, none⟩ = some (.int .i64 a0_0) := (blk_cell BK414.out 0).trans rfl; have hcz21_1 : w18.cell? ⟨gb414, 1, none⟩ = some (.slice (some ad418) l0_1.length c0_1) := (blk_cell BK414.out 1).trans rfl; have hcz21_2 : w18.cell? ⟨gb414, 2, none⟩ = some (.slice A0_2 l0_2.length c0_2) := (blk_cell BK414.out 2).trans rfl; have hfz21_0 := blk_frozen BK414.out 0; have hfz21_1 := blk_frozen BK414.out 1; have hfz21_2 := blk_frozen BK414.out 2))
                    go_loopg [48] k2 (fun kq v48 w' => ∃ (x48_3 : Int), v48 = .int .i64 x48_3 ∧ Aside0 (impl_ValidTxn.l1 kq x4_2 l0_1 (l0_1.length : Int) x37_2 l0_2 (l0_2.length : Int) x48_3 a0_0 l0_1 l0_2 ((rd_T62 l0_1 x37_2).f0) ((rd_T62 l0_1 x37_2).f1) = some r) ∧ Aside0 (kq ≤ k2) ∧ Aside0 (Kd.R (Kd.int .i64) 2 w' w.heap.size (fun _ => True) u4 x4_2) ∧ Aside0 (w'.heap[gb414]? = some (.cells #[.int .i64 a0_0, (.slice (some ad418) l0_1.length c0_1), (.slice A0_2 l0_2.length c0_2)] 37 (0, 0))) ∧ Aside0 (w'.heap[gb419]? = some (.cells #[.int .i64 ((rd_T62 l0_1 x37_2).f0), (.slice A418_1 ((rd_T62 l0_1 x37_2).f1).length c418_1)] 62 (0, 0))) ∧ Aside0 (Below w.heap.size w w'))
                    case atStart => exact ⟨(0), (by first | rfl | (simp; done) | (simp [*]; done)), H', ⟨Nat.le_refl _⟩, ⟨by (with_reducible repeat (first | apply Kd.R_alloc | apply Kd.R_drewN | apply Kd.R_drew)); exact Kd.R_mono (Kd.R_far (p := ⟨gb419, 1, none⟩) (Kd.R_far (p := ⟨gb419, 0, none⟩) (Kd.R_types HO_4.out BK419.out (by decide)) (fun _ hk => hk.2) (.int .i64 ((rd_T62 l0_1 x37_2).f0))) (fun _ hk => hk.2) (.slice A418_1 ((rd_T62 l0_1 x37_2).f1).length c418_1)) (fun _ hk => trivial)⟩, ⟨by (with_reducible repeat (first | refine blk_drewN ?_ _ | refine blk_drew ?_ | refine blk_alloc ?_ _)); refine blk_far ?_ NB414_419.out _; (with_reducible repeat (first | refine blk_drewN ?_ _ | refine blk_drew ?_ | refine blk_alloc ?_ _)); refine blk_far ?_ NB414_419.out _; (with_reducible repeat (first | refine blk_drewN ?_ _ | refine blk_drew ?_ | refine blk_alloc ?_ _)); exact BK414.out⟩, ⟨by (with_reducible repeat (first | refine blk_drewN ?_ _ | refine blk_drew ?_ | refine blk_alloc ?_ _)); refine blk_put (cs := #[.int .i64 ((rd_T62 l0_1 x37_2).f0), .slice none 0 0]) ?_ 1 _ rfl; (with_reducible repeat (first | refine blk_drewN ?_ _ | refine blk_drew ?_ | refine blk_alloc ?_ _)); refine blk_put (cs := #[.int .i64 0, .slice none 0 0]) ?_ 0 _ rfl; (with_reducible repeat (first | refine blk_drewN ?_ _ | refine blk_drew ?_ | refine blk_alloc ?_ _)); exact BK419.out⟩, ⟨by repeat (first | (with_reducible first | exact HB.out | apply below_alloc | apply pw_below_drewN | apply below_drew1 | refine below_set ?_ GE414.out | refine below_set ?_ GE419.out) | exact HB.out)⟩⟩
                    case round =>
                      clear H'
                      try clear c1
                      try clear p2
                      try clear c4
                      try clear p4
                      try clear q4
                      try clear hx4
                      try clear c5
                      try clear c5b0
                      try clear c6
                      try clear c6b0
                      try clear p6
                      try clear c8
                      try clear c12
                      try clear c14
                      try clear c14b0
                      try clear c15
                      try clear c15b0
                      try clear c16
                      try clear c16b0
                      try clear c17
                      try clear c17b0
                      try clear c17b1
                      try clear c19
                      try clear hcz10_0
                      try clear hcz10_1
                      try clear hcz10_2
                      try clear hcz11_0
                      try clear hcz11_1
                      try clear hcz11_2
                      try clear hcz13_0
                      try clear hcz13_1
                      try clear hcz13_2
                      try clear hcz20_0
                      try clear hcz20_1
                      try clear hcz21_0
                      try clear hcz21_1
                      try clear hcz21_2
                      try clear hcz4_0
                      try clear hcz4_1
                      try clear hcz4_2
                      try clear hfz10_0
                      try clear hfz10_1
                      try clear hfz10_2
                      try clear hfz11_0
                      try clear hfz11_1
                      try clear hfz11_2
                      try clear hfz13_0
                      try clear hfz13_1
                      try clear hfz13_2
                      try clear hfz20_0
                      try clear hfz20_1
                      try clear hfz21_0
                      try clear hfz21_1
                      try clear hfz21_2
                      try clear hfz4_0
                      try clear hfz4_1
                      try clear hfz4_2
                      try clear hx418_0
                      try clear hx418_1
                      try clear p2
                      try clear p418
                      try clear p6
                      try clear q418
                      obtain ⟨x48_3, rfl, HA, HK3, HO_4, BK414, BK419, HB⟩ := hrel
                      cases gk with
                      | zero => exact absurd HA.out (by simp [impl_ValidTxn.l1])
                      | succ k3 =>
                        have H := HA.out
                        clear HA
                        simp only [impl_ValidTxn.l1] at H
                        by_cases c22 : x48_3 < (l0_2.length : Int)
                        · rw [if_pos c22] at H
                          have c22b0 : decide (x48_3 < (l0_2.length : Int)) = true := decide_eq_true c22
                          clear c22
                          by_cases c23 : 0 ≤ x48_3
                          · rw [if_pos c23] at H
                            have c23b0 : decide (0 ≤ x48_3) = true := decide_eq_true c23
                            clear c23
                            by_cases c24 : x48_3 < (l0_2.length : Int)
                            · rw [if_pos c24] at H
                              have c24b0 : decide (x48_3 < (l0_2.length : Int)) = true := decide_eq_true c24
                              clear c24
                              by_cases c25 : (rd l0_2 x48_3) = ((rd_T62 l0_1 x37_2).f0)
                              · rw [if_pos c25] at H
                                have c25b0 : ((rd l0_2 x48_3) == ((rd_T62 l0_1 x37_2).f0)) = true := beq_iff_eq.mpr c25
                                have c25b1 : ((rd l0_2 x48_3) != ((rd_T62 l0_1 x37_2).f0)) = false := bne_eq_false_iff_eq.mpr c25
                                clear c25
                                obtain rfl := Option.some.inj H
                                have p420 : 0 ≤ (x48_3 : Int) := of_decide_eq_true (by first | (with_reducible assumption) | assumption)
                                have q420 : x48_3 < (l0_2.length : Int) := of_decide_eq_true (by first | (with_reducible assumption) | assumption)
                                obtain ⟨ad420, e420, hx420_0⟩ := Kd.at_int HR0_2.out x48_3 p420 q420
                                cases e420
                                replace hx420_0 := (HB.out.cell (World.block_lt_of_cell? w _ hx420_0)).trans hx420_0
                                replace p420 := eq_true p420
                                replace q420 := eq_true q420
                                have hnb26 := NB419_414.out
                                have hnc26 := NB414_419.out
                                have hcz27_0 : wr.cell? ⟨gb419, 0, none⟩ = some (.int .i64 ((rd_T62 l0_1 x37_2).f0)) := (blk_cell BK419.out 0).trans rfl
                                have hcz27_1 : wr.cell? ⟨gb419, 1, none⟩ = some (.slice A418_1 ((rd_T62 l0_1 x37_2).f1).length c418_1) := (blk_cell BK419.out 1).trans rfl
                                have hfz27_0 := blk_frozen BK419.out 0
                                have hfz27_1 := blk_frozen BK419.out 1
                                go_wp2
                                go_ret
                                exact ⟨by first | rfl | (simp [errW_none, errW_some] <;> rfl) | (simp [*, errW_none, errW_some] <;> rfl), by repeat (first | (with_reducible first | exact HB.out | apply below_alloc | apply pw_below_drewN | apply below_drew1 | refine below_set ?_ GE414.out | refine below_set ?_ GE419.out) | exact HB.out)⟩
                              · rw [if_neg c25] at H
                                have c25b0 : ((rd l0_2 x48_3) == ((rd_T62 l0_1 x37_2).f0)) = false := beq_eq_false_iff_ne.mpr c25
                                have c25b1 : ((rd l0_2 x48_3) != ((rd_T62 l0_1 x37_2).f0)) = true := bne_iff_ne.mpr c25
                                have H' := Aside0.mk H
                                clear H
                                have p420 : 0 ≤ (x48_3 : Int) := of_decide_eq_true (by first | (with_reducible assumption) | assumption)
                                have q420 : x48_3 < (l0_2.length : Int) := of_decide_eq_true (by first | (with_reducible assumption) | assumption)
                                obtain ⟨ad420, e420, hx420_0⟩ := Kd.at_int HR0_2.out x48_3 p420 q420
                                cases e420
                                replace hx420_0 := (HB.out.cell (World.block_lt_of_cell? w _ hx420_0)).trans hx420_0
                                replace p420 := eq_true p420
                                replace q420 := eq_true q420
                                have hnb28 := NB419_414.out
                                have hnc28 := NB414_419.out
                                have hcz29_0 : wr.cell? ⟨gb419, 0, none⟩ = some (.int .i64 ((rd_T62 l0_1 x37_2).f0)) := (blk_cell BK419.out 0).trans rfl
                                have hcz29_1 : wr.cell? ⟨gb419, 1, none⟩ = some (.slice A418_1 ((rd_T62 l0_1 x37_2).f1).length c418_1) := (blk_cell BK419.out 1).trans rfl
                                have hfz29_0 := blk_frozen BK419.out 0
                                have hfz29_1 := blk_frozen BK419.out 1
                                go_wp2
                                go_roundg k3
                                case measure => have := HJ1.out; have := HK2.out; have := HK3.out; omega
                                case rel => exact ⟨(wrap64 (x48_3 + 1)), (by first | rfl | (simp; done) | (simp [*]; done)), H', ⟨by have := HJ1.out; have := HK2.out; have := HK3.out; omega⟩, ⟨by (with_reducible repeat (first | apply Kd.R_alloc | apply Kd.R_drewN | apply Kd.R_drew)); exact HO_4.out⟩, ⟨by (with_reducible repeat (first | refine blk_drewN ?_ _ | refine blk_drew ?_ | refine blk_alloc ?_ _)); exact BK414.out⟩, ⟨by (with_reducible repeat (first | refine blk_drewN ?_ _ | refine blk_drew ?_ | refine blk_alloc ?_ _)); exact BK419.out⟩, ⟨by repeat (first | (with_reducible first | exact HB.out | apply below_alloc | apply pw_below_drewN | apply below_drew1 | refine below_set ?_ GE414.out | refine below_set ?_ GE419.out) | exact HB.out)⟩⟩
                            · rw [if_neg c24] at H
                              exact absurd H (by simp)
                          · rw [if_neg c23] at H
                            exact absurd H (by simp)
                        · rw [if_neg c22] at H
                          have c22b0 : decide (x48_3 < (l0_2.length : Int)) = false := decide_eq_false c22
                          clear c22
                          by_cases c30 : x4_2.length < 17592186044416
                          · rw [if_pos c30] at H
                            have LMc30 := Aside0.mk c30
                            clear c30
                            obtain ⟨y421, hy421⟩ : ∃ y_ : List Int, y_ = (x4_2 ++ [((rd_T62 l0_1 x37_2).f0)]) := ⟨_, rfl⟩
                            replace H : (impl_ValidTxn.l0 k3 y421 l0_1 (l0_1.length : Int) (wrap64 (x37_2 + 1)) a0_0 l0_1 l0_2) = some r := by first | (rw [hy421]; with_reducible exact H) | (have H2_ := (Option.bind_some _ _).symm.trans H; rw [hy421]; with_reducible exact H2_) | (have H2_ := (Option.bind_some _ _).symm.trans H; with_reducible exact H2_) | with_reducible exact H | (rw [hy421]; exact H) | exact H
                            have Ny421 := Aside0.mk hy421
                            clear hy421
                            have H' := Aside0.mk H
                            clear H
                            have hnb31 := NB419_414.out
                            have hnc31 := NB414_419.out
                            have hcz32_0 : wr.cell? ⟨gb419, 0, none⟩ = some (.int .i64 ((rd_T62 l0_1 x37_2).f0)) := (blk_cell BK419.out 0).trans rfl
                            have hcz32_1 : wr.cell? ⟨gb419, 1, none⟩ = some (.slice A418_1 ((rd_T62 l0_1 x37_2).f1).length c418_1) := (blk_cell BK419.out 1).trans rfl
                            have hfz32_0 := blk_frozen BK419.out 0
                            have hfz32_1 := blk_frozen BK419.out 1
                            go_wp2_with (first | ((with_reducible refine gate_builtin (b := .append) (xs := #[.tmp 57, .tmp 60]) rfl ?_); at_builtin; refine Kd.R_append (Kd.int .i64) (w0 := w) w.heap.size rfl (.tmp 57) (.tmp 60) 30 2 (.int .i64 0) 8 rfl Try.underlying30 info2 rfl (by decide) (by omega) u4 x4_2 ((rd_T62 l0_1 x37_2).f0) [.int .i64 ((rd_T62 l0_1 x37_2).f0)] (fun _ => True) (fun _ => False) rfl rfl ?aP (fun _ hk => hk.elim) ?aF ?aO ?aB ?aS ?aL ?_; (case aP => exact rfl); (case aB => exact (by repeat (first | (with_reducible first | exact HB.out | apply below_alloc | apply pw_below_drewN | apply below_drew1 | refine below_set ?_ GE414.out | refine below_set ?_ GE419.out) | exact HB.out))); (case aF => exact (fun _ _ => trivial)); (case aO => exact (by (with_reducible repeat (first | apply Kd.R_alloc | apply Kd.R_drewN | apply Kd.R_drew)); exact HO_4.out)); (case aS => exact (below_size (by repeat (first | (with_reducible first | exact HB.out | apply below_alloc | apply pw_below_drewN | apply below_drew1 | refine below_set ?_ GE414.out | refine below_set ?_ GE419.out) | exact HB.out)))); (case aL => have := LMc30.out; omega); intro v422 w33 ho hb hg hat; rw [← Ny421.out] at ho; have n0_ := Aside0.mk (blk_grown (g := gb414) (o := .cells #[.int .i64 a0_0, .slice (some ad418) l0_1.length c0_1, .slice A0_2 l0_2.length c0_2] 37 (0, 0)) (by (with_reducible repeat (first | refine blk_drewN ?_ _ | refine blk_drew ?_ | refine blk_alloc ?_ _)); exact BK414.out) hg (Kd.R_ne HO_4.out BK414.out (by decide))); have n1_ := Aside0.mk (blk_grown (g := gb419) (o := .cells #[.int .i64 ((rd_T62 l0_1 x37_2).f0), .slice A418_1 ((rd_T62 l0_1 x37_2).f1).length c418_1] 62 (0, 0)) (by (with_reducible repeat (first | refine blk_drewN ?_ _ | refine blk_drew ?_ | refine blk_alloc ?_ _)); exact BK419.out) hg (Kd.R_ne HO_4.out BK419.out (by decide))); have n2_ := Aside0.mk (hb); have n3_ := Aside0.mk (ho); clear BK414; clear BK419; clear HB; clear HO_4; have BK414 := n0_; have BK419 := n1_; have HB := n2_; have HO423 := n3_; clear n0_ n1_ n2_ n3_; clear ho hb hg hat))
                            go_roundg k3
                            case measure => have := HJ1.out; have := HK2.out; have := HK3.out; omega
                            case rel => exact ⟨(y421), (wrap64 (x37_2 + 1)), (by first | rfl | (simp; done) | (simp [*]; done)), H', ⟨by have := HJ1.out; have := HK2.out; have := HK3.out; omega⟩, ⟨by (with_reducible repeat (first | apply Kd.R_alloc | apply Kd.R_drewN | apply Kd.R_drew)); exact HO423.out⟩, ⟨by (with_reducible repeat (first | refine blk_drewN ?_ _ | refine blk_drew ?_ | refine blk_alloc ?_ _)); exact BK414.out⟩, ⟨by repeat (first | (with_reducible first | exact HB.out | apply below_alloc | apply pw_below_drewN | apply below_drew1 | refine below_set ?_ GE414.out | refine below_set ?_ GE419.out) | exact HB.out)⟩⟩
                          · rw [if_neg c30] at H
                            exact absurd H (by simp)
                  · rw [if_neg c17] at H
                    have c17b0 : ((((rd_T62 l0_1 x37_2).f1).length : Int) == 64) = false := beq_eq_false_iff_ne.mpr c17
                    have c17b1 : ((((rd_T62 l0_1 x37_2).f1).length : Int) != 64) = true := bne_iff_ne.mpr c17
                    obtain rfl := Option.some.inj H
                    have p418 : 0 ≤ (x37_2 : Int) := of_decide_eq_true (by first | (with_reducible assumption) | assumption)
                    have q418 : x37_2 < (l0_1.length : Int) := of_decide_eq_true (by first | (with_reducible assumption) | assumption)
                    obtain ⟨ad418, A418_1, c418_1, e418, hx418_0, hx418_1, hl418_1, hi418_1⟩ := at_T62 HR0_1.out x37_2 p418 q418
                    cases e418
                    replace hx418_0 := (HB.out.cell (World.block_lt_of_cell? w _ hx418_0)).trans hx418_0
                    replace hx418_1 := (HB.out.cell (World.block_lt_of_cell? w _ hx418_1)).trans hx418_1
                    have HR418_1 := Aside0.mk hi418_1
                    have HC418_1 := Aside0.mk hl418_1
                    clear hi418_1 hl418_1
                    replace p418 := eq_true p418
                    replace q418 := eq_true q418
                    go_wp2_with (first | ((with_reducible refine gate_dst (N := 6) rfl ?_); refine box_event ?hg (N := 6) ?hd (cs := #[.int .i64 0, .slice none 0 0]) (t := 62) ?hr ?_; (case hd => rfl); (case hg => rfl); (case hr => first | (go_simp; done) | (go_simp; rfl)); intro gb419 hg w34 hbox hb; have n0_ := Aside0.mk (Kd.R_below (by (with_reducible repeat (first | apply Kd.R_alloc | apply Kd.R_drewN | apply Kd.R_drew)); exact HO_4.out) hb); have n1_ := Aside0.mk (blk_below (g := gb414) (o := .cells #[.int .i64 a0_0, .slice (some ad418) l0_1.length c0_1, .slice A0_2 l0_2.length c0_2] 37 (0, 0)) (by (with_reducible repeat (first | refine blk_drewN ?_ _ | refine blk_drew ?_ | refine blk_alloc ?_ _)); exact BK414.out) hb); have n2_ := Aside0.mk (below_step (by repeat (first | (with_reducible first | exact HB.out | apply below_alloc | apply pw_below_drewN | apply below_drew1 | refine below_set ?_ GE414.out) | exact HB.out)) hb); have n3_ := Aside0.mk (hbox); have n4_ := Aside0.mk ((by rw [hg]; exact (below_size (by repeat (first | (with_reducible first | exact HB.out | apply below_alloc | apply pw_below_drewN | apply below_drew1 | refine below_set ?_ GE414.out) | exact HB.out))) : w.heap.size ≤ gb419)); have n5_ := Aside0.mk ((by rw [hg]; exact (below_size (by repeat (first | (with_reducible first | exact HB.out | apply below_alloc | apply pw_below_drewN | apply below_drew1 | refine below_set ?_ GE414.out) | exact HB.out))) : w.heap.size ≤ gb419)); have n6_ := Aside0.mk ((by rw [hg]; exact Nat.ne_of_lt (blk_lt (g := gb414) (o := .cells #[.int .i64 a0_0, .slice (some ad418) l0_1.length c0_1, .slice A0_2 l0_2.length c0_2] 37 (0, 0)) (by (with_reducible repeat (first | refine blk_drewN ?_ _ | refine blk_drew ?_ | refine blk_alloc ?_ _)); exact BK414.out)) : gb414 ≠ gb419)); have n7_ := Aside0.mk ((by rw [hg]; exact Nat.ne_of_gt (blk_lt (g := gb414) (o := .cells #[.int .i64 a0_0, .slice (some ad418) l0_1.length c0_1, .slice A0_2 l0_2.length c0_2] 37 (0, 0)) (by (with_reducible repeat (first | refine blk_drewN ?_ _ | refine blk_drew ?_ | refine blk_alloc ?_ _)); exact BK414.out)) : gb419 ≠ gb414)); clear HO_4; clear BK414; clear HB; have HO_4 := n0_; have BK414 := n1_; have HB := n2_; have BK419 := n3_; have GW419 := n4_; have GE419 := n5_; have NB414_419 := n6_; have NB419_414 := n7_; clear n0_ n1_ n2_ n3_ n4_ n5_ n6_ n7_; clear hb hbox hg; have hnb35 := NB419_414.out; have hnc35 := NB414_419.out; have hcz36_0 : w34.cell? ⟨gb419, 0, none⟩ = some (.int .i64 0) := (blk_cell BK419.out 0).trans rfl; have hcz36_1 : w34.cell? ⟨gb419, 1, none⟩ = some (.slice none 0 0) := (blk_cell BK419.out 1).trans rfl; have hfz36_0 := blk_frozen BK419.out 0; have hfz36_1 := blk_frozen BK419.out 1))
                    go_ret
                    exact ⟨by first | rfl | (simp [errW_none, errW_some] <;> rfl) | (simp [*, errW_none, errW_some] <;> rfl), by repeat (first | (with_reducible first | exact HB.out | apply below_alloc | apply pw_below_drewN | apply below_drew1 | refine below_set ?_ GE414.out | refine below_set ?_ GE419.out) | exact HB.out)⟩
                · rw [if_neg c16] at H
                  exact absurd H (by simp)
              · rw [if_neg c15] at H
                exact absurd H (by simp)
            · rw [if_neg c14] at H
              have c14b0 : decide (x37_2 < (l0_1.length : Int)) = false := decide_eq_false c14
              clear c14
              replace H := Option.bind_eq_some_iff.mp H
              obtain ⟨t417, A370, H⟩ := H
              replace H : (some t417) = some r := H
              have A37 := Aside0.mk A370
              clear A370
              obtain rfl := Option.some.inj H
              obtain ⟨Ao38, co38, eo38⟩ := Kd.R_slice HO_4.out
              subst eo38
              go_wp2_with (first | ((with_reducible refine gate_callee (f := 39) rfl ?_); refine goesL_ (some 64) rfl rfl Try.func39 (by kernel_rfl) rfl #[.slice Ao38 x4_2.length co38] rfl (by (try simp only [List.map_toArray, List.map_cons, List.map_nil]); first | done | rfl | (simp only [List.length_drop, List.length_take]; rfl)) ?_; (with_reducible refine (impl_rising.calls k2 _ _ x4_2 t417 _ ?side1 ?side2 A37.out).mono ?_); (case side1 => repeat (first | exact (Kd.R_reads' HO_4.out).2.2 | (with_reducible refine Kd.C_alloc ?_ _) | (with_reducible refine Kd.C_drewN ?_ _) | (with_reducible refine Kd.C_drew ?_))); (case side2 => exact (Kd.R_reads' HO_4.out).2.1); rintro e w' ⟨rfl, ⟨nd, rfl⟩⟩; refine ⟨_, rfl, ?_⟩))
              go_ret
              exact ⟨by first | rfl | (simp [errW_none, errW_some] <;> rfl) | (simp [*, errW_none, errW_some] <;> rfl), by repeat (first | (with_reducible first | exact HB.out | apply below_alloc | apply pw_below_drewN | apply below_drew1 | refine below_set ?_ GE414.out) | exact HB.out)⟩

/-! ### impl_TxnLength: function 19 -/
def impl_TxnLength.f (k : Nat) (a0_0 : Int) (l0_1 : List (S62)) (l0_2 : List Int) : Option (Int) := (impl_ValidTxn.f k a0_0 l0_1 l0_2).bind fun t425 => (if t425 = true then (some (wrap64 ((wrap64 ((wrap64 ((wrap64 (Int.tdiv (wrap64 ((l0_2.length : Int) + 25)) 26)) + (l0_1.length : Int))) + (wrap64 (Int.tdiv (wrap64 ((l0_1.length : Int) + 16)) 17)))) + 1))) else (some 0))
theorem impl_TxnLength.mono : ∀ a0 a1 a2 k, LeO (impl_TxnLength.f k a0 a1 a2) (impl_TxnLength.f (k + 1) a0 a1 a2) := by
  intro a0 a1 a2 k
  unfold impl_TxnLength.f
  repeat' first
      | (with_reducible exact impl_ValidTxn.mono _ _ _ _)
      | (with_reducible exact LeO.refl _)
      | (with_reducible exact LeO.none _)
      | (with_reducible refine LeO.ite ?_ ?_)
      | (with_reducible refine LeO.bind ?_ (fun _ => ?_))
      | exact impl_ValidTxn.mono _ _ _ _
      | exact LeO.none _
      | refine LeO.ite ?_ ?_
      | refine LeO.bind ?_ (fun _ => ?_)
set_option maxHeartbeats 8000000 in
set_option maxRecDepth 100000 in
theorem impl_TxnLength.calls (k : Nat) (a0_0 : Int) (A0_1 : Option Addr) (c0_1 : Nat) (l0_1 : List (S62)) (A0_2 : Option Addr) (c0_2 : Nat) (l0_2 : List Int) (r : Int) (w : World) (hr0_1 : Kd.C k62 w A0_1 l0_1.length l0_1) (hc0_1 : l0_1.length ≤ c0_1) (hr0_2 : Kd.C (Kd.int .i64) w A0_2 l0_2.length l0_2) (hc0_2 : l0_2.length ≤ c0_2) (h : impl_TxnLength.f k a0_0 l0_1 l0_2 = some r) :
    Calls Try.prog 19 #[.agg #[.int .i64 a0_0, .slice A0_1 l0_1.length c0_1, .slice A0_2 l0_2.length c0_2]] w fun e w' => e = .returned (.int .i64 r) ∧ Below w.heap.size w w' := by
  have hu37 := Try.underlying37
  have HR0_1 := Aside0.mk hr0_1
  have HC0_1 := Aside0.mk hc0_1
  clear hr0_1 hc0_1
  have HR0_2 := Aside0.mk hr0_2
  have HC0_2 := Aside0.mk hc0_2
  clear hr0_2 hc0_2
  have HB := Aside0.mk (Below.refl w.heap.size w)
  have H : ((impl_ValidTxn.f k a0_0 l0_1 l0_2).bind fun t425 => (if t425 = true then (some (wrap64 ((wrap64 ((wrap64 ((wrap64 (Int.tdiv (wrap64 ((l0_2.length : Int) + 25)) 26)) + (l0_1.length : Int))) + (wrap64 (Int.tdiv (wrap64 ((l0_1.length : Int) + 16)) 17)))) + 1))) else (some 0))) = some r := h
  clear h
  replace H := Option.bind_eq_some_iff.mp H
  obtain ⟨t425, A20, H⟩ := H
  replace H : (if t425 = true then (some (wrap64 ((wrap64 ((wrap64 ((wrap64 (Int.tdiv (wrap64 ((l0_2.length : Int) + 25)) 26)) + (l0_1.length : Int))) + (wrap64 (Int.tdiv (wrap64 ((l0_1.length : Int) + 16)) 17)))) + 1))) else (some 0)) = some r := H
  have A2 := Aside0.mk A20
  clear A20
  by_cases c3 : t425 = true
  · subst c3
    have H1 : (some (wrap64 ((wrap64 ((wrap64 ((wrap64 (Int.tdiv (wrap64 ((l0_2.length : Int) + 25)) 26)) + (l0_1.length : Int))) + (wrap64 (Int.tdiv (wrap64 ((l0_1.length : Int) + 16)) 17)))) + 1))) = some r := by rw [if_pos rfl] at H; exact H
    clear H
    have H := H1
    clear H1
    obtain rfl := Option.some.inj H
    go_enter Try.func19, Try.ntmps19
    go_wp2_with (first | ((with_reducible refine gate_dst (N := 1) rfl ?_); refine box_event ?hg (N := 1) ?hd (cs := #[.int .i64 a0_0, .slice A0_1 l0_1.length c0_1, .slice A0_2 l0_2.length c0_2]) (t := 37) ?hr ?_; (case hd => rfl); (case hg => rfl); (case hr => first | (go_simp; done) | (go_simp; rfl)); intro gb424 hg w4 hbox hb; have n0_ := Aside0.mk (below_step (by repeat (first | (with_reducible first | exact HB.out | apply below_alloc | apply pw_below_drewN | apply below_drew1) | exact HB.out)) hb); have n1_ := Aside0.mk (hbox); have n2_ := Aside0.mk ((by rw [hg]; exact (below_size (by repeat (first | (with_reducible first | exact HB.out | apply below_alloc | apply pw_below_drewN | apply below_drew1) | exact HB.out))) : w.heap.size ≤ gb424)); have n3_ := Aside0.mk ((by rw [hg]; exact (below_size (by repeat (first | (with_reducible first | exact HB.out | apply below_alloc | apply pw_below_drewN | apply below_drew1) | exact HB.out))) : w.heap.size ≤ gb424)); clear HB; have HB := n0_; have BK424 := n1_; have GW424 := n2_; have GE424 := n3_; clear n0_ n1_ n2_ n3_; clear hb hbox hg; have hcz5_0 : w4.cell? ⟨gb424, 0, none⟩ = some (.int .i64 a0_0) := (blk_cell BK424.out 0).trans rfl; have hcz5_1 : w4.cell? ⟨gb424, 1, none⟩ = some (.slice A0_1 l0_1.length c0_1) := (blk_cell BK424.out 1).trans rfl; have hcz5_2 : w4.cell? ⟨gb424, 2, none⟩ = some (.slice A0_2 l0_2.length c0_2) := (blk_cell BK424.out 2).trans rfl; have hfz5_0 := blk_frozen BK424.out 0; have hfz5_1 := blk_frozen BK424.out 1; have hfz5_2 := blk_frozen BK424.out 2) | (go_at_call 16; (with_reducible refine (impl_ValidTxn.calls k a0_0 _ _ l0_1 _ _ l0_2 true _ ?side1 ?side2 ?side3 ?side4 A2.out).mono ?_); (case side1 => repeat (first | exact (Kd.C_below HR0_1.out HB.out) | (with_reducible refine Kd.C_alloc ?_ _) | (with_reducible refine Kd.C_drewN ?_ _) | (with_reducible refine Kd.C_drew ?_))); (case side2 => exact HC0_1.out); (case side3 => repeat (first | exact (Kd.C_below HR0_2.out HB.out) | (with_reducible refine Kd.C_alloc ?_ _) | (with_reducible refine Kd.C_drewN ?_ _) | (with_reducible refine Kd.C_drew ?_))); (case side4 => exact HC0_2.out); rintro e w6 ⟨rfl, hb⟩; have n0_ := Aside0.mk (blk_below (g := gb424) (o := .cells #[.int .i64 a0_0, .slice A0_1 l0_1.length c0_1, .slice A0_2 l0_2.length c0_2] 37 (0, 0)) (by (with_reducible repeat (first | refine blk_drewN ?_ _ | refine blk_drew ?_ | refine blk_alloc ?_ _)); exact BK424.out) hb); have n1_ := Aside0.mk (below_step (by repeat (first | (with_reducible first | exact HB.out | apply below_alloc | apply pw_below_drewN | apply below_drew1 | refine below_set ?_ GE424.out) | exact HB.out)) hb); clear BK424; clear HB; have BK424 := n0_; have HB := n1_; clear n0_ n1_; (try clear hb); (try clear hb2); (try clear hk); (try clear hi); have hcz7_0 : w6.cell? ⟨gb424, 0, none⟩ = some (.int .i64 a0_0) := (blk_cell BK424.out 0).trans rfl; have hcz7_1 : w6.cell? ⟨gb424, 1, none⟩ = some (.slice A0_1 l0_1.length c0_1) := (blk_cell BK424.out 1).trans rfl; have hcz7_2 : w6.cell? ⟨gb424, 2, none⟩ = some (.slice A0_2 l0_2.length c0_2) := (blk_cell BK424.out 2).trans rfl; have hfz7_0 := blk_frozen BK424.out 0; have hfz7_1 := blk_frozen BK424.out 1; have hfz7_2 := blk_frozen BK424.out 2))
    repeat (go_quiet (first | ((with_reducible refine gate_dst (N := 1) rfl ?_); refine box_event ?hg (N := 1) ?hd (cs := #[.int .i64 a0_0, .slice A0_1 l0_1.length c0_1, .slice A0_2 l0_2.length c0_2]) (t := 37) ?hr ?_; (case hd => rfl); (case hg => rfl); (case hr => first | (go_simp; done) | (go_simp; rfl)); intro gb424 hg w4 hbox hb; have n0_ := Aside0.mk (below_step (by repeat (first | (with_reducible first | exact HB.out | apply below_alloc | apply pw_below_drewN | apply below_drew1) | exact HB.out)) hb); have n1_ := Aside0.mk (hbox); have n2_ := Aside0.mk ((by rw [hg]; exact (below_size (by repeat (first | (with_reducible first | exact HB.out | apply below_alloc | apply pw_below_drewN | apply below_drew1) | exact HB.out))) : w.heap.size ≤ gb424)); have n3_ := Aside0.mk ((by rw [hg]; exact (below_size (by repeat (first | (with_reducible first | exact HB.out | apply below_alloc | apply pw_below_drewN | apply below_drew1) | exact HB.out))) : w.heap.size ≤ gb424)); clear HB; have HB := n0_; have BK424 := n1_; have GW424 := n2_; have GE424 := n3_; clear n0_ n1_ n2_ n3_; clear hb hbox hg; have hcz5_0 : w4.cell? ⟨gb424, 0, none⟩ = some (.int .i64 a0_0) := (blk_cell BK424.out 0).trans rfl; have hcz5_1 : w4.cell? ⟨gb424, 1, none⟩ = some (.slice A0_1 l0_1.length c0_1) := (blk_cell BK424.out 1).trans rfl; have hcz5_2 : w4.cell? ⟨gb424, 2, none⟩ = some (.slice A0_2 l0_2.length c0_2) := (blk_cell BK424.out 2).trans rfl; have hfz5_0 := blk_frozen BK424.out 0; have hfz5_1 := blk_frozen BK424.out 1; have hfz5_2 := blk_frozen BK424.out 2) | (go_at_call 16; (with_reducible refine (impl_ValidTxn.calls k a0_0 _ _ l0_1 _ _ l0_2 true _ ?side1 ?side2 ?side3 ?side4 A2.out).mono ?_); (case side1 => repeat (first | exact (Kd.C_below HR0_1.out HB.out) | (with_reducible refine Kd.C_alloc ?_ _) | (with_reducible refine Kd.C_drewN ?_ _) | (with_reducible refine Kd.C_drew ?_))); (case side2 => exact HC0_1.out); (case side3 => repeat (first | exact (Kd.C_below HR0_2.out HB.out) | (with_reducible refine Kd.C_alloc ?_ _) | (with_reducible refine Kd.C_drewN ?_ _) | (with_reducible refine Kd.C_drew ?_))); (case side4 => exact HC0_2.out); rintro e w6 ⟨rfl, hb⟩; have n0_ := Aside0.mk (blk_below (g := gb424) (o := .cells #[.int .i64 a0_0, .slice A0_1 l0_1.length c0_1, .slice A0_2 l0_2.length c0_2] 37 (0, 0)) (by (with_reducible repeat (first | refine blk_drewN ?_ _ | refine blk_drew ?_ | refine blk_alloc ?_ _)); exact BK424.out) hb); have n1_ := Aside0.mk (below_step (by repeat (first | (with_reducible first | exact HB.out | apply below_alloc | apply pw_below_drewN | apply below_drew1 | refine below_set ?_ GE424.out) | exact HB.out)) hb); clear BK424; clear HB; have BK424 := n0_; have HB := n1_; clear n0_ n1_; (try clear hb); (try clear hb2); (try clear hk); (try clear hi); have hcz7_0 : w6.cell? ⟨gb424, 0, none⟩ = some (.int .i64 a0_0) := (blk_cell BK424.out 0).trans rfl; have hcz7_1 : w6.cell? ⟨gb424, 1, none⟩ = some (.slice A0_1 l0_1.length c0_1) := (blk_cell BK424.out 1).trans rfl; have hcz7_2 : w6.cell? ⟨gb424, 2, none⟩ = some (.slice A0_2 l0_2.length c0_2) := (blk_cell BK424.out 2).trans rfl; have hfz7_0 := blk_frozen BK424.out 0; have hfz7_1 := blk_frozen BK424.out 1; have hfz7_2 := blk_frozen BK424.out 2)); try go_wp2_with (first | ((with_reducible refine gate_dst (N := 1) rfl ?_); refine box_event ?hg (N := 1) ?hd (cs := #[.int .i64 a0_0, .slice A0_1 l0_1.length c0_1, .slice A0_2 l0_2.length c0_2]) (t := 37) ?hr ?_; (case hd => rfl); (case hg => rfl); (case hr => first | (go_simp; done) | (go_simp; rfl)); intro gb424 hg w4 hbox hb; have n0_ := Aside0.mk (below_step (by repeat (first | (with_reducible first | exact HB.out | apply below_alloc | apply pw_below_drewN | apply below_drew1) | exact HB.out)) hb); have n1_ := Aside0.mk (hbox); have n2_ := Aside0.mk ((by rw [hg]; exact (below_size (by repeat (first | (with_reducible first | exact HB.out | apply below_alloc | apply pw_below_drewN | apply below_drew1) | exact HB.out))) : w.heap.size ≤ gb424)); have n3_ := Aside0.mk ((by rw [hg]; exact (below_size (by repeat (first | (with_reducible first | exact HB.out | apply below_alloc | apply pw_below_drewN | apply below_drew1) | exact HB.out))) : w.heap.size ≤ gb424)); clear HB; have HB := n0_; have BK424 := n1_; have GW424 := n2_; have GE424 := n3_; clear n0_ n1_ n2_ n3_; clear hb hbox hg; have hcz5_0 : w4.cell? ⟨gb424, 0, none⟩ = some (.int .i64 a0_0) := (blk_cell BK424.out 0).trans rfl; have hcz5_1 : w4.cell? ⟨gb424, 1, none⟩ = some (.slice A0_1 l0_1.length c0_1) := (blk_cell BK424.out 1).trans rfl; have hcz5_2 : w4.cell? ⟨gb424, 2, none⟩ = some (.slice A0_2 l0_2.length c0_2) := (blk_cell BK424.out 2).trans rfl; have hfz5_0 := blk_frozen BK424.out 0; have hfz5_1 := blk_frozen BK424.out 1; have hfz5_2 := blk_frozen BK424.out 2) | (go_at_call 16; (with_reducible refine (impl_ValidTxn.calls k a0_0 _ _ l0_1 _ _ l0_2 true _ ?side1 ?side2 ?side3 ?side4 A2.out).mono ?_); (case side1 => repeat (first | exact (Kd.C_below HR0_1.out HB.out) | (with_reducible refine Kd.C_alloc ?_ _) | (with_reducible refine Kd.C_drewN ?_ _) | (with_reducible refine Kd.C_drew ?_))); (case side2 => exact HC0_1.out); (case side3 => repeat (first | exact (Kd.C_below HR0_2.out HB.out) | (with_reducible refine Kd.C_alloc ?_ _) | (with_reducible refine Kd.C_drewN ?_ _) | (with_reducible refine Kd.C_drew ?_))); (case side4 => exact HC0_2.out); rintro e w6 ⟨rfl, hb⟩; have n0_ := Aside0.mk (blk_below (g := gb424) (o := .cells #[.int .i64 a0_0, .slice A0_1 l0_1.length c0_1, .slice A0_2 l0_2.length c0_2] 37 (0, 0)) (by (with_reducible repeat (first | refine blk_drewN ?_ _ | refine blk_drew ?_ | refine blk_alloc ?_ _)); exact BK424.out) hb); have n1_ := Aside0.mk (below_step (by repeat (first | (with_reducible first | exact HB.out | apply below_alloc | apply pw_below_drewN | apply below_drew1 | refine below_set ?_ GE424.out) | exact HB.out)) hb); clear BK424; clear HB; have BK424 := n0_; have HB := n1_; clear n0_ n1_; (try clear hb); (try clear hb2); (try clear hk); (try clear hi); have hcz7_0 : w6.cell? ⟨gb424, 0, none⟩ = some (.int .i64 a0_0) := (blk_cell BK424.out 0).trans rfl; have hcz7_1 : w6.cell? ⟨gb424, 1, none⟩ = some (.slice A0_1 l0_1.length c0_1) := (blk_cell BK424.out 1).trans rfl; have hcz7_2 : w6.cell? ⟨gb424, 2, none⟩ = some (.slice A0_2 l0_2.length c0_2) := (blk_cell BK424.out 2).trans rfl; have hfz7_0 := blk_frozen BK424.out 0; have hfz7_1 := blk_frozen BK424.out 1; have hfz7_2 := blk_frozen BK424.out 2)))
    go_ret
    exact ⟨by first | rfl | (simp [errW_none, errW_some] <;> rfl) | (simp [*, errW_none, errW_some] <;> rfl), by repeat (first | (with_reducible first | exact HB.out | apply below_alloc | apply pw_below_drewN | apply below_drew1 | refine below_set ?_ GE424.out) | exact HB.out)⟩
  · replace c3 := Bool.eq_false_iff.mpr c3
    subst c3
    have H1 : (some 0) = some r := by rw [if_neg (show ¬ (false = true) by decide)] at H; exact H
    clear H
    have H := H1
    clear H1
    obtain rfl := Option.some.inj H
    go_enter Try.func19, Try.ntmps19
    go_wp2_with (first | ((with_reducible refine gate_dst (N := 1) rfl ?_); refine box_event ?hg (N := 1) ?hd (cs := #[.int .i64 a0_0, .slice A0_1 l0_1.length c0_1, .slice A0_2 l0_2.length c0_2]) (t := 37) ?hr ?_; (case hd => rfl); (case hg => rfl); (case hr => first | (go_simp; done) | (go_simp; rfl)); intro gb424 hg w8 hbox hb; have n0_ := Aside0.mk (below_step (by repeat (first | (with_reducible first | exact HB.out | apply below_alloc | apply pw_below_drewN | apply below_drew1) | exact HB.out)) hb); have n1_ := Aside0.mk (hbox); have n2_ := Aside0.mk ((by rw [hg]; exact (below_size (by repeat (first | (with_reducible first | exact HB.out | apply below_alloc | apply pw_below_drewN | apply below_drew1) | exact HB.out))) : w.heap.size ≤ gb424)); have n3_ := Aside0.mk ((by rw [hg]; exact (below_size (by repeat (first | (with_reducible first | exact HB.out | apply below_alloc | apply pw_below_drewN | apply below_drew1) | exact HB.out))) : w.heap.size ≤ gb424)); clear HB; have HB := n0_; have BK424 := n1_; have GW424 := n2_; have GE424 := n3_; clear n0_ n1_ n2_ n3_; clear hb hbox hg; have hcz9_0 : w8.cell? ⟨gb424, 0, none⟩ = some (.int .i64 a0_0) := (blk_cell BK424.out 0).trans rfl; have hcz9_1 : w8.cell? ⟨gb424, 1, none⟩ = some (.slice A0_1 l0_1.length c0_1) := (blk_cell BK424.out 1).trans rfl; have hcz9_2 : w8.cell? ⟨gb424, 2, none⟩ = some (.slice A0_2 l0_2.length c0_2) := (blk_cell BK424.out 2).trans rfl; have hfz9_0 := blk_frozen BK424.out 0; have hfz9_1 := blk_frozen BK424.out 1; have hfz9_2 := blk_frozen BK424.out 2) | (go_at_call 16; (with_reducible refine (impl_ValidTxn.calls k a0_0 _ _ l0_1 _ _ l0_2 false _ ?side1 ?side2 ?side3 ?side4 A2.out).mono ?_); (case side1 => repeat (first | exact (Kd.C_below HR0_1.out HB.out) | (with_reducible refine Kd.C_alloc ?_ _) | (with_reducible refine Kd.C_drewN ?_ _) | (with_reducible refine Kd.C_drew ?_))); (case side2 => exact HC0_1.out); (case side3 => repeat (first | exact (Kd.C_below HR0_2.out HB.out) | (with_reducible refine Kd.C_alloc ?_ _) | (with_reducible refine Kd.C_drewN ?_ _) | (with_reducible refine Kd.C_drew ?_))); (case side4 => exact HC0_2.out); rintro e w10 ⟨rfl, hb⟩; have n0_ := Aside0.mk (blk_below (g := gb424) (o := .cells #[.int .i64 a0_0, .slice A0_1 l0_1.length c0_1, .slice A0_2 l0_2.length c0_2] 37 (0, 0)) (by (with_reducible repeat (first | refine blk_drewN ?_ _ | refine blk_drew ?_ | refine blk_alloc ?_ _)); exact BK424.out) hb); have n1_ := Aside0.mk (below_step (by repeat (first | (with_reducible first | exact HB.out | apply below_alloc | apply pw_below_drewN | apply below_drew1 | refine below_set ?_ GE424.out) | exact HB.out)) hb); clear BK424; clear HB; have BK424 := n0_; have HB := n1_; clear n0_ n1_; (try clear hb); (try clear hb2); (try clear hk); (try clear hi)))
    repeat (go_quiet (first | ((with_reducible refine gate_dst (N := 1) rfl ?_); refine box_event ?hg (N := 1) ?hd (cs := #[.int .i64 a0_0, .slice A0_1 l0_1.length c0_1, .slice A0_2 l0_2.length c0_2]) (t := 37) ?hr ?_; (case hd => rfl); (case hg => rfl); (case hr => first | (go_simp; done) | (go_simp; rfl)); intro gb424 hg w8 hbox hb; have n0_ := Aside0.mk (below_step (by repeat (first | (with_reducible first | exact HB.out | apply below_alloc | apply pw_below_drewN | apply below_drew1) | exact HB.out)) hb); have n1_ := Aside0.mk (hbox); have n2_ := Aside0.mk ((by rw [hg]; exact (below_size (by repeat (first | (with_reducible first | exact HB.out | apply below_alloc | apply pw_below_drewN | apply below_drew1) | exact HB.out))) : w.heap.size ≤ gb424)); have n3_ := Aside0.mk ((by rw [hg]; exact (below_size (by repeat (first | (with_reducible first | exact HB.out | apply below_alloc | apply pw_below_drewN | apply below_drew1) | exact HB.out))) : w.heap.size ≤ gb424)); clear HB; have HB := n0_; have BK424 := n1_; have GW424 := n2_; have GE424 := n3_; clear n0_ n1_ n2_ n3_; clear hb hbox hg; have hcz9_0 : w8.cell? ⟨gb424, 0, none⟩ = some (.int .i64 a0_0) := (blk_cell BK424.out 0).trans rfl; have hcz9_1 : w8.cell? ⟨gb424, 1, none⟩ = some (.slice A0_1 l0_1.length c0_1) := (blk_cell BK424.out 1).trans rfl; have hcz9_2 : w8.cell? ⟨gb424, 2, none⟩ = some (.slice A0_2 l0_2.length c0_2) := (blk_cell BK424.out 2).trans rfl; have hfz9_0 := blk_frozen BK424.out 0; have hfz9_1 := blk_frozen BK424.out 1; have hfz9_2 := blk_frozen BK424.out 2) | (go_at_call 16; (with_reducible refine (impl_ValidTxn.calls k a0_0 _ _ l0_1 _ _ l0_2 false _ ?side1 ?side2 ?side3 ?side4 A2.out).mono ?_); (case side1 => repeat (first | exact (Kd.C_below HR0_1.out HB.out) | (with_reducible refine Kd.C_alloc ?_ _) | (with_reducible refine Kd.C_drewN ?_ _) | (with_reducible refine Kd.C_drew ?_))); (case side2 => exact HC0_1.out); (case side3 => repeat (first | exact (Kd.C_below HR0_2.out HB.out) | (with_reducible refine Kd.C_alloc ?_ _) | (with_reducible refine Kd.C_drewN ?_ _) | (with_reducible refine Kd.C_drew ?_))); (case side4 => exact HC0_2.out); rintro e w10 ⟨rfl, hb⟩; have n0_ := Aside0.mk (blk_below (g := gb424) (o := .cells #[.int .i64 a0_0, .slice A0_1 l0_1.length c0_1, .slice A0_2 l0_2.length c0_2] 37 (0, 0)) (by (with_reducible repeat (first | refine blk_drewN ?_ _ | refine blk_drew ?_ | refine blk_alloc ?_ _)); exact BK424.out) hb); have n1_ := Aside0.mk (below_step (by repeat (first | (with_reducible first | exact HB.out | apply below_alloc | apply pw_below_drewN | apply below_drew1 | refine below_set ?_ GE424.out) | exact HB.out)) hb); clear BK424; clear HB; have BK424 := n0_; have HB := n1_; clear n0_ n1_; (try clear hb); (try clear hb2); (try clear hk); (try clear hi))); try go_wp2_with (first | ((with_reducible refine gate_dst (N := 1) rfl ?_); refine box_event ?hg (N := 1) ?hd (cs := #[.int .i64 a0_0, .slice A0_1 l0_1.length c0_1, .slice A0_2 l0_2.length c0_2]) (t := 37) ?hr ?_; (case hd => rfl); (case hg => rfl); (case hr => first | (go_simp; done) | (go_simp; rfl)); intro gb424 hg w8 hbox hb; have n0_ := Aside0.mk (below_step (by repeat (first | (with_reducible first | exact HB.out | apply below_alloc | apply pw_below_drewN | apply below_drew1) | exact HB.out)) hb); have n1_ := Aside0.mk (hbox); have n2_ := Aside0.mk ((by rw [hg]; exact (below_size (by repeat (first | (with_reducible first | exact HB.out | apply below_alloc | apply pw_below_drewN | apply below_drew1) | exact HB.out))) : w.heap.size ≤ gb424)); have n3_ := Aside0.mk ((by rw [hg]; exact (below_size (by repeat (first | (with_reducible first | exact HB.out | apply below_alloc | apply pw_below_drewN | apply below_drew1) | exact HB.out))) : w.heap.size ≤ gb424)); clear HB; have HB := n0_; have BK424 := n1_; have GW424 := n2_; have GE424 := n3_; clear n0_ n1_ n2_ n3_; clear hb hbox hg; have hcz9_0 : w8.cell? ⟨gb424, 0, none⟩ = some (.int .i64 a0_0) := (blk_cell BK424.out 0).trans rfl; have hcz9_1 : w8.cell? ⟨gb424, 1, none⟩ = some (.slice A0_1 l0_1.length c0_1) := (blk_cell BK424.out 1).trans rfl; have hcz9_2 : w8.cell? ⟨gb424, 2, none⟩ = some (.slice A0_2 l0_2.length c0_2) := (blk_cell BK424.out 2).trans rfl; have hfz9_0 := blk_frozen BK424.out 0; have hfz9_1 := blk_frozen BK424.out 1; have hfz9_2 := blk_frozen BK424.out 2) | (go_at_call 16; (with_reducible refine (impl_ValidTxn.calls k a0_0 _ _ l0_1 _ _ l0_2 false _ ?side1 ?side2 ?side3 ?side4 A2.out).mono ?_); (case side1 => repeat (first | exact (Kd.C_below HR0_1.out HB.out) | (with_reducible refine Kd.C_alloc ?_ _) | (with_reducible refine Kd.C_drewN ?_ _) | (with_reducible refine Kd.C_drew ?_))); (case side2 => exact HC0_1.out); (case side3 => repeat (first | exact (Kd.C_below HR0_2.out HB.out) | (with_reducible refine Kd.C_alloc ?_ _) | (with_reducible refine Kd.C_drewN ?_ _) | (with_reducible refine Kd.C_drew ?_))); (case side4 => exact HC0_2.out); rintro e w10 ⟨rfl, hb⟩; have n0_ := Aside0.mk (blk_below (g := gb424) (o := .cells #[.int .i64 a0_0, .slice A0_1 l0_1.length c0_1, .slice A0_2 l0_2.length c0_2] 37 (0, 0)) (by (with_reducible repeat (first | refine blk_drewN ?_ _ | refine blk_drew ?_ | refine blk_alloc ?_ _)); exact BK424.out) hb); have n1_ := Aside0.mk (below_step (by repeat (first | (with_reducible first | exact HB.out | apply below_alloc | apply pw_below_drewN | apply below_drew1 | refine below_set ?_ GE424.out) | exact HB.out)) hb); clear BK424; clear HB; have BK424 := n0_; have HB := n1_; clear n0_ n1_; (try clear hb); (try clear hb2); (try clear hk); (try clear hi))))
    go_ret
    exact ⟨by first | rfl | (simp [errW_none, errW_some] <;> rfl) | (simp [*, errW_none, errW_some] <;> rfl), by repeat (first | (with_reducible first | exact HB.out | apply below_alloc | apply pw_below_drewN | apply below_drew1 | refine below_set ?_ GE424.out) | exact HB.out)⟩

/-! ### laws_FnExactTxnLength: function 5 -/
def laws_FnExactTxnLength.f (k : Nat) (a0_0 : Int) (l0_1 : List (S78)) (l0_2 : List Int) : Option (Bool) := (laws_szTxn.f k a0_0 l0_1 l0_2 1048576).bind fun t427 => (if t427 < 0 then (some true) else ((laws_toTxn.f k a0_0 l0_1 l0_2).bind fun bt428 => ((spec_TxnLength.f k bt428.1 bt428.2.1 bt428.2.2).bind fun t435 => ((laws_toTxn.f k a0_0 l0_1 l0_2).bind fun bt436 => ((impl_TxnLength.f k bt436.1 bt436.2.1 bt436.2.2).bind fun t444 => (if t444 = t435 then ((laws_toTxn.f k a0_0 l0_1 l0_2).bind fun bt445 => ((laws_eqTxn.f k bt436.1 bt436.2.1 bt436.2.2 bt445.1 bt445.2.1 bt445.2.2).bind fun t452 => (if t452 = true then (some true) else (some false)))) else (some false)))))))
theorem laws_FnExactTxnLength.mono : ∀ a0 a1 a2 k, LeO (laws_FnExactTxnLength.f k a0 a1 a2) (laws_FnExactTxnLength.f (k + 1) a0 a1 a2) := by
  intro a0 a1 a2 k
  unfold laws_FnExactTxnLength.f
  repeat' first
      | (with_reducible exact impl_TxnLength.mono _ _ _ _)
      | (with_reducible exact laws_eqTxn.mono _ _ _ _ _ _ _)
      | (with_reducible exact laws_szTxn.mono _ _ _ _ _)
      | (with_reducible exact laws_toTxn.mono _ _ _ _)
      | (with_reducible exact spec_TxnLength.mono _ _ _ _)
      | (with_reducible exact LeO.refl _)
      | (with_reducible exact LeO.none _)
      | (with_reducible refine LeO.ite ?_ ?_)
      | (with_reducible refine LeO.bind ?_ (fun _ => ?_))
      | exact impl_TxnLength.mono _ _ _ _
      | exact laws_eqTxn.mono _ _ _ _ _ _ _
      | exact laws_szTxn.mono _ _ _ _ _
      | exact laws_toTxn.mono _ _ _ _
      | exact spec_TxnLength.mono _ _ _ _
      | exact LeO.none _
      | refine LeO.ite ?_ ?_
      | refine LeO.bind ?_ (fun _ => ?_)
set_option maxHeartbeats 8000000 in
set_option maxRecDepth 100000 in
theorem laws_FnExactTxnLength.calls (k : Nat) (a0_0 : Int) (A0_1 : Option Addr) (c0_1 : Nat) (l0_1 : List (S78)) (A0_2 : Option Addr) (c0_2 : Nat) (l0_2 : List Int) (r : Bool) (w : World) (hr0_1 : Kd.C k78 w A0_1 l0_1.length l0_1) (hc0_1 : l0_1.length ≤ c0_1) (hr0_2 : Kd.C (Kd.int .i64) w A0_2 l0_2.length l0_2) (hc0_2 : l0_2.length ≤ c0_2) (h : laws_FnExactTxnLength.f k a0_0 l0_1 l0_2 = some r) (hrt : Aside0 (r = true)) :
    Calls Try.prog 5 #[.agg #[.int .i64 a0_0, .slice A0_1 l0_1.length c0_1, .slice A0_2 l0_2.length c0_2]] w fun e w' => e = .returned (.bool r) ∧ Below w.heap.size w w' := by
  have hu32 := Try.underlying32
  have hu37 := Try.underlying37
  have HR0_1 := Aside0.mk hr0_1
  have HC0_1 := Aside0.mk hc0_1
  clear hr0_1 hc0_1
  have HR0_2 := Aside0.mk hr0_2
  have HC0_2 := Aside0.mk hc0_2
  clear hr0_2 hc0_2
  have HB := Aside0.mk (Below.refl w.heap.size w)
  have H : ((laws_szTxn.f k a0_0 l0_1 l0_2 1048576).bind fun t427 => (if t427 < 0 then (some true) else ((laws_toTxn.f k a0_0 l0_1 l0_2).bind fun bt428 => ((spec_TxnLength.f k bt428.1 bt428.2.1 bt428.2.2).bind fun t435 => ((laws_toTxn.f k a0_0 l0_1 l0_2).bind fun bt436 => ((impl_TxnLength.f k bt436.1 bt436.2.1 bt436.2.2).bind fun t444 => (if t444 = t435 then ((laws_toTxn.f k a0_0 l0_1 l0_2).bind fun bt445 => ((laws_eqTxn.f k bt436.1 bt436.2.1 bt436.2.2 bt445.1 bt445.2.1 bt445.2.2).bind fun t452 => (if t452 = true then (some true) else (some false)))) else (some false)))))))) = some r := h
  clear h
  replace H := Option.bind_eq_some_iff.mp H
  obtain ⟨t427, A20, H⟩ := H
  replace H : (if t427 < 0 then (some true) else ((laws_toTxn.f k a0_0 l0_1 l0_2).bind fun bt428 => ((spec_TxnLength.f k bt428.1 bt428.2.1 bt428.2.2).bind fun t435 => ((laws_toTxn.f k a0_0 l0_1 l0_2).bind fun bt436 => ((impl_TxnLength.f k bt436.1 bt436.2.1 bt436.2.2).bind fun t444 => (if t444 = t435 then ((laws_toTxn.f k a0_0 l0_1 l0_2).bind fun bt445 => ((laws_eqTxn.f k bt436.1 bt436.2.1 bt436.2.2 bt445.1 bt445.2.1 bt445.2.2).bind fun t452 => (if t452 = true then (some true) else (some false)))) else (some false))))))) = some r := H
  have A2 := Aside0.mk A20
  clear A20
  by_cases c3 : t427 < 0
  · rw [if_pos c3] at H
    have c3b0 : decide (t427 < 0) = true := decide_eq_true c3
    clear c3
    obtain rfl := Option.some.inj H
    go_enter Try.func5, Try.ntmps5
    go_wp2_with (first | ((with_reducible refine gate_dst (N := 1) rfl ?_); refine box_event ?hg (N := 1) ?hd (cs := #[.int .i64 a0_0, .slice A0_1 l0_1.length c0_1, .slice A0_2 l0_2.length c0_2]) (t := 32) ?hr ?_; (case hd => rfl); (case hg => rfl); (case hr => first | (go_simp; done) | (go_simp; rfl)); intro gb426 hg w4 hbox hb; have n0_ := Aside0.mk (below_step (by repeat (first | (with_reducible first | exact HB.out | apply below_alloc | apply pw_below_drewN | apply below_drew1) | exact HB.out)) hb); have n1_ := Aside0.mk (hbox); have n2_ := Aside0.mk ((by rw [hg]; exact (below_size (by repeat (first | (with_reducible first | exact HB.out | apply below_alloc | apply pw_below_drewN | apply below_drew1) | exact HB.out))) : w.heap.size ≤ gb426)); have n3_ := Aside0.mk ((by rw [hg]; exact (below_size (by repeat (first | (with_reducible first | exact HB.out | apply below_alloc | apply pw_below_drewN | apply below_drew1) | exact HB.out))) : w.heap.size ≤ gb426)); clear HB; have HB := n0_; have BK426 := n1_; have GW426 := n2_; have GE426 := n3_; clear n0_ n1_ n2_ n3_; clear hb hbox hg; have hcz5_0 : w4.cell? ⟨gb426, 0, none⟩ = some (.int .i64 a0_0) := (blk_cell BK426.out 0).trans rfl; have hcz5_1 : w4.cell? ⟨gb426, 1, none⟩ = some (.slice A0_1 l0_1.length c0_1) := (blk_cell BK426.out 1).trans rfl; have hcz5_2 : w4.cell? ⟨gb426, 2, none⟩ = some (.slice A0_2 l0_2.length c0_2) := (blk_cell BK426.out 2).trans rfl; have hfz5_0 := blk_frozen BK426.out 0; have hfz5_1 := blk_frozen BK426.out 1; have hfz5_2 := blk_frozen BK426.out 2) | ((with_reducible refine gate_callee (f := 13) rfl ?_); refine goesL_ (some 9) rfl rfl Try.func13 (by kernel_rfl) rfl #[.agg #[.int .i64 a0_0, .slice A0_1 l0_1.length c0_1, .slice A0_2 l0_2.length c0_2], .int .i64 1048576] rfl (by (try simp only [List.map_toArray, List.map_cons, List.map_nil]); first | done | rfl | (simp only [List.length_drop, List.length_take]; rfl)) ?_; (with_reducible refine (laws_szTxn.calls k a0_0 _ _ l0_1 _ _ l0_2 1048576 t427 _ ?side1 ?side2 ?side3 ?side4 A2.out).mono ?_); (case side1 => repeat (first | exact (Kd.C_below HR0_1.out HB.out) | (with_reducible refine Kd.C_alloc ?_ _) | (with_reducible refine Kd.C_drewN ?_ _) | (with_reducible refine Kd.C_drew ?_))); (case side2 => exact HC0_1.out); (case side3 => repeat (first | exact (Kd.C_below HR0_2.out HB.out) | (with_reducible refine Kd.C_alloc ?_ _) | (with_reducible refine Kd.C_drewN ?_ _) | (with_reducible refine Kd.C_drew ?_))); (case side4 => exact HC0_2.out); rintro e w6 ⟨rfl, hb⟩; refine ⟨_, rfl, ?_⟩; have n0_ := Aside0.mk (blk_below (g := gb426) (o := .cells #[.int .i64 a0_0, .slice A0_1 l0_1.length c0_1, .slice A0_2 l0_2.length c0_2] 32 (0, 0)) (by (with_reducible repeat (first | refine blk_drewN ?_ _ | refine blk_drew ?_ | refine blk_alloc ?_ _)); exact BK426.out) hb); have n1_ := Aside0.mk (below_step (by repeat (first | (with_reducible first | exact HB.out | apply below_alloc | apply pw_below_drewN | apply below_drew1 | refine below_set ?_ GE426.out) | exact HB.out)) hb); clear BK426; clear HB; have BK426 := n0_; have HB := n1_; clear n0_ n1_; (try clear hb); (try clear hb2); (try clear hk); (try clear hi)))
    go_ret
    exact ⟨by first | rfl | (simp [errW_none, errW_some] <;> rfl) | (simp [*, errW_none, errW_some] <;> rfl), by repeat (first | (with_reducible first | exact HB.out | apply below_alloc | apply pw_below_drewN | apply below_drew1 | refine below_set ?_ GE426.out) | exact HB.out)⟩
  · rw [if_neg c3] at H
    have c3b0 : decide (t427 < 0) = false := decide_eq_false c3
    clear c3
    replace H := Option.bind_eq_some_iff.mp H
    obtain ⟨⟨t428, t429, t432⟩, A70, H⟩ := H
    replace H : ((spec_TxnLength.f k t428 t429 t432).bind fun t435 => ((laws_toTxn.f k a0_0 l0_1 l0_2).bind fun bt436 => ((impl_TxnLength.f k bt436.1 bt436.2.1 bt436.2.2).bind fun t444 => (if t444 = t435 then ((laws_toTxn.f k a0_0 l0_1 l0_2).bind fun bt445 => ((laws_eqTxn.f k bt436.1 bt436.2.1 bt436.2.2 bt445.1 bt445.2.1 bt445.2.2).bind fun t452 => (if t452 = true then (some true) else (some false)))) else (some false))))) = some r := H
    have A7 := Aside0.mk A70
    clear A70
    replace H := Option.bind_eq_some_iff.mp H
    obtain ⟨t435, A80, H⟩ := H
    replace H : ((laws_toTxn.f k a0_0 l0_1 l0_2).bind fun bt436 => ((impl_TxnLength.f k bt436.1 bt436.2.1 bt436.2.2).bind fun t444 => (if t444 = t435 then ((laws_toTxn.f k a0_0 l0_1 l0_2).bind fun bt445 => ((laws_eqTxn.f k bt436.1 bt436.2.1 bt436.2.2 bt445.1 bt445.2.1 bt445.2.2).bind fun t452 => (if t452 = true then (some true) else (some false)))) else (some false)))) = some r := H
    have A8 := Aside0.mk A80
    clear A80
    replace H := Option.bind_eq_some_iff.mp H
    obtain ⟨⟨t436, t437, t440⟩, A90, H⟩ := H
    replace H : ((impl_TxnLength.f k t436 t437 t440).bind fun t444 => (if t444 = t435 then ((laws_toTxn.f k a0_0 l0_1 l0_2).bind fun bt445 => ((laws_eqTxn.f k t436 t437 t440 bt445.1 bt445.2.1 bt445.2.2).bind fun t452 => (if t452 = true then (some true) else (some false)))) else (some false))) = some r := H
    have A9 := Aside0.mk A90
    clear A90
    replace H := Option.bind_eq_some_iff.mp H
    obtain ⟨t444, A100, H⟩ := H
    replace H : (if t444 = t435 then ((laws_toTxn.f k a0_0 l0_1 l0_2).bind fun bt445 => ((laws_eqTxn.f k t436 t437 t440 bt445.1 bt445.2.1 bt445.2.2).bind fun t452 => (if t452 = true then (some true) else (some false)))) else (some false)) = some r := H
    have A10 := Aside0.mk A100
    clear A100
    by_cases c11 : t444 = t435
    · rw [if_pos c11] at H
      have c11b0 : (t444 == t435) = true := beq_iff_eq.mpr c11
      have c11b1 : (t444 != t435) = false := bne_eq_false_iff_eq.mpr c11
      clear c11
      replace H := Option.bind_eq_some_iff.mp H
      obtain ⟨⟨t445, t446, t449⟩, A120, H⟩ := H
      replace H : ((laws_eqTxn.f k t436 t437 t440 t445 t446 t449).bind fun t452 => (if t452 = true then (some true) else (some false))) = some r := H
      have A12 := Aside0.mk A120
      clear A120
      replace H := Option.bind_eq_some_iff.mp H
      obtain ⟨t452, A130, H⟩ := H
      replace H : (if t452 = true then (some true) else (some false)) = some r := H
      have A13 := Aside0.mk A130
      clear A130
      by_cases c14 : t452 = true
      · subst c14
        have H1 : (some true) = some r := by rw [if_pos rfl] at H; exact H
        clear H
        have H := H1
        clear H1
        obtain rfl := Option.some.inj H
        go_enter Try.func5, Try.ntmps5
        try go_wp2_with (first | ((with_reducible refine gate_dst (N := 1) rfl ?_); refine box_event ?hg (N := 1) ?hd (cs := #[.int .i64 a0_0, .slice A0_1 l0_1.length c0_1, .slice A0_2 l0_2.length c0_2]) (t := 32) ?hr ?_; (case hd => rfl); (case hg => rfl); (case hr => first | (go_simp; done) | (go_simp; rfl)); intro gb426 hg w15 hbox hb; have n0_ := Aside0.mk (below_step (by repeat (first | (with_reducible first | exact HB.out | apply below_alloc | apply pw_below_drewN | apply below_drew1) | exact HB.out)) hb); have n1_ := Aside0.mk (hbox); have n2_ := Aside0.mk ((by rw [hg]; exact (below_size (by repeat (first | (with_reducible first | exact HB.out | apply below_alloc | apply pw_below_drewN | apply below_drew1) | exact HB.out))) : w.heap.size ≤ gb426)); have n3_ := Aside0.mk ((by rw [hg]; exact (below_size (by repeat (first | (with_reducible first | exact HB.out | apply below_alloc | apply pw_below_drewN | apply below_drew1) | exact HB.out))) : w.heap.size ≤ gb426)); clear HB; have HB := n0_; have BK426 := n1_; have GW426 := n2_; have GE426 := n3_; clear n0_ n1_ n2_ n3_; clear hb hbox hg; have hcz16_0 : w15.cell? ⟨gb426, 0, none⟩ = some (.int .i64 a0_0) := (blk_cell BK426.out 0).trans rfl; have hcz16_1 : w15.cell? ⟨gb426, 1, none⟩ = some (.slice A0_1 l0_1.length c0_1) := (blk_cell BK426.out 1).trans rfl; have hcz16_2 : w15.cell? ⟨gb426, 2, none⟩ = some (.slice A0_2 l0_2.length c0_2) := (blk_cell BK426.out 2).trans rfl; have hfz16_0 := blk_frozen BK426.out 0; have hfz16_1 := blk_frozen BK426.out 1; have hfz16_2 := blk_frozen BK426.out 2) | ((with_reducible refine gate_callee (f := 13) rfl ?_); refine goesL_ (some 9) rfl rfl Try.func13 (by kernel_rfl) rfl #[.agg #[.int .i64 a0_0, .slice A0_1 l0_1.length c0_1, .slice A0_2 l0_2.length c0_2], .int .i64 1048576] rfl (by (try simp only [List.map_toArray, List.map_cons, List.map_nil]); first | done | rfl | (simp only [List.length_drop, List.length_take]; rfl)) ?_; (with_reducible refine (laws_szTxn.calls k a0_0 _ _ l0_1 _ _ l0_2 1048576 t427 _ ?side1 ?side2 ?side3 ?side4 A2.out).mono ?_); (case side1 => repeat (first | exact (Kd.C_below HR0_1.out HB.out) | (with_reducible refine Kd.C_alloc ?_ _) | (with_reducible refine Kd.C_drewN ?_ _) | (with_reducible refine Kd.C_drew ?_))); (case side2 => exact HC0_1.out); (case side3 => repeat (first | exact (Kd.C_below HR0_2.out HB.out) | (with_reducible refine Kd.C_alloc ?_ _) | (with_reducible refine Kd.C_drewN ?_ _) | (with_reducible refine Kd.C_drew ?_))); (case side4 => exact HC0_2.out); rintro e w17 ⟨rfl, hb⟩; refine ⟨_, rfl, ?_⟩; have n0_ := Aside0.mk (blk_below (g := gb426) (o := .cells #[.int .i64 a0_0, .slice A0_1 l0_1.length c0_1, .slice A0_2 l0_2.length c0_2] 32 (0, 0)) (by (with_reducible repeat (first | refine blk_drewN ?_ _ | refine blk_drew ?_ | refine blk_alloc ?_ _)); exact BK426.out) hb); have n1_ := Aside0.mk (below_step (by repeat (first | (with_reducible first | exact HB.out | apply below_alloc | apply pw_below_drewN | apply below_drew1 | refine below_set ?_ GE426.out) | exact HB.out)) hb); clear BK426; clear HB; have BK426 := n0_; have HB := n1_; clear n0_ n1_; (try clear hb); (try clear hb2); (try clear hk); (try clear hi); have hcz18_0 : w17.cell? ⟨gb426, 0, none⟩ = some (.int .i64 a0_0) := (blk_cell BK426.out 0).trans rfl; have hcz18_1 : w17.cell? ⟨gb426, 1, none⟩ = some (.slice A0_1 l0_1.length c0_1) := (blk_cell BK426.out 1).trans rfl; have hcz18_2 : w17.cell? ⟨gb426, 2, none⟩ = some (.slice A0_2 l0_2.length c0_2) := (blk_cell BK426.out 2).trans rfl; have hfz18_0 := blk_frozen BK426.out 0; have hfz18_1 := blk_frozen BK426.out 1; have hfz18_2 := blk_frozen BK426.out 2) | ((with_reducible refine gate_callee (f := 15) rfl ?_); refine goesL_ (some 13) rfl rfl Try.func15 (by kernel_rfl) rfl #[.agg #[.int .i64 a0_0, .slice A0_1 l0_1.length c0_1, .slice A0_2 l0_2.length c0_2]] rfl (by (try simp only [List.map_toArray, List.map_cons, List.map_nil]); first | done | rfl | (simp only [List.length_drop, List.length_take]; rfl)) ?_; (with_reducible refine (laws_toTxn.calls k a0_0 _ _ l0_1 _ _ l0_2 t428 t429 t432 _ ?side1 ?side2 ?side3 ?side4 A7.out).mono ?_); (case side1 => repeat (first | exact (Kd.C_below HR0_1.out HB.out) | (with_reducible refine Kd.C_alloc ?_ _) | (with_reducible refine Kd.C_drewN ?_ _) | (with_reducible refine Kd.C_drew ?_))); (case side2 => exact HC0_1.out); (case side3 => repeat (first | exact (Kd.C_below HR0_2.out HB.out) | (with_reducible refine Kd.C_alloc ?_ _) | (with_reducible refine Kd.C_drewN ?_ _) | (with_reducible refine Kd.C_drew ?_))); (case side4 => exact HC0_2.out); rintro e w19 ⟨v430, v433, rfl, ho0, ho1, hb⟩; refine ⟨_, rfl, ?_⟩; have n0_ := Aside0.mk (Kd.S_lower ho0 (below_size (by repeat (first | (with_reducible first | exact HB.out | apply below_alloc | apply pw_below_drewN | apply below_drew1 | refine below_set ?_ GE426.out) | exact HB.out)))); have n1_ := Aside0.mk (Kd.R_lower ho1 (below_size (by repeat (first | (with_reducible first | exact HB.out | apply below_alloc | apply pw_below_drewN | apply below_drew1 | refine below_set ?_ GE426.out) | exact HB.out)))); have n2_ := Aside0.mk (blk_below (g := gb426) (o := .cells #[.int .i64 a0_0, .slice A0_1 l0_1.length c0_1, .slice A0_2 l0_2.length c0_2] 32 (0, 0)) (by (with_reducible repeat (first | refine blk_drewN ?_ _ | refine blk_drew ?_ | refine blk_alloc ?_ _)); exact BK426.out) hb); have n3_ := Aside0.mk (below_step (by repeat (first | (with_reducible first | exact HB.out | apply below_alloc | apply pw_below_drewN | apply below_drew1 | refine below_set ?_ GE426.out) | exact HB.out)) hb); clear BK426; clear HB; have HO431 := n0_; have HO434 := n1_; have BK426 := n2_; have HB := n3_; clear n0_ n1_ n2_ n3_; (try clear hb); (try clear hb2); (try clear hk); (try clear hi); (try clear ho0); (try clear ho1); obtain ⟨Ao20, co20, eo20⟩ := Kd.S_slice HO431.out; subst eo20; obtain ⟨Ao21, co21, eo21⟩ := Kd.R_slice HO434.out; subst eo21) | ((with_reducible refine gate_callee (f := 18) rfl ?_); refine goesL_ (some 14) rfl rfl Try.func18 (by kernel_rfl) rfl #[.agg #[.int .i64 t428, .slice Ao20 t429.length co20, .slice Ao21 t432.length co21]] rfl (by (try simp only [List.map_toArray, List.map_cons, List.map_nil]); first | done | rfl | (simp only [List.length_drop, List.length_take]; rfl)) ?_; (with_reducible refine (spec_TxnLength.calls k t428 _ _ t429 _ _ t432 t435 _ ?side1 ?side2 ?side3 ?side4 A8.out).mono ?_); (case side1 => repeat (first | exact (Kd.S_reads' HO431.out).2.2 | (with_reducible refine Kd.C_alloc ?_ _) | (with_reducible refine Kd.C_drewN ?_ _) | (with_reducible refine Kd.C_drew ?_))); (case side2 => exact (Kd.S_reads' HO431.out).2.1); (case side3 => repeat (first | exact (Kd.R_reads' HO434.out).2.2 | (with_reducible refine Kd.C_alloc ?_ _) | (with_reducible refine Kd.C_drewN ?_ _) | (with_reducible refine Kd.C_drew ?_))); (case side4 => exact (Kd.R_reads' HO434.out).2.1); rintro e w22 ⟨rfl, hb⟩; refine ⟨_, rfl, ?_⟩; have n0_ := Aside0.mk (Kd.S_below (by (with_reducible repeat (first | apply Kd.S_alloc | apply Kd.S_drewN | apply Kd.S_drew)); exact HO431.out) hb); have n1_ := Aside0.mk (Kd.R_below (by (with_reducible repeat (first | apply Kd.R_alloc | apply Kd.R_drewN | apply Kd.R_drew)); exact HO434.out) hb); have n2_ := Aside0.mk (blk_below (g := gb426) (o := .cells #[.int .i64 a0_0, .slice A0_1 l0_1.length c0_1, .slice A0_2 l0_2.length c0_2] 32 (0, 0)) (by (with_reducible repeat (first | refine blk_drewN ?_ _ | refine blk_drew ?_ | refine blk_alloc ?_ _)); exact BK426.out) hb); have n3_ := Aside0.mk (below_step (by repeat (first | (with_reducible first | exact HB.out | apply below_alloc | apply pw_below_drewN | apply below_drew1 | refine below_set ?_ GE426.out) | exact HB.out)) hb); clear HO431; clear HO434; clear BK426; clear HB; have HO431 := n0_; have HO434 := n1_; have BK426 := n2_; have HB := n3_; clear n0_ n1_ n2_ n3_; (try clear hb); (try clear hb2); (try clear hk); (try clear hi); have hcz23_0 : w22.cell? ⟨gb426, 0, none⟩ = some (.int .i64 a0_0) := (blk_cell BK426.out 0).trans rfl; have hcz23_1 : w22.cell? ⟨gb426, 1, none⟩ = some (.slice A0_1 l0_1.length c0_1) := (blk_cell BK426.out 1).trans rfl; have hcz23_2 : w22.cell? ⟨gb426, 2, none⟩ = some (.slice A0_2 l0_2.length c0_2) := (blk_cell BK426.out 2).trans rfl; have hfz23_0 := blk_frozen BK426.out 0; have hfz23_1 := blk_frozen BK426.out 1; have hfz23_2 := blk_frozen BK426.out 2) | ((with_reducible refine gate_callee (f := 15) rfl ?_); refine goesL_ (some 16) rfl rfl Try.func15 (by kernel_rfl) rfl #[.agg #[.int .i64 a0_0, .slice A0_1 l0_1.length c0_1, .slice A0_2 l0_2.length c0_2]] rfl (by (try simp only [List.map_toArray, List.map_cons, List.map_nil]); first | done | rfl | (simp only [List.length_drop, List.length_take]; rfl)) ?_; (with_reducible refine (laws_toTxn.calls k a0_0 _ _ l0_1 _ _ l0_2 t436 t437 t440 _ ?side1 ?side2 ?side3 ?side4 A9.out).mono ?_); (case side1 => repeat (first | exact (Kd.C_below HR0_1.out HB.out) | (with_reducible refine Kd.C_alloc ?_ _) | (with_reducible refine Kd.C_drewN ?_ _) | (with_reducible refine Kd.C_drew ?_))); (case side2 => exact HC0_1.out); (case side3 => repeat (first | exact (Kd.C_below HR0_2.out HB.out) | (with_reducible refine Kd.C_alloc ?_ _) | (with_reducible refine Kd.C_drewN ?_ _) | (with_reducible refine Kd.C_drew ?_))); (case side4 => exact HC0_2.out); rintro e w24 ⟨v438, v441, rfl, ho0, ho1, hb⟩; refine ⟨_, rfl, ?_⟩; have n0_ := Aside0.mk (Kd.S_elder' (by (with_reducible repeat (first | apply Kd.S_alloc | apply Kd.S_drewN | apply Kd.S_drew)); exact HO431.out) (Kd.S_base ho0) hb); have n1_ := Aside0.mk (Kd.R_elder' (by (with_reducible repeat (first | apply Kd.R_alloc | apply Kd.R_drewN | apply Kd.R_drew)); exact HO434.out) (Kd.R_base ho1) hb); have n2_ := Aside0.mk (Kd.S_lower (Kd.S_new' ho0 (Kd.S_lt (by (with_reducible repeat (first | apply Kd.S_alloc | apply Kd.S_drewN | apply Kd.S_drew)); exact HO431.out))) (below_size (by repeat (first | (with_reducible first | exact HB.out | apply below_alloc | apply pw_below_drewN | apply below_drew1 | refine below_set ?_ GE426.out) | exact HB.out)))); have n3_ := Aside0.mk (Kd.R_lower (Kd.R_new' ho1 (Kd.R_lt (by (with_reducible repeat (first | apply Kd.R_alloc | apply Kd.R_drewN | apply Kd.R_drew)); exact HO434.out))) (below_size (by repeat (first | (with_reducible first | exact HB.out | apply below_alloc | apply pw_below_drewN | apply below_drew1 | refine below_set ?_ GE426.out) | exact HB.out)))); have n4_ := Aside0.mk (blk_below (g := gb426) (o := .cells #[.int .i64 a0_0, .slice A0_1 l0_1.length c0_1, .slice A0_2 l0_2.length c0_2] 32 (0, 0)) (by (with_reducible repeat (first | refine blk_drewN ?_ _ | refine blk_drew ?_ | refine blk_alloc ?_ _)); exact BK426.out) hb); have n5_ := Aside0.mk (below_step (by repeat (first | (with_reducible first | exact HB.out | apply below_alloc | apply pw_below_drewN | apply below_drew1 | refine below_set ?_ GE426.out) | exact HB.out)) hb); clear HO431; clear HO434; clear BK426; clear HB; have HO431 := n0_; have HO434 := n1_; have HO439 := n2_; have HO442 := n3_; have BK426 := n4_; have HB := n5_; clear n0_ n1_ n2_ n3_ n4_ n5_; (try clear hb); (try clear hb2); (try clear hk); (try clear hi); (try clear ho0); (try clear ho1)) | ((with_reducible refine gate_dst (N := 5) rfl ?_); refine box_event ?hg (N := 5) ?hd (cs := #[.int .i64 0, .slice none 0 0, .slice none 0 0]) (t := 37) ?hr ?_; (case hd => rfl); (case hg => rfl); (case hr => first | (go_simp; done) | (go_simp; rfl)); intro gb443 hg w25 hbox hb; have n0_ := Aside0.mk (Kd.S_below (by (with_reducible repeat (first | apply Kd.S_alloc | apply Kd.S_drewN | apply Kd.S_drew)); exact HO431.out) hb); have n1_ := Aside0.mk (Kd.R_below (by (with_reducible repeat (first | apply Kd.R_alloc | apply Kd.R_drewN | apply Kd.R_drew)); exact HO434.out) hb); have n2_ := Aside0.mk (Kd.S_below (by (with_reducible repeat (first | apply Kd.S_alloc | apply Kd.S_drewN | apply Kd.S_drew)); exact HO439.out) hb); have n3_ := Aside0.mk (Kd.R_below (by (with_reducible repeat (first | apply Kd.R_alloc | apply Kd.R_drewN | apply Kd.R_drew)); exact HO442.out) hb); have n4_ := Aside0.mk (blk_below (g := gb426) (o := .cells #[.int .i64 a0_0, .slice A0_1 l0_1.length c0_1, .slice A0_2 l0_2.length c0_2] 32 (0, 0)) (by (with_reducible repeat (first | refine blk_drewN ?_ _ | refine blk_drew ?_ | refine blk_alloc ?_ _)); exact BK426.out) hb); have n5_ := Aside0.mk (below_step (by repeat (first | (with_reducible first | exact HB.out | apply below_alloc | apply pw_below_drewN | apply below_drew1 | refine below_set ?_ GE426.out) | exact HB.out)) hb); have n6_ := Aside0.mk (hbox); have n7_ := Aside0.mk ((by rw [hg]; exact (below_size (by repeat (first | (with_reducible first | exact HB.out | apply below_alloc | apply pw_below_drewN | apply below_drew1 | refine below_set ?_ GE426.out) | exact HB.out))) : w.heap.size ≤ gb443)); have n8_ := Aside0.mk ((by rw [hg]; exact (below_size (by repeat (first | (with_reducible first | exact HB.out | apply below_alloc | apply pw_below_drewN | apply below_drew1 | refine below_set ?_ GE426.out) | exact HB.out))) : w.heap.size ≤ gb443)); have n9_ := Aside0.mk ((by rw [hg]; exact Nat.ne_of_lt (blk_lt (g := gb426) (o := .cells #[.int .i64 a0_0, .slice A0_1 l0_1.length c0_1, .slice A0_2 l0_2.length c0_2] 32 (0, 0)) (by (with_reducible repeat (first | refine blk_drewN ?_ _ | refine blk_drew ?_ | refine blk_alloc ?_ _)); exact BK426.out)) : gb426 ≠ gb443)); have n10_ := Aside0.mk ((by rw [hg]; exact Nat.ne_of_gt (blk_lt (g := gb426) (o := .cells #[.int .i64 a0_0, .slice A0_1 l0_1.length c0_1, .slice A0_2 l0_2.length c0_2] 32 (0, 0)) (by (with_reducible repeat (first | refine blk_drewN ?_ _ | refine blk_drew ?_ | refine blk_alloc ?_ _)); exact BK426.out)) : gb443 ≠ gb426)); clear HO431; clear HO434; clear HO439; clear HO442; clear BK426; clear HB; have HO431 := n0_; have HO434 := n1_; have HO439 := n2_; have HO442 := n3_; have BK426 := n4_; have HB := n5_; have BK443 := n6_; have GW443 := n7_; have GE443 := n8_; have NB426_443 := n9_; have NB443_426 := n10_; clear n0_ n1_ n2_ n3_ n4_ n5_ n6_ n7_ n8_ n9_ n10_; clear hb hbox hg; have hnb26 := NB443_426.out; have hnc26 := NB426_443.out; have hcz27_0 : w25.cell? ⟨gb443, 0, none⟩ = some (.int .i64 0) := (blk_cell BK443.out 0).trans rfl; have hcz27_1 : w25.cell? ⟨gb443, 1, none⟩ = some (.slice none 0 0) := (blk_cell BK443.out 1).trans rfl; have hcz27_2 : w25.cell? ⟨gb443, 2, none⟩ = some (.slice none 0 0) := (blk_cell BK443.out 2).trans rfl; have hfz27_0 := blk_frozen BK443.out 0; have hfz27_1 := blk_frozen BK443.out 1; have hfz27_2 := blk_frozen BK443.out 2; obtain ⟨Ao28, co28, eo28⟩ := Kd.S_slice HO439.out; subst eo28; obtain ⟨Ao29, co29, eo29⟩ := Kd.R_slice HO442.out; subst eo29) | ((with_reducible refine gate_callee (f := 19) rfl ?_); refine goesL_ (some 18) rfl rfl Try.func19 (by kernel_rfl) rfl #[.agg #[.int .i64 t436, .slice Ao28 t437.length co28, .slice Ao29 t440.length co29]] rfl (by (try simp only [List.map_toArray, List.map_cons, List.map_nil]); first | done | rfl | (simp only [List.length_drop, List.length_take]; rfl)) ?_; (with_reducible refine (impl_TxnLength.calls k t436 _ _ t437 _ _ t440 t444 _ ?side1 ?side2 ?side3 ?side4 A10.out).mono ?_); (case side1 => refine (Kd.S_reads' (e := 62) (base := w.heap.size) (ok := fun k_ => (True ∧ some k_ ≠ (.slice Ao20 t429.length co20 : Value).ownBlock)) (n := t437.length) (c := co28) ?_).2.2; exact (by (with_reducible repeat (first | apply Kd.S_alloc | apply Kd.S_drewN | apply Kd.S_drew)); exact (Kd.S_mono (Kd.S_far (p := ⟨gb443, 2, none⟩) (Kd.S_far (p := ⟨gb443, 1, none⟩) (Kd.S_far (p := ⟨gb443, 0, none⟩) (Kd.S_types HO439.out BK443.out (by decide)) (fun _ hk => hk.2) (.int .i64 t436)) (fun _ hk => hk.2) (.slice Ao28 t437.length co28)) (fun _ hk => hk.2) (.slice Ao29 t440.length co29)) (fun _ h_ => h_.1)))); (case side2 => exact (Kd.S_reads' HO439.out).2.1); (case side3 => refine (Kd.R_reads' (e := 2) (base := w.heap.size) (ok := fun k_ => (True ∧ some k_ ≠ (.slice Ao21 t432.length co21 : Value).ownBlock)) (n := t440.length) (c := co29) ?_).2.2; exact (by (with_reducible repeat (first | apply Kd.R_alloc | apply Kd.R_drewN | apply Kd.R_drew)); exact (Kd.R_mono (Kd.R_far (p := ⟨gb443, 2, none⟩) (Kd.R_far (p := ⟨gb443, 1, none⟩) (Kd.R_far (p := ⟨gb443, 0, none⟩) (Kd.R_types HO442.out BK443.out (by decide)) (fun _ hk => hk.2) (.int .i64 t436)) (fun _ hk => hk.2) (.slice Ao28 t437.length co28)) (fun _ hk => hk.2) (.slice Ao29 t440.length co29)) (fun _ h_ => h_.1)))); (case side4 => exact (Kd.R_reads' HO442.out).2.1); rintro e w30 ⟨rfl, hb⟩; refine ⟨_, rfl, ?_⟩; have n0_ := Aside0.mk (Kd.S_below (by (with_reducible repeat (first | apply Kd.S_alloc | apply Kd.S_drewN | apply Kd.S_drew)); exact (Kd.S_mono (Kd.S_far (p := ⟨gb443, 2, none⟩) (Kd.S_far (p := ⟨gb443, 1, none⟩) (Kd.S_far (p := ⟨gb443, 0, none⟩) (Kd.S_types HO431.out BK443.out (by decide)) (fun _ hk => hk.2) (.int .i64 t436)) (fun _ hk => hk.2) (.slice Ao28 t437.length co28)) (fun _ hk => hk.2) (.slice Ao29 t440.length co29)) (fun _ h_ => h_.1))) hb); have n1_ := Aside0.mk (Kd.R_below (by (with_reducible repeat (first | apply Kd.R_alloc | apply Kd.R_drewN | apply Kd.R_drew)); exact (Kd.R_mono (Kd.R_far (p := ⟨gb443, 2, none⟩) (Kd.R_far (p := ⟨gb443, 1, none⟩) (Kd.R_far (p := ⟨gb443, 0, none⟩) (Kd.R_types HO434.out BK443.out (by decide)) (fun _ hk => hk.2) (.int .i64 t436)) (fun _ hk => hk.2) (.slice Ao28 t437.length co28)) (fun _ hk => hk.2) (.slice Ao29 t440.length co29)) (fun _ h_ => h_.1))) hb); have n2_ := Aside0.mk (Kd.S_below (by (with_reducible repeat (first | apply Kd.S_alloc | apply Kd.S_drewN | apply Kd.S_drew)); exact (Kd.S_mono (Kd.S_far (p := ⟨gb443, 2, none⟩) (Kd.S_far (p := ⟨gb443, 1, none⟩) (Kd.S_far (p := ⟨gb443, 0, none⟩) (Kd.S_types HO439.out BK443.out (by decide)) (fun _ hk => hk.2) (.int .i64 t436)) (fun _ hk => hk.2) (.slice Ao28 t437.length co28)) (fun _ hk => hk.2) (.slice Ao29 t440.length co29)) (fun _ h_ => h_.1))) hb); have n3_ := Aside0.mk (Kd.R_below (by (with_reducible repeat (first | apply Kd.R_alloc | apply Kd.R_drewN | apply Kd.R_drew)); exact (Kd.R_mono (Kd.R_far (p := ⟨gb443, 2, none⟩) (Kd.R_far (p := ⟨gb443, 1, none⟩) (Kd.R_far (p := ⟨gb443, 0, none⟩) (Kd.R_types HO442.out BK443.out (by decide)) (fun _ hk => hk.2) (.int .i64 t436)) (fun _ hk => hk.2) (.slice Ao28 t437.length co28)) (fun _ hk => hk.2) (.slice Ao29 t440.length co29)) (fun _ h_ => h_.1))) hb); have n4_ := Aside0.mk (blk_below (g := gb426) (o := .cells #[.int .i64 a0_0, .slice A0_1 l0_1.length c0_1, .slice A0_2 l0_2.length c0_2] 32 (0, 0)) (by (with_reducible repeat (first | refine blk_drewN ?_ _ | refine blk_drew ?_ | refine blk_alloc ?_ _)); refine blk_far ?_ NB426_443.out _; (with_reducible repeat (first | refine blk_drewN ?_ _ | refine blk_drew ?_ | refine blk_alloc ?_ _)); refine blk_far ?_ NB426_443.out _; (with_reducible repeat (first | refine blk_drewN ?_ _ | refine blk_drew ?_ | refine blk_alloc ?_ _)); refine blk_far ?_ NB426_443.out _; (with_reducible repeat (first | refine blk_drewN ?_ _ | refine blk_drew ?_ | refine blk_alloc ?_ _)); exact BK426.out) hb); have n5_ := Aside0.mk (blk_below (g := gb443) (o := .cells #[.int .i64 t436, .slice Ao28 t437.length co28, .slice Ao29 t440.length co29] 37 (0, 0)) (by (with_reducible repeat (first | refine blk_drewN ?_ _ | refine blk_drew ?_ | refine blk_alloc ?_ _)); refine blk_put (cs := #[.int .i64 t436, .slice Ao28 t437.length co28, .slice none 0 0]) ?_ 2 _ rfl; (with_reducible repeat (first | refine blk_drewN ?_ _ | refine blk_drew ?_ | refine blk_alloc ?_ _)); refine blk_put (cs := #[.int .i64 t436, .slice none 0 0, .slice none 0 0]) ?_ 1 _ rfl; (with_reducible repeat (first | refine blk_drewN ?_ _ | refine blk_drew ?_ | refine blk_alloc ?_ _)); refine blk_put (cs := #[.int .i64 0, .slice none 0 0, .slice none 0 0]) ?_ 0 _ rfl; (with_reducible repeat (first | refine blk_drewN ?_ _ | refine blk_drew ?_ | refine blk_alloc ?_ _)); exact BK443.out) hb); have n6_ := Aside0.mk (below_step (by repeat (first | (with_reducible first | exact HB.out | apply below_alloc | apply pw_below_drewN | apply below_drew1 | refine below_set ?_ GE426.out | refine below_set ?_ GE443.out) | exact HB.out)) hb); clear HO431; clear HO434; clear HO439; clear HO442; clear BK426; clear BK443; clear HB; have HO431 := n0_; have HO434 := n1_; have HO439 := n2_; have HO442 := n3_; have BK426 := n4_; have BK443 := n5_; have HB := n6_; clear n0_ n1_ n2_ n3_ n4_ n5_ n6_; (try clear hb); (try clear hb2); (try clear hk); (try clear hi)))
        have n0_ := Aside0.mk (Kd.S_drew HO431.out)
        have n1_ := Aside0.mk (Kd.R_drew HO434.out)
        have n2_ := Aside0.mk (Kd.S_drew HO439.out)
        have n3_ := Aside0.mk (Kd.R_drew HO442.out)
        have n4_ := Aside0.mk (blk_drew BK426.out)
        have n5_ := Aside0.mk (blk_drew BK443.out)
        have n6_ := Aside0.mk (below_drew1 HB.out)
        clear HO431
        clear HO434
        clear HO439
        clear HO442
        clear BK426
        clear BK443
        clear HB
        have HO431 := n0_
        have HO434 := n1_
        have HO439 := n2_
        have HO442 := n3_
        have BK426 := n4_
        have BK443 := n5_
        have HB := n6_
        clear n0_ n1_ n2_ n3_ n4_ n5_ n6_
        refine start_ (n := 5) (S := fun w' => w'.cell? ⟨gb443, 0, none⟩ = some (.int .i64 t436) ∧ w'.cell? ⟨gb443, 1, none⟩ = some (.slice Ao28 t437.length co28) ∧ w'.cell? ⟨gb443, 2, none⟩ = some (.slice Ao29 t440.length co29) ∧ w'.cell? ⟨gb426, 0, none⟩ = some (.int .i64 a0_0) ∧ w'.cell? ⟨gb426, 1, none⟩ = some (.slice A0_1 l0_1.length c0_1) ∧ w'.cell? ⟨gb426, 2, none⟩ = some (.slice A0_2 l0_2.length c0_2)) (ds := []) #[false, false, false, false, false] (by kernel_rfl) rfl rfl ⟨(blk_cell BK443.out 0).trans rfl, (blk_cell BK443.out 1).trans rfl, (blk_cell BK443.out 2).trans rfl, (blk_cell BK426.out 0).trans rfl, (blk_cell BK426.out 1).trans rfl, (blk_cell BK426.out 2).trans rfl⟩ (fun hHeld => ?_)
        generalize w30.drew = w31 at HO431 HO434 HO439 HO442 BK426 BK443 HB hHeld ⊢
        refine take_ (i := 0) (N := some 22) (v := ?_) (a' := ?_) #[true, false, false, false, false] rfl rfl (by kernel_rfl) (fun _ _ _ h => h) (Or.inl ⟨by rfl, ?_⟩) hHeld ?_ ?_
        rotate_left
        · rintro w' ⟨s0, s1, s2, s3, s4, s5⟩
          go_simp
          with_reducible rfl
        rotate_left
        · simp only [Act.put, List.setIfInBounds_toArray, List.set_cons_zero, List.set_cons_succ, i64_w, i32_w]
          rfl
        refine take_ (i := 1) (N := some 23) (v := ?_) (a' := ?_) #[true, true, false, false, false] rfl rfl (by kernel_rfl) (fun _ _ _ h => h) (Or.inl ⟨by rfl, ?_⟩) hHeld ?_ ?_
        rotate_left
        · rintro w' ⟨s0, s1, s2, s3, s4, s5⟩
          go_simp
          with_reducible rfl
        rotate_left
        · simp only [Act.put, List.setIfInBounds_toArray, List.set_cons_zero, List.set_cons_succ, i64_w, i32_w]
          rfl
        refine one_ (i := 2) (N := some 24) #[true, true, true, false, false] rfl rfl (by kernel_rfl) (by decide) (fun K hK => ?_)
        refine goes_ Try.func15 (by kernel_rfl) rfl #[.agg #[.int .i64 a0_0, .slice A0_1 l0_1.length c0_1, .slice A0_2 l0_2.length c0_2]] (by rfl) rfl rfl (by (try simp only [List.map_toArray, List.map_cons, List.map_nil]); first | done | rfl | (simp only [List.length_drop, List.length_take]; rfl)) ?_
        with_reducible refine (laws_toTxn.calls k a0_0 _ _ l0_1 _ _ l0_2 t445 t446 t449 _ ?side1 ?side2 ?side3 ?side4 A12.out).mono ?_
        (case side1 => repeat (first | exact (Kd.C_below HR0_1.out HB.out) | (with_reducible refine Kd.C_alloc ?_ _) | (with_reducible refine Kd.C_drewN ?_ _) | (with_reducible refine Kd.C_drew ?_)))
        (case side2 => exact HC0_1.out)
        (case side3 => repeat (first | exact (Kd.C_below HR0_2.out HB.out) | (with_reducible refine Kd.C_alloc ?_ _) | (with_reducible refine Kd.C_drewN ?_ _) | (with_reducible refine Kd.C_drew ?_)))
        (case side4 => exact HC0_2.out)
        rintro e w32 ⟨v447, v450, rfl, ho0, ho1, hb⟩
        refine ⟨_, rfl, ?_⟩
        have n0_ := Aside0.mk (Kd.S_elder' (by (with_reducible repeat (first | apply Kd.S_alloc | apply Kd.S_drewN | apply Kd.S_drew)); exact HO431.out) (Kd.S_base ho0) hb)
        have n1_ := Aside0.mk (Kd.R_elder' (by (with_reducible repeat (first | apply Kd.R_alloc | apply Kd.R_drewN | apply Kd.R_drew)); exact HO434.out) (Kd.R_base ho1) hb)
        have n2_ := Aside0.mk (Kd.S_elder' (by (with_reducible repeat (first | apply Kd.S_alloc | apply Kd.S_drewN | apply Kd.S_drew)); exact HO439.out) (Kd.S_base ho0) hb)
        have n3_ := Aside0.mk (Kd.R_elder' (by (with_reducible repeat (first | apply Kd.R_alloc | apply Kd.R_drewN | apply Kd.R_drew)); exact HO442.out) (Kd.R_base ho1) hb)
        have n4_ := Aside0.mk (Kd.S_lower (Kd.S_new' (Kd.S_new' ho0 (Kd.S_lt (by (with_reducible repeat (first | apply Kd.S_alloc | apply Kd.S_drewN | apply Kd.S_drew)); exact HO431.out))) (Kd.S_lt (by (with_reducible repeat (first | apply Kd.S_alloc | apply Kd.S_drewN | apply Kd.S_drew)); exact HO439.out))) (below_size (by repeat (first | (with_reducible first | exact HB.out | apply below_alloc | apply pw_below_drewN | apply below_drew1 | refine below_set ?_ GE426.out | refine below_set ?_ GE443.out) | exact HB.out))))
        have n5_ := Aside0.mk (Kd.R_lower (Kd.R_new' (Kd.R_new' ho1 (Kd.R_lt (by (with_reducible repeat (first | apply Kd.R_alloc | apply Kd.R_drewN | apply Kd.R_drew)); exact HO434.out))) (Kd.R_lt (by (with_reducible repeat (first | apply Kd.R_alloc | apply Kd.R_drewN | apply Kd.R_drew)); exact HO442.out))) (below_size (by repeat (first | (with_reducible first | exact HB.out | apply below_alloc | apply pw_below_drewN | apply below_drew1 | refine below_set ?_ GE426.out | refine below_set ?_ GE443.out) | exact HB.out))))
        have n6_ := Aside0.mk (blk_below (g := gb426) (o := .cells #[.int .i64 a0_0, .slice A0_1 l0_1.length c0_1, .slice A0_2 l0_2.length c0_2] 32 (0, 0)) (by (with_reducible repeat (first | refine blk_drewN ?_ _ | refine blk_drew ?_ | refine blk_alloc ?_ _)); exact BK426.out) hb)
        have n7_ := Aside0.mk (blk_below (g := gb443) (o := .cells #[.int .i64 t436, .slice Ao28 t437.length co28, .slice Ao29 t440.length co29] 37 (0, 0)) (by (with_reducible repeat (first | refine blk_drewN ?_ _ | refine blk_drew ?_ | refine blk_alloc ?_ _)); exact BK443.out) hb)
        have n8_ := Aside0.mk (below_step (by repeat (first | (with_reducible first | exact HB.out | apply below_alloc | apply pw_below_drewN | apply below_drew1 | refine below_set ?_ GE426.out | refine below_set ?_ GE443.out) | exact HB.out)) hb)
        clear HO431
        clear HO434
        clear HO439
        clear HO442
        clear BK426
        clear BK443
        clear HB
        have HO431 := n0_
        have HO434 := n1_
        have HO439 := n2_
        have HO442 := n3_
        have HO448 := n4_
        have HO451 := n5_
        have BK426 := n6_
        have BK443 := n7_
        have HB := n8_
        clear n0_ n1_ n2_ n3_ n4_ n5_ n6_ n7_ n8_
        (try clear hb)
        (try clear hb2)
        (try clear hk)
        (try clear hi)
        (try clear ho0)
        (try clear ho1)
        obtain ⟨Ao33, co33, eo33⟩ := Kd.S_slice HO448.out
        (first | subst eo33 | (injection eo33 with f1_ f2_ f3_; have f4_ := f1_.symm; have f5_ := f3_.symm; clear f1_ f2_ f3_; subst f4_; subst f5_))
        obtain ⟨Ao34, co34, eo34⟩ := Kd.R_slice HO451.out
        (first | subst eo34 | (injection eo34 with f1_ f2_ f3_; have f4_ := f1_.symm; have f5_ := f3_.symm; clear f1_ f2_ f3_; subst f4_; subst f5_))
        refine hK.out _ _ ⟨(blk_cell BK443.out 0).trans rfl, (blk_cell BK443.out 1).trans rfl, (blk_cell BK443.out 2).trans rfl, (blk_cell BK426.out 0).trans rfl, (blk_cell BK426.out 1).trans rfl, (blk_cell BK426.out 2).trans rfl⟩ (fun hHeld => ?_)
        clear hK K
        refine norm_ (a' := ?_) ?_ ?_
        rotate_left
        · show Act.put _ (some 24) _ = _
          simp only [Act.put, List.setIfInBounds_toArray, List.set_cons_zero, List.set_cons_succ, i64_w, i32_w]
          rfl
        refine one_ (i := 3) (N := some 25) #[true, true, true, true, false] rfl rfl (by kernel_rfl) (by decide) (fun K hK => ?_)
        refine goes_ Try.func17 (by kernel_rfl) rfl #[.agg #[.int .i64 t436, .slice Ao28 t437.length co28, .slice Ao29 t440.length co29], .agg #[.int .i64 t445, .slice Ao33 t446.length co33, .slice Ao34 t449.length co34]] (by rfl) rfl rfl (by (try simp only [List.map_toArray, List.map_cons, List.map_nil]); first | done | rfl | (simp only [List.length_drop, List.length_take]; rfl)) ?_
        with_reducible refine (laws_eqTxn.calls k t436 _ _ t437 _ _ t440 t445 _ _ t446 _ _ t449 true _ ?side1 ?side2 ?side3 ?side4 ?side5 ?side6 ?side7 ?side8 A13.out).mono ?_
        (case side1 => repeat (first | exact (Kd.S_reads' HO439.out).2.2 | (with_reducible refine Kd.C_alloc ?_ _) | (with_reducible refine Kd.C_drewN ?_ _) | (with_reducible refine Kd.C_drew ?_)))
        (case side2 => exact (Kd.S_reads' HO439.out).2.1)
        (case side3 => repeat (first | exact (Kd.R_reads' HO442.out).2.2 | (with_reducible refine Kd.C_alloc ?_ _) | (with_reducible refine Kd.C_drewN ?_ _) | (with_reducible refine Kd.C_drew ?_)))
        (case side4 => exact (Kd.R_reads' HO442.out).2.1)
        (case side5 => repeat (first | exact (Kd.S_reads' HO448.out).2.2 | (with_reducible refine Kd.C_alloc ?_ _) | (with_reducible refine Kd.C_drewN ?_ _) | (with_reducible refine Kd.C_drew ?_)))
        (case side6 => exact (Kd.S_reads' HO448.out).2.1)
        (case side7 => repeat (first | exact (Kd.R_reads' HO451.out).2.2 | (with_reducible refine Kd.C_alloc ?_ _) | (with_reducible refine Kd.C_drewN ?_ _) | (with_reducible refine Kd.C_drew ?_)))
        (case side8 => exact (Kd.R_reads' HO451.out).2.1)
        rintro e w35 ⟨rfl, hb⟩
        refine ⟨_, rfl, ?_⟩
        have n0_ := Aside0.mk (Kd.S_below (by (with_reducible repeat (first | apply Kd.S_alloc | apply Kd.S_drewN | apply Kd.S_drew)); exact HO431.out) hb)
        have n1_ := Aside0.mk (Kd.R_below (by (with_reducible repeat (first | apply Kd.R_alloc | apply Kd.R_drewN | apply Kd.R_drew)); exact HO434.out) hb)
        have n2_ := Aside0.mk (Kd.S_below (by (with_reducible repeat (first | apply Kd.S_alloc | apply Kd.S_drewN | apply Kd.S_drew)); exact HO439.out) hb)
        have n3_ := Aside0.mk (Kd.R_below (by (with_reducible repeat (first | apply Kd.R_alloc | apply Kd.R_drewN | apply Kd.R_drew)); exact HO442.out) hb)
        have n4_ := Aside0.mk (Kd.S_below (by (with_reducible repeat (first | apply Kd.S_alloc | apply Kd.S_drewN | apply Kd.S_drew)); exact HO448.out) hb)
        have n5_ := Aside0.mk (Kd.R_below (by (with_reducible repeat (first | apply Kd.R_alloc | apply Kd.R_drewN | apply Kd.R_drew)); exact HO451.out) hb)
        have n6_ := Aside0.mk (blk_below (g := gb426) (o := .cells #[.int .i64 a0_0, .slice A0_1 l0_1.length c0_1, .slice A0_2 l0_2.length c0_2] 32 (0, 0)) (by (with_reducible repeat (first | refine blk_drewN ?_ _ | refine blk_drew ?_ | refine blk_alloc ?_ _)); exact BK426.out) hb)
        have n7_ := Aside0.mk (blk_below (g := gb443) (o := .cells #[.int .i64 t436, .slice Ao28 t437.length co28, .slice Ao29 t440.length co29] 37 (0, 0)) (by (with_reducible repeat (first | refine blk_drewN ?_ _ | refine blk_drew ?_ | refine blk_alloc ?_ _)); exact BK443.out) hb)
        have n8_ := Aside0.mk (below_step (by repeat (first | (with_reducible first | exact HB.out | apply below_alloc | apply pw_below_drewN | apply below_drew1 | refine below_set ?_ GE426.out | refine below_set ?_ GE443.out) | exact HB.out)) hb)
        clear HO431
        clear HO434
        clear HO439
        clear HO442
        clear HO448
        clear HO451
        clear BK426
        clear BK443
        clear HB
        have HO431 := n0_
        have HO434 := n1_
        have HO439 := n2_
        have HO442 := n3_
        have HO448 := n4_
        have HO451 := n5_
        have BK426 := n6_
        have BK443 := n7_
        have HB := n8_
        clear n0_ n1_ n2_ n3_ n4_ n5_ n6_ n7_ n8_
        (try clear hb)
        (try clear hb2)
        (try clear hk)
        (try clear hi)
        refine hK.out _ _ ⟨(blk_cell BK443.out 0).trans rfl, (blk_cell BK443.out 1).trans rfl, (blk_cell BK443.out 2).trans rfl, (blk_cell BK426.out 0).trans rfl, (blk_cell BK426.out 1).trans rfl, (blk_cell BK426.out 2).trans rfl⟩ (fun hHeld => ?_)
        clear hK K
        refine norm_ (a' := ?_) ?_ ?_
        rotate_left
        · show Act.put _ (some 25) _ = _
          simp only [Act.put, List.setIfInBounds_toArray, List.set_cons_zero, List.set_cons_succ, i64_w, i32_w]
          rfl
        refine pure_ (i := 4) (N := some 26) (v := ?_) (a' := ?_) #[true, true, true, true, true] rfl rfl (by kernel_rfl) (fun _ _ _ h => h) (Or.inl ⟨by rfl, ?_⟩) ?_ ?_
        rotate_left
        · intro w'
          go_simp
          with_reducible rfl
        rotate_left
        · simp only [Act.put, List.setIfInBounds_toArray, List.set_cons_zero, List.set_cons_succ, i64_w, i32_w]
          rfl
        refine done_ (by kernel_rfl) ?_
        try go_wp2
        go_ret
        exact ⟨by first | rfl | (simp [errW_none, errW_some] <;> rfl) | (simp [*, errW_none, errW_some] <;> rfl), by repeat (first | (with_reducible first | exact HB.out | apply below_alloc | apply pw_below_drewN | apply below_drew1 | refine below_set ?_ GE426.out | refine below_set ?_ GE443.out) | exact HB.out)⟩
      · replace c14 := Bool.eq_false_iff.mpr c14
        subst c14
        have H1 : (some false) = some r := by rw [if_neg (show ¬ (false = true) by decide)] at H; exact H
        clear H
        have H := H1
        clear H1
        exact absurd ((Option.some.inj H).trans hrt.out) (by simp)
    · rw [if_neg c11] at H
      have c11b0 : (t444 == t435) = false := beq_eq_false_iff_ne.mpr c11
      have c11b1 : (t444 != t435) = true := bne_iff_ne.mpr c11
      exact absurd ((Option.some.inj H).trans hrt.out) (by simp)

end Go.Proofs.Ytejomghgmdmebaa.PFnExactTxnLength
