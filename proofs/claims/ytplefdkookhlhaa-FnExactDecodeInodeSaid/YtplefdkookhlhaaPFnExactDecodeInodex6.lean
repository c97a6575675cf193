-- written by a program of this session (wip/src/print2.py)
import Derived.Test.YtplefdkookhlhaaPFnExactDecodeInodex0
import Derived.Test.YtplefdkookhlhaaPFnExactDecodeInodex5
namespace Go.Proofs.Ytplefdkookhlhaa.PFnExactDecodeInode
open Go.RowKit Go.Proofs.YtplefdkookhlhaaW.PrintWords Go.Proofs.YtplefdkookhlhaaW.PrintLast Go.Proofs.YtplefdkookhlhaaW.PrintMore
attribute [local go_sem] max2_int min2_int max_two min_two max_three min_three max_four min_four   -- for this text's walks alone
set_option linter.unusedVariables false
set_option linter.unusedSimpArgs false

/-! ### impl_ValidInode: function 50 -/
mutual
def impl_ValidInode.j0 : Nat → Bool → Int → Int → Int → List Int → Int → Option (Bool)
  | 0, _, _, _, _, _, _ => none
  | k + 1, x16, x208000, x208001, x208002, x208003, x208004 => if x16 = true then (some false) else (impl_ValidInode.l0 k (x208004 != 0) x208003 (x208003.length : Int) 0 x208000 x208001 x208002 x208003 x208004)
def impl_ValidInode.l0 : Nat → Bool → List Int → Int → Int → Int → Int → Int → List Int → Int → Option (Bool)
  | 0, _, _, _, _, _, _, _, _, _ => none
  | k + 1, x3, x21, x22, x23, x208000, x208001, x208002, x208003, x208004 => if x23 < x22 then (if 0 ≤ x23 then (if x23 < (x21.length : Int) then ((impl_in.f (rd x21 x23) 0 2047).bind fun t210 => (if t210 = true then (if x3 = true then (impl_ValidInode.j2 k true x23 (rd x21 x23) x21 x22 x23 x208000 x208001 x208002 x208003 x208004) else (impl_ValidInode.j2 k ((rd x21 x23) != 0) x23 (rd x21 x23) x21 x22 x23 x208000 x208001 x208002 x208003 x208004)) else (some false))) else (none)) else (none)) else (if x208000 = 0 then (if x208001 = 0 then (if x208002 = 0 then (some (!x3)) else (some false)) else (some false)) else (if x208000 = 1 then (impl_ValidInode.j4 k 0 x208000 x208001 x208002 x208003 x208004) else (if x208000 = 2 then (if x208001 = 1 then (if (Int.tmod x208002 16) = 0 then (impl_ValidInode.j4 k 1 x208000 x208001 x208002 x208003 x208004) else (some false)) else (some false)) else (if x208000 = 3 then ((impl_in.f x208002 1 240).bind fun t211 => (if t211 = true then (impl_ValidInode.j4 k 1 x208000 x208001 x208002 x208003 x208004) else (some false))) else (some false)))))
def impl_ValidInode.j2 : Nat → Bool → Int → Int → List Int → Int → Int → Int → Int → Int → List Int → Int → Option (Bool)
  | 0, _, _, _, _, _, _, _, _, _, _, _ => none
  | k + 1, x3, x4, x5, x21, x22, x23, x208000, x208001, x208002, x208003, x208004 => if x208000 = 0 then (impl_ValidInode.j3 k x3 x4 x5 x21 x22 x23 false x208000 x208001 x208002 x208003 x208004) else (if (wrap64 (x4 * 64)) ≥ x208002 then (impl_ValidInode.j3 k x3 x4 x5 x21 x22 x23 (x5 != 0) x208000 x208001 x208002 x208003 x208004) else (impl_ValidInode.j3 k x3 x4 x5 x21 x22 x23 false x208000 x208001 x208002 x208003 x208004))
def impl_ValidInode.j3 : Nat → Bool → Int → Int → List Int → Int → Int → Bool → Int → Int → Int → List Int → Int → Option (Bool)
  | 0, _, _, _, _, _, _, _, _, _, _, _, _ => none
  | k + 1, x3, x4, x5, x21, x22, x23, x49, x208000, x208001, x208002, x208003, x208004 => if x49 = true then (some false) else (if x208000 = 2 then (if (wrap64 (x4 * 64)) < x208002 then (if x5 = 0 then (some false) else (impl_ValidInode.l0 k x3 x21 x22 (wrap64 (x23 + 1)) x208000 x208001 x208002 x208003 x208004)) else (impl_ValidInode.l0 k x3 x21 x22 (wrap64 (x23 + 1)) x208000 x208001 x208002 x208003 x208004)) else (if x208000 = 3 then (if (wrap64 (x4 * 64)) < x208002 then (if x5 = 0 then (some false) else (impl_ValidInode.l0 k x3 x21 x22 (wrap64 (x23 + 1)) x208000 x208001 x208002 x208003 x208004)) else (impl_ValidInode.l0 k x3 x21 x22 (wrap64 (x23 + 1)) x208000 x208001 x208002 x208003 x208004)) else (impl_ValidInode.l0 k x3 x21 x22 (wrap64 (x23 + 1)) x208000 x208001 x208002 x208003 x208004)))
def impl_ValidInode.j4 : Nat → Int → Int → Int → Int → List Int → Int → Option (Bool)
  | 0, _, _, _, _, _, _ => none
  | k + 1, x6, x208000, x208001, x208002, x208003, x208004 => (impl_in.f x208001 x6 8).bind fun t212 => (if t212 = true then ((impl_in.f x208002 0 2560).bind fun t213 => (if t213 = true then (if x208002 ≤ 512 then (if x208004 = 0 then (if x208000 = 1 then (some true) else (some true)) else (some false)) else (if x208000 = 1 then (some true) else (some (x208004 != 0)))) else (some false))) else (some false))
end
def impl_ValidInode.f (k : Nat) (a0_0 : Int) (a0_1 : Int) (a0_2 : Int) (l0_3 : List Int) (a0_4 : Int) : Option (Bool) := if (l0_3.length : Int) = 8 then ((impl_in.f a0_4 0 2047).bind fun t208 => (impl_ValidInode.j0 k (!t208) a0_0 a0_1 a0_2 l0_3 a0_4)) else (impl_ValidInode.j0 k true a0_0 a0_1 a0_2 l0_3 a0_4)
theorem impl_ValidInode.mono_l : ∀ k, (∀ y0 y1 y2 y3 y4 y5, LeO (impl_ValidInode.j0 k y0 y1 y2 y3 y4 y5) (impl_ValidInode.j0 (k + 1) y0 y1 y2 y3 y4 y5)) ∧ (∀ y0 y1 y2 y3 y4 y5 y6 y7 y8, LeO (impl_ValidInode.l0 k y0 y1 y2 y3 y4 y5 y6 y7 y8) (impl_ValidInode.l0 (k + 1) y0 y1 y2 y3 y4 y5 y6 y7 y8)) ∧ (∀ y0 y1 y2 y3 y4 y5 y6 y7 y8 y9 y10, LeO (impl_ValidInode.j2 k y0 y1 y2 y3 y4 y5 y6 y7 y8 y9 y10) (impl_ValidInode.j2 (k + 1) y0 y1 y2 y3 y4 y5 y6 y7 y8 y9 y10)) ∧ (∀ y0 y1 y2 y3 y4 y5 y6 y7 y8 y9 y10 y11, LeO (impl_ValidInode.j3 k y0 y1 y2 y3 y4 y5 y6 y7 y8 y9 y10 y11) (impl_ValidInode.j3 (k + 1) y0 y1 y2 y3 y4 y5 y6 y7 y8 y9 y10 y11)) ∧ (∀ y0 y1 y2 y3 y4 y5, LeO (impl_ValidInode.j4 k y0 y1 y2 y3 y4 y5) (impl_ValidInode.j4 (k + 1) y0 y1 y2 y3 y4 y5))
  | 0 => ⟨fun _ _ _ _ _ _ r h => by simp [impl_ValidInode.j0] at h, fun _ _ _ _ _ _ _ _ _ r h => by simp [impl_ValidInode.l0] at h, fun _ _ _ _ _ _ _ _ _ _ _ r h => by simp [impl_ValidInode.j2] at h, fun _ _ _ _ _ _ _ _ _ _ _ _ r h => by simp [impl_ValidInode.j3] at h, fun _ _ _ _ _ _ r h => by simp [impl_ValidInode.j4] at h⟩
  | k + 1 => by
    obtain ⟨ih0, ih1, ih2, ih3, ih4⟩ := impl_ValidInode.mono_l k
    refine ⟨?_, ?_, ?_, ?_, ?_⟩
    · intro y0 y1 y2 y3 y4 y5
      unfold impl_ValidInode.j0
      repeat' first
      | (with_reducible exact ih0 _ _ _ _ _ _)
      | (with_reducible exact ih1 _ _ _ _ _ _ _ _ _)
      | (with_reducible exact ih2 _ _ _ _ _ _ _ _ _ _ _)
      | (with_reducible exact ih3 _ _ _ _ _ _ _ _ _ _ _ _)
      | (with_reducible exact ih4 _ _ _ _ _ _)
      | (with_reducible exact LeO.refl _)
      | (with_reducible exact LeO.none _)
      | (with_reducible refine LeO.ite ?_ ?_)
      | (with_reducible refine LeO.bind ?_ (fun _ => ?_))
      | exact ih0 _ _ _ _ _ _
      | exact ih1 _ _ _ _ _ _ _ _ _
      | exact ih2 _ _ _ _ _ _ _ _ _ _ _
      | exact ih3 _ _ _ _ _ _ _ _ _ _ _ _
      | exact ih4 _ _ _ _ _ _
      | exact LeO.none _
      | refine LeO.ite ?_ ?_
      | refine LeO.bind ?_ (fun _ => ?_)
    · intro y0 y1 y2 y3 y4 y5 y6 y7 y8
      unfold impl_ValidInode.l0
      repeat' first
      | (with_reducible exact ih0 _ _ _ _ _ _)
      | (with_reducible exact ih1 _ _ _ _ _ _ _ _ _)
      | (with_reducible exact ih2 _ _ _ _ _ _ _ _ _ _ _)
      | (with_reducible exact ih3 _ _ _ _ _ _ _ _ _ _ _ _)
      | (with_reducible exact ih4 _ _ _ _ _ _)
      | (with_reducible exact LeO.refl _)
      | (with_reducible exact LeO.none _)
      | (with_reducible refine LeO.ite ?_ ?_)
      | (with_reducible refine LeO.bind ?_ (fun _ => ?_))
      | exact ih0 _ _ _ _ _ _
      | exact ih1 _ _ _ _ _ _ _ _ _
      | exact ih2 _ _ _ _ _ _ _ _ _ _ _
      | exact ih3 _ _ _ _ _ _ _ _ _ _ _ _
      | exact ih4 _ _ _ _ _ _
      | exact LeO.none _
      | refine LeO.ite ?_ ?_
      | refine LeO.bind ?_ (fun _ => ?_)
    · intro y0 y1 y2 y3 y4 y5 y6 y7 y8 y9 y10
      unfold impl_ValidInode.j2
      repeat' first
      | (with_reducible exact ih0 _ _ _ _ _ _)
      | (with_reducible exact ih1 _ _ _ _ _ _ _ _ _)
      | (with_reducible exact ih2 _ _ _ _ _ _ _ _ _ _ _)
      | (with_reducible exact ih3 _ _ _ _ _ _ _ _ _ _ _ _)
      | (with_reducible exact ih4 _ _ _ _ _ _)
      | (with_reducible exact LeO.refl _)
      | (with_reducible exact LeO.none _)
      | (with_reducible refine LeO.ite ?_ ?_)
      | (with_reducible refine LeO.bind ?_ (fun _ => ?_))
      | exact ih0 _ _ _ _ _ _
      | exact ih1 _ _ _ _ _ _ _ _ _
      | exact ih2 _ _ _ _ _ _ _ _ _ _ _
      | exact ih3 _ _ _ _ _ _ _ _ _ _ _ _
      | exact ih4 _ _ _ _ _ _
      | exact LeO.none _
      | refine LeO.ite ?_ ?_
      | refine LeO.bind ?_ (fun _ => ?_)
    · intro y0 y1 y2 y3 y4 y5 y6 y7 y8 y9 y10 y11
      unfold impl_ValidInode.j3
      repeat' first
      | (with_reducible exact ih0 _ _ _ _ _ _)
      | (with_reducible exact ih1 _ _ _ _ _ _ _ _ _)
      | (with_reducible exact ih2 _ _ _ _ _ _ _ _ _ _ _)
      | (with_reducible exact ih3 _ _ _ _ _ _ _ _ _ _ _ _)
      | (with_reducible exact ih4 _ _ _ _ _ _)
      | (with_reducible exact LeO.refl _)
      | (with_reducible exact LeO.none _)
      | (with_reducible refine LeO.ite ?_ ?_)
      | (with_reducible refine LeO.bind ?_ (fun _ => ?_))
      | exact ih0 _ _ _ _ _ _
      | exact ih1 _ _ _ _ _ _ _ _ _
      | exact ih2 _ _ _ _ _ _ _ _ _ _ _
      | exact ih3 _ _ _ _ _ _ _ _ _ _ _ _
      | exact ih4 _ _ _ _ _ _
      | exact LeO.none _
      | refine LeO.ite ?_ ?_
      | refine LeO.bind ?_ (fun _ => ?_)
    · intro y0 y1 y2 y3 y4 y5
      unfold impl_ValidInode.j4
      repeat' first
      | (with_reducible exact ih0 _ _ _ _ _ _)
      | (with_reducible exact ih1 _ _ _ _ _ _ _ _ _)
      | (with_reducible exact ih2 _ _ _ _ _ _ _ _ _ _ _)
      | (with_reducible exact ih3 _ _ _ _ _ _ _ _ _ _ _ _)
      | (with_reducible exact ih4 _ _ _ _ _ _)
      | (with_reducible exact LeO.refl _)
      | (with_reducible exact LeO.none _)
      | (with_reducible refine LeO.ite ?_ ?_)
      | (with_reducible refine LeO.bind ?_ (fun _ => ?_))
      | exact ih0 _ _ _ _ _ _
      | exact ih1 _ _ _ _ _ _ _ _ _
      | exact ih2 _ _ _ _ _ _ _ _ _ _ _
      | exact ih3 _ _ _ _ _ _ _ _ _ _ _ _
      | exact ih4 _ _ _ _ _ _
      | exact LeO.none _
      | refine LeO.ite ?_ ?_
      | refine LeO.bind ?_ (fun _ => ?_)
theorem impl_ValidInode.mono : ∀ a0 a1 a2 a3 a4 k, LeO (impl_ValidInode.f k a0 a1 a2 a3 a4) (impl_ValidInode.f (k + 1) a0 a1 a2 a3 a4) := by
  intro a0 a1 a2 a3 a4 k
  obtain ⟨ih0, ih1, ih2, ih3, ih4⟩ := impl_ValidInode.mono_l k
  unfold impl_ValidInode.f
  repeat' first
      | (with_reducible exact ih0 _ _ _ _ _ _)
      | (with_reducible exact ih1 _ _ _ _ _ _ _ _ _)
      | (with_reducible exact ih2 _ _ _ _ _ _ _ _ _ _ _)
      | (with_reducible exact ih3 _ _ _ _ _ _ _ _ _ _ _ _)
      | (with_reducible exact ih4 _ _ _ _ _ _)
      | (with_reducible exact LeO.refl _)
      | (with_reducible exact LeO.none _)
      | (with_reducible refine LeO.ite ?_ ?_)
      | (with_reducible refine LeO.bind ?_ (fun _ => ?_))
      | exact ih0 _ _ _ _ _ _
      | exact ih1 _ _ _ _ _ _ _ _ _
      | exact ih2 _ _ _ _ _ _ _ _ _ _ _
      | exact ih3 _ _ _ _ _ _ _ _ _ _ _ _
      | exact ih4 _ _ _ _ _ _
      | exact LeO.none _
      | refine LeO.ite ?_ ?_
      | refine LeO.bind ?_ (fun _ => ?_)
set_option maxHeartbeats 8000000 in
set_option maxRecDepth 100000 in
theorem impl_ValidInode.calls (k : Nat) (a0_0 : Int) (a0_1 : Int) (a0_2 : Int) (A0_3 : Option Addr) (c0_3 : Nat) (l0_3 : List Int) (a0_4 : Int) (r : Bool) (w : World) (hr0_3 : Kd.C (Kd.int .i64) w A0_3 l0_3.length l0_3) (hc0_3 : l0_3.length ≤ c0_3) (h : impl_ValidInode.f k a0_0 a0_1 a0_2 l0_3 a0_4 = some r) :
    Calls Try.prog 50 #[.agg #[.int .i64 a0_0, .int .i64 a0_1, .int .i64 a0_2, .slice A0_3 l0_3.length c0_3, .int .i64 a0_4]] w fun e w' => e = .returned (.bool r) ∧ Below w.heap.size w w' := by
  have hu65 := Try.underlying65
  have HR0_3 := Aside0.mk hr0_3
  have HC0_3 := Aside0.mk hc0_3
  clear hr0_3 hc0_3
  have HB := Aside0.mk (Below.refl w.heap.size w)
  have H : (if (l0_3.length : Int) = 8 then ((impl_in.f a0_4 0 2047).bind fun t208 => (impl_ValidInode.j0 k (!t208) a0_0 a0_1 a0_2 l0_3 a0_4)) else (impl_ValidInode.j0 k true a0_0 a0_1 a0_2 l0_3 a0_4)) = some r := h
  clear h
  have HC2 := Aside0.mk H
  clear H
  go_enter Try.func50, Try.ntmps50
  go_upto_region 1 with (first | ((with_reducible refine gate_dst (N := 1) rfl ?_); refine box_event ?hg (N := 1) ?hd (cs := #[.int .i64 a0_0, .int .i64 a0_1, .int .i64 a0_2, .slice A0_3 l0_3.length c0_3, .int .i64 a0_4]) (t := 65) ?hr ?_; (case hd => rfl); (case hg => rfl); (case hr => first | (go_simp; done) | (go_simp; rfl)); intro gb207 hg w3 hbox hb; have n0_ := Aside0.mk (below_step (by repeat (first | (with_reducible first | exact HB.out | apply below_alloc | apply pw_below_drewN | apply below_drew1) | exact HB.out)) hb); have n1_ := Aside0.mk (hbox); have n2_ := Aside0.mk ((by rw [hg]; exact (below_size (by repeat (first | (with_reducible first | exact HB.out | apply below_alloc | apply pw_below_drewN | apply below_drew1) | exact HB.out))) : w.heap.size ≤ gb207)); have n3_ := Aside0.mk ((by rw [hg]; exact (below_size (by repeat (first | (with_reducible first | exact HB.out | apply below_alloc | apply pw_below_drewN | apply below_drew1) | exact HB.out))) : w.heap.size ≤ gb207)); clear HB; have HB := n0_; have BK207 := n1_; have GW207 := n2_; have GE207 := n3_; clear n0_ n1_ n2_ n3_; clear hb hbox hg))
  (try simp only [Act.put, List.setIfInBounds_toArray, List.set_cons_zero, List.set_cons_succ])
  go_cut [16] (fun v16 wc => ∃ (kq : Nat) (x16_1 : Bool), v16 = .bool x16_1 ∧ Aside0 (impl_ValidInode.j0 kq x16_1 a0_0 a0_1 a0_2 l0_3 a0_4 = some r) ∧ Aside0 (kq ≤ k) ∧ Aside0 (wc.heap[gb207]? = some (.cells #[.int .i64 a0_0, .int .i64 a0_1, .int .i64 a0_2, (.slice A0_3 l0_3.length c0_3), .int .i64 a0_4] 65 (0, 0))) ∧ Aside0 (Below w.heap.size w wc))
  case first =>
    have H := HC2.out
    clear HC2
    by_cases c4 : (l0_3.length : Int) = 8
    · rw [if_pos c4] at H
      have c4b0 : ((l0_3.length : Int) == 8) = true := beq_iff_eq.mpr c4
      have c4b1 : ((l0_3.length : Int) != 8) = false := bne_eq_false_iff_eq.mpr c4
      clear c4
      (first | rw [c4b0] | (simp only [i64_w, i32_w]; rw [c4b0]) | skip)
      replace H := Option.bind_eq_some_iff.mp H
      obtain ⟨t208, A50, H⟩ := H
      replace H : (impl_ValidInode.j0 k (!t208) a0_0 a0_1 a0_2 l0_3 a0_4) = some r := H
      have A5 := Aside0.mk A50
      clear A50
      have H' := Aside0.mk H
      clear H
      have hcz6_0 : w3.cell? ⟨gb207, 0, none⟩ = some (.int .i64 a0_0) := (blk_cell BK207.out 0).trans rfl
      have hcz6_1 : w3.cell? ⟨gb207, 1, none⟩ = some (.int .i64 a0_1) := (blk_cell BK207.out 1).trans rfl
      have hcz6_2 : w3.cell? ⟨gb207, 2, none⟩ = some (.int .i64 a0_2) := (blk_cell BK207.out 2).trans rfl
      have hcz6_3 : w3.cell? ⟨gb207, 3, none⟩ = some (.slice A0_3 l0_3.length c0_3) := (blk_cell BK207.out 3).trans rfl
      have hcz6_4 : w3.cell? ⟨gb207, 4, none⟩ = some (.int .i64 a0_4) := (blk_cell BK207.out 4).trans rfl
      have hfz6_0 := blk_frozen BK207.out 0
      have hfz6_1 := blk_frozen BK207.out 1
      have hfz6_2 := blk_frozen BK207.out 2
      have hfz6_3 := blk_frozen BK207.out 3
      have hfz6_4 := blk_frozen BK207.out 4
      go_wp2_with (first | (go_at_call 53; (with_reducible refine (impl_in.calls a0_4 0 2047 t208 _ A5.out).mono ?_); rintro e w' ⟨rfl, ⟨nd, rfl⟩⟩))
      go_meet
      case rel => exact ⟨_, (!t208), (by first | rfl | (simp; done) | (simp [*]; done)), H', ⟨by first | omega | exact Nat.le_refl _⟩, ⟨by (with_reducible repeat (first | refine blk_drewN ?_ _ | refine blk_drew ?_ | refine blk_alloc ?_ _)); exact BK207.out⟩, ⟨by repeat (first | (with_reducible first | exact HB.out | apply below_alloc | apply pw_below_drewN | apply below_drew1 | refine below_set ?_ GE207.out) | exact HB.out)⟩⟩
    · rw [if_neg c4] at H
      have c4b0 : ((l0_3.length : Int) == 8) = false := beq_eq_false_iff_ne.mpr c4
      have c4b1 : ((l0_3.length : Int) != 8) = true := bne_iff_ne.mpr c4
      (first | rw [c4b0] | (simp only [i64_w, i32_w]; rw [c4b0]) | skip)
      have H' := Aside0.mk H
      clear H
      have hcz7_0 : w3.cell? ⟨gb207, 0, none⟩ = some (.int .i64 a0_0) := (blk_cell BK207.out 0).trans rfl
      have hcz7_1 : w3.cell? ⟨gb207, 1, none⟩ = some (.int .i64 a0_1) := (blk_cell BK207.out 1).trans rfl
      have hcz7_2 : w3.cell? ⟨gb207, 2, none⟩ = some (.int .i64 a0_2) := (blk_cell BK207.out 2).trans rfl
      have hcz7_3 : w3.cell? ⟨gb207, 3, none⟩ = some (.slice A0_3 l0_3.length c0_3) := (blk_cell BK207.out 3).trans rfl
      have hcz7_4 : w3.cell? ⟨gb207, 4, none⟩ = some (.int .i64 a0_4) := (blk_cell BK207.out 4).trans rfl
      have hfz7_0 := blk_frozen BK207.out 0
      have hfz7_1 := blk_frozen BK207.out 1
      have hfz7_2 := blk_frozen BK207.out 2
      have hfz7_3 := blk_frozen BK207.out 3
      have hfz7_4 := blk_frozen BK207.out 4
      go_wp2
      go_meet
      case rel => exact ⟨_, (true), (by first | rfl | (simp; done) | (simp [*]; done)), H', ⟨by first | omega | exact Nat.le_refl _⟩, ⟨by (with_reducible repeat (first | refine blk_drewN ?_ _ | refine blk_drew ?_ | refine blk_alloc ?_ _)); exact BK207.out⟩, ⟨by repeat (first | (with_reducible first | exact HB.out | apply below_alloc | apply pw_below_drewN | apply below_drew1 | refine below_set ?_ GE207.out) | exact HB.out)⟩⟩
  case rest =>
    clear HC2
    try clear p2
    try clear c4
    try clear c4b0
    try clear c4b1
    try clear c5
    try clear hcz6_0
    try clear hcz6_1
    try clear hcz6_2
    try clear hcz6_3
    try clear hcz6_4
    try clear hcz7_0
    try clear hcz7_1
    try clear hcz7_2
    try clear hcz7_3
    try clear hcz7_4
    try clear hfz6_0
    try clear hfz6_1
    try clear hfz6_2
    try clear hfz6_3
    try clear hfz6_4
    try clear hfz7_0
    try clear hfz7_1
    try clear hfz7_2
    try clear hfz7_3
    try clear hfz7_4
    obtain ⟨kq, x16_1, rfl, HA, HJ1, BK207, HB⟩ := hcut
    cases kq with
    | zero => exact absurd HA.out (by simp [impl_ValidInode.j0])
    | succ kj1 =>
      have H := HA.out
      clear HA
      simp only [impl_ValidInode.j0] at H
      by_cases c8 : x16_1 = true
      · subst c8
        have H1 : (some false) = some r := by rw [if_pos rfl] at H; exact H
        clear H
        have H := H1
        clear H1
        obtain rfl := Option.some.inj H
        go_wp2
        go_ret
        exact ⟨by first | rfl | (simp [errW_none, errW_some] <;> rfl) | (simp [*, errW_none, errW_some] <;> rfl), by repeat (first | (with_reducible first | exact HB.out | apply below_alloc | apply pw_below_drewN | apply below_drew1 | refine below_set ?_ GE207.out) | exact HB.out)⟩
      · replace c8 := Bool.eq_false_iff.mpr c8
        subst c8
        have H1 : (impl_ValidInode.l0 kj1 (a0_4 != 0) l0_3 (l0_3.length : Int) 0 a0_0 a0_1 a0_2 l0_3 a0_4) = some r := by rw [if_neg (show ¬ (false = true) by decide)] at H; exact H
        clear H
        have H := H1
        clear H1
        have H' := Aside0.mk H
        clear H
        have hcz9_0 : wc.cell? ⟨gb207, 0, none⟩ = some (.int .i64 a0_0) := (blk_cell BK207.out 0).trans rfl
        have hcz9_1 : wc.cell? ⟨gb207, 1, none⟩ = some (.int .i64 a0_1) := (blk_cell BK207.out 1).trans rfl
        have hcz9_2 : wc.cell? ⟨gb207, 2, none⟩ = some (.int .i64 a0_2) := (blk_cell BK207.out 2).trans rfl
        have hcz9_3 : wc.cell? ⟨gb207, 3, none⟩ = some (.slice A0_3 l0_3.length c0_3) := (blk_cell BK207.out 3).trans rfl
        have hcz9_4 : wc.cell? ⟨gb207, 4, none⟩ = some (.int .i64 a0_4) := (blk_cell BK207.out 4).trans rfl
        have hfz9_0 := blk_frozen BK207.out 0
        have hfz9_1 := blk_frozen BK207.out 1
        have hfz9_2 := blk_frozen BK207.out 2
        have hfz9_3 := blk_frozen BK207.out 3
        have hfz9_4 := blk_frozen BK207.out 4
        go_wp2
        go_loopg [3, 23] kj1 (fun kq v3 v23 w' => ∃ (x3_2 : Bool) (x23_2 : Int), v3 = .bool x3_2 ∧ v23 = .int .i64 x23_2 ∧ Aside0 (impl_ValidInode.l0 kq x3_2 l0_3 (l0_3.length : Int) x23_2 a0_0 a0_1 a0_2 l0_3 a0_4 = some r) ∧ Aside0 (kq ≤ kj1) ∧ Aside0 (w'.heap[gb207]? = some (.cells #[.int .i64 a0_0, .int .i64 a0_1, .int .i64 a0_2, (.slice A0_3 l0_3.length c0_3), .int .i64 a0_4] 65 (0, 0))) ∧ Aside0 (Below w.heap.size w w'))
        case atStart => exact ⟨((a0_4 != 0)), (0), (by first | rfl | (simp; done) | (simp [*]; done)), (by first | rfl | (simp; done) | (simp [*]; done)), H', ⟨Nat.le_refl _⟩, ⟨by (with_reducible repeat (first | refine blk_drewN ?_ _ | refine blk_drew ?_ | refine blk_alloc ?_ _)); exact BK207.out⟩, ⟨by repeat (first | (with_reducible first | exact HB.out | apply below_alloc | apply pw_below_drewN | apply below_drew1 | refine below_set ?_ GE207.out) | exact HB.out)⟩⟩
        case round =>
          clear H'
          try clear p2
          try clear c4
          try clear c4b0
          try clear c4b1
          try clear c5
          try clear c8
          try clear hcz6_0
          try clear hcz6_1
          try clear hcz6_2
          try clear hcz6_3
          try clear hcz6_4
          try clear hcz7_0
          try clear hcz7_1
          try clear hcz7_2
          try clear hcz7_3
          try clear hcz7_4
          try clear hcz9_0
          try clear hcz9_1
          try clear hcz9_2
          try clear hcz9_3
          try clear hcz9_4
          try clear hfz6_0
          try clear hfz6_1
          try clear hfz6_2
          try clear hfz6_3
          try clear hfz6_4
          try clear hfz7_0
          try clear hfz7_1
          try clear hfz7_2
          try clear hfz7_3
          try clear hfz7_4
          try clear hfz9_0
          try clear hfz9_1
          try clear hfz9_2
          try clear hfz9_3
          try clear hfz9_4
          try clear p2
          obtain ⟨x3_2, x23_2, rfl, rfl, HA, HK2, BK207, HB⟩ := hrel
          cases gk with
          | zero => exact absurd HA.out (by simp [impl_ValidInode.l0])
          | succ k2 =>
            have H := HA.out
            clear HA
            simp only [impl_ValidInode.l0] at H
            by_cases c10 : x23_2 < (l0_3.length : Int)
            · rw [if_pos c10] at H
              have c10b0 : decide (x23_2 < (l0_3.length : Int)) = true := decide_eq_true c10
              clear c10
              by_cases c11 : 0 ≤ x23_2
              · rw [if_pos c11] at H
                have c11b0 : decide (0 ≤ x23_2) = true := decide_eq_true c11
                clear c11
                by_cases c12 : x23_2 < (l0_3.length : Int)
                · rw [if_pos c12] at H
                  have c12b0 : decide (x23_2 < (l0_3.length : Int)) = true := decide_eq_true c12
                  clear c12
                  replace H := Option.bind_eq_some_iff.mp H
                  obtain ⟨t210, A130, H⟩ := H
                  replace H : (if t210 = true then (if x3_2 = true then (impl_ValidInode.j2 k2 true x23_2 (rd l0_3 x23_2) l0_3 (l0_3.length : Int) x23_2 a0_0 a0_1 a0_2 l0_3 a0_4) else (impl_ValidInode.j2 k2 ((rd l0_3 x23_2) != 0) x23_2 (rd l0_3 x23_2) l0_3 (l0_3.length : Int) x23_2 a0_0 a0_1 a0_2 l0_3 a0_4)) else (some false)) = some r := H
                  have A13 := Aside0.mk A130
                  clear A130
                  by_cases c14 : t210 = true
                  · subst c14
                    have H1 : (if x3_2 = true then (impl_ValidInode.j2 k2 true x23_2 (rd l0_3 x23_2) l0_3 (l0_3.length : Int) x23_2 a0_0 a0_1 a0_2 l0_3 a0_4) else (impl_ValidInode.j2 k2 ((rd l0_3 x23_2) != 0) x23_2 (rd l0_3 x23_2) l0_3 (l0_3.length : Int) x23_2 a0_0 a0_1 a0_2 l0_3 a0_4)) = some r := by rw [if_pos rfl] at H; exact H
                    clear H
                    have H := H1
                    clear H1
                    have HC15 := Aside0.mk H
                    clear H
                    have p209 : 0 ≤ (x23_2 : Int) := of_decide_eq_true (by first | (with_reducible assumption) | assumption)
                    have q209 : x23_2 < (l0_3.length : Int) := of_decide_eq_true (by first | (with_reducible assumption) | assumption)
                    obtain ⟨ad209, e209, hx209_0⟩ := Kd.at_int HR0_3.out x23_2 p209 q209
                    cases e209
                    replace hx209_0 := (HB.out.cell (World.block_lt_of_cell? w _ hx209_0)).trans hx209_0
                    replace p209 := eq_true p209
                    replace q209 := eq_true q209
                    go_upto_region 9 with (first | ((with_reducible refine gate_callee (f := 53) rfl ?_); refine goesL_ (some 29) rfl rfl Try.func53 (by kernel_rfl) rfl #[.int .i64 (rd l0_3 x23_2), .int .i64 0, .int .i64 2047] rfl (by (try simp only [List.map_toArray, List.map_cons, List.map_nil]); first | done | rfl | (simp only [List.length_drop, List.length_take]; rfl)) ?_; (with_reducible refine (impl_in.calls (rd l0_3 x23_2) 0 2047 true _ A13.out).mono ?_); rintro e w' ⟨rfl, ⟨nd, rfl⟩⟩; refine ⟨_, rfl, ?_⟩))
                    (try simp only [Act.put, List.setIfInBounds_toArray, List.set_cons_zero, List.set_cons_succ])
                    go_cut [3] (fun v3 wc => ∃ (kq : Nat) (x3_14 : Bool), v3 = .bool x3_14 ∧ Aside0 (impl_ValidInode.j2 kq x3_14 x23_2 (rd l0_3 x23_2) l0_3 (l0_3.length : Int) x23_2 a0_0 a0_1 a0_2 l0_3 a0_4 = some r) ∧ Aside0 (kq ≤ k2) ∧ Aside0 (wc.heap[gb207]? = some (.cells #[.int .i64 a0_0, .int .i64 a0_1, .int .i64 a0_2, (.slice (some ad209) l0_3.length c0_3), .int .i64 a0_4] 65 (0, 0))) ∧ Aside0 (Below w.heap.size w wc))
                    case first =>
                      have H := HC15.out
                      clear HC15
                      by_cases c16 : x3_2 = true
                      · subst c16
                        have H1 : (impl_ValidInode.j2 k2 true x23_2 (rd l0_3 x23_2) l0_3 (l0_3.length : Int) x23_2 a0_0 a0_1 a0_2 l0_3 a0_4) = some r := by rw [if_pos rfl] at H; exact H
                        clear H
                        have H := H1
                        clear H1
                        have H' := Aside0.mk H
                        clear H
                        go_wp2
                        go_meet
                        case rel => exact ⟨_, (true), (by first | rfl | (simp; done) | (simp [*]; done)), H', ⟨by have := HJ1.out; have := HK2.out; first | omega | exact Nat.le_refl _⟩, ⟨by (with_reducible repeat (first | refine blk_drewN ?_ _ | refine blk_drew ?_ | refine blk_alloc ?_ _)); exact BK207.out⟩, ⟨by repeat (first | (with_reducible first | exact HB.out | apply below_alloc | apply pw_below_drewN | apply below_drew1 | refine below_set ?_ GE207.out) | exact HB.out)⟩⟩
                      · replace c16 := Bool.eq_false_iff.mpr c16
                        subst c16
                        have H1 : (impl_ValidInode.j2 k2 ((rd l0_3 x23_2) != 0) x23_2 (rd l0_3 x23_2) l0_3 (l0_3.length : Int) x23_2 a0_0 a0_1 a0_2 l0_3 a0_4) = some r := by rw [if_neg (show ¬ (false = true) by decide)] at H; exact H
                        clear H
                        have H := H1
                        clear H1
                        have H' := Aside0.mk H
                        clear H
                        go_wp2
                        go_meet
                        case rel => exact ⟨_, (((rd l0_3 x23_2) != 0)), (by first | rfl | (simp; done) | (simp [*]; done)), H', ⟨by have := HJ1.out; have := HK2.out; first | omega | exact Nat.le_refl _⟩, ⟨by (with_reducible repeat (first | refine blk_drewN ?_ _ | refine blk_drew ?_ | refine blk_alloc ?_ _)); exact BK207.out⟩, ⟨by repeat (first | (with_reducible first | exact HB.out | apply below_alloc | apply pw_below_drewN | apply below_drew1 | refine below_set ?_ GE207.out) | exact HB.out)⟩⟩
                    case rest =>
                      clear HC15
                      try clear c1
                      try clear p2
                      try clear q2
                      try clear hx2
                      try clear c4
                      try clear c4b0
                      try clear c4b1
                      try clear c5
                      try clear c8
                      try clear c10
                      try clear c10b0
                      try clear c11
                      try clear c11b0
                      try clear c12
                      try clear c12b0
                      try clear c14
                      try clear c16
                      try clear hcz6_0
                      try clear hcz6_1
                      try clear hcz6_2
                      try clear hcz6_3
                      try clear hcz6_4
                      try clear hcz7_0
                      try clear hcz7_1
                      try clear hcz7_2
                      try clear hcz7_3
                      try clear hcz7_4
                      try clear hcz9_0
                      try clear hcz9_1
                      try clear hcz9_2
                      try clear hcz9_3
                      try clear hcz9_4
                      try clear hfz6_0
                      try clear hfz6_1
                      try clear hfz6_2
                      try clear hfz6_3
                      try clear hfz6_4
                      try clear hfz7_0
                      try clear hfz7_1
                      try clear hfz7_2
                      try clear hfz7_3
                      try clear hfz7_4
                      try clear hfz9_0
                      try clear hfz9_1
                      try clear hfz9_2
                      try clear hfz9_3
                      try clear hfz9_4
                      try clear hx209_0
                      try clear p2
                      try clear p209
                      try clear q209
                      obtain ⟨kq, x3_14, rfl, HA, HJ14, BK207, HB⟩ := hcut
                      cases kq with
                      | zero => exact absurd HA.out (by simp [impl_ValidInode.j2])
                      | succ kj14 =>
                        have H := HA.out
                        clear HA
                        simp only [impl_ValidInode.j2] at H
                        have HC17 := Aside0.mk H
                        clear H
                        go_upto_region 10 with (fail)
                        go_cut [49] (fun v49 wc => ∃ (kq : Nat) (x49_16 : Bool), v49 = .bool x49_16 ∧ Aside0 (impl_ValidInode.j3 kq x3_14 x23_2 (rd l0_3 x23_2) l0_3 (l0_3.length : Int) x23_2 x49_16 a0_0 a0_1 a0_2 l0_3 a0_4 = some r) ∧ Aside0 (kq ≤ kj14) ∧ Aside0 (wc.heap[gb207]? = some (.cells #[.int .i64 a0_0, .int .i64 a0_1, .int .i64 a0_2, (.slice (some ad209) l0_3.length c0_3), .int .i64 a0_4] 65 (0, 0))) ∧ Aside0 (Below w.heap.size w wc))
                        case first =>
                          have H := HC17.out
                          clear HC17
                          by_cases c18 : a0_0 = 0
                          · rw [if_pos c18] at H
                            have c18b0 : (a0_0 == 0) = true := beq_iff_eq.mpr c18
                            have c18b1 : (a0_0 != 0) = false := bne_eq_false_iff_eq.mpr c18
                            clear c18
                            (first | rw [c18b0] | (simp only [i64_w, i32_w]; rw [c18b0]) | skip)
                            have H' := Aside0.mk H
                            clear H
                            have hcz19_0 : wc.cell? ⟨gb207, 0, none⟩ = some (.int .i64 a0_0) := (blk_cell BK207.out 0).trans rfl
                            have hcz19_1 : wc.cell? ⟨gb207, 1, none⟩ = some (.int .i64 a0_1) := (blk_cell BK207.out 1).trans rfl
                            have hcz19_2 : wc.cell? ⟨gb207, 2, none⟩ = some (.int .i64 a0_2) := (blk_cell BK207.out 2).trans rfl
                            have hcz19_3 : wc.cell? ⟨gb207, 3, none⟩ = some (.slice (some ad209) l0_3.length c0_3) := (blk_cell BK207.out 3).trans rfl
                            have hcz19_4 : wc.cell? ⟨gb207, 4, none⟩ = some (.int .i64 a0_4) := (blk_cell BK207.out 4).trans rfl
                            have hfz19_0 := blk_frozen BK207.out 0
                            have hfz19_1 := blk_frozen BK207.out 1
                            have hfz19_2 := blk_frozen BK207.out 2
                            have hfz19_3 := blk_frozen BK207.out 3
                            have hfz19_4 := blk_frozen BK207.out 4
                            go_wp2
                            go_meet
                            case rel => exact ⟨_, (false), (by first | rfl | (simp; done) | (simp [*]; done)), H', ⟨by have := HJ1.out; have := HK2.out; have := HJ14.out; first | omega | exact Nat.le_refl _⟩, ⟨by (with_reducible repeat (first | refine blk_drewN ?_ _ | refine blk_drew ?_ | refine blk_alloc ?_ _)); exact BK207.out⟩, ⟨by repeat (first | (with_reducible first | exact HB.out | apply below_alloc | apply pw_below_drewN | apply below_drew1 | refine below_set ?_ GE207.out) | exact HB.out)⟩⟩
                          · rw [if_neg c18] at H
                            have c18b0 : (a0_0 == 0) = false := beq_eq_false_iff_ne.mpr c18
                            have c18b1 : (a0_0 != 0) = true := bne_iff_ne.mpr c18
                            (first | rw [c18b0] | (simp only [i64_w, i32_w]; rw [c18b0]) | skip)
                            by_cases c20 : (wrap64 (x23_2 * 64)) ≥ a0_2
                            · rw [if_pos c20] at H
                              have c20b0 : decide (a0_2 ≤ (wrap64 (x23_2 * 64))) = true := decide_eq_true c20
                              clear c20
                              have H' := Aside0.mk H
                              clear H
                              have hcz21_0 : wc.cell? ⟨gb207, 0, none⟩ = some (.int .i64 a0_0) := (blk_cell BK207.out 0).trans rfl
                              have hcz21_1 : wc.cell? ⟨gb207, 1, none⟩ = some (.int .i64 a0_1) := (blk_cell BK207.out 1).trans rfl
                              have hcz21_2 : wc.cell? ⟨gb207, 2, none⟩ = some (.int .i64 a0_2) := (blk_cell BK207.out 2).trans rfl
                              have hcz21_3 : wc.cell? ⟨gb207, 3, none⟩ = some (.slice (some ad209) l0_3.length c0_3) := (blk_cell BK207.out 3).trans rfl
                              have hcz21_4 : wc.cell? ⟨gb207, 4, none⟩ = some (.int .i64 a0_4) := (blk_cell BK207.out 4).trans rfl
                              have hfz21_0 := blk_frozen BK207.out 0
                              have hfz21_1 := blk_frozen BK207.out 1
                              have hfz21_2 := blk_frozen BK207.out 2
                              have hfz21_3 := blk_frozen BK207.out 3
                              have hfz21_4 := blk_frozen BK207.out 4
                              go_wp2
                              go_meet
                              case rel => exact ⟨_, (((rd l0_3 x23_2) != 0)), (by first | rfl | (simp; done) | (simp [*]; done)), H', ⟨by have := HJ1.out; have := HK2.out; have := HJ14.out; first | omega | exact Nat.le_refl _⟩, ⟨by (with_reducible repeat (first | refine blk_drewN ?_ _ | refine blk_drew ?_ | refine blk_alloc ?_ _)); exact BK207.out⟩, ⟨by repeat (first | (with_reducible first | exact HB.out | apply below_alloc | apply pw_below_drewN | apply below_drew1 | refine below_set ?_ GE207.out) | exact HB.out)⟩⟩
                            · rw [if_neg c20] at H
                              have c20b0 : decide (a0_2 ≤ (wrap64 (x23_2 * 64))) = false := decide_eq_false c20
                              clear c20
                              have H' := Aside0.mk H
                              clear H
                              have hcz22_0 : wc.cell? ⟨gb207, 0, none⟩ = some (.int .i64 a0_0) := (blk_cell BK207.out 0).trans rfl
                              have hcz22_1 : wc.cell? ⟨gb207, 1, none⟩ = some (.int .i64 a0_1) := (blk_cell BK207.out 1).trans rfl
                              have hcz22_2 : wc.cell? ⟨gb207, 2, none⟩ = some (.int .i64 a0_2) := (blk_cell BK207.out 2).trans rfl
                              have hcz22_3 : wc.cell? ⟨gb207, 3, none⟩ = some (.slice (some ad209) l0_3.length c0_3) := (blk_cell BK207.out 3).trans rfl
                              have hcz22_4 : wc.cell? ⟨gb207, 4, none⟩ = some (.int .i64 a0_4) := (blk_cell BK207.out 4).trans rfl
                              have hfz22_0 := blk_frozen BK207.out 0
                              have hfz22_1 := blk_frozen BK207.out 1
                              have hfz22_2 := blk_frozen BK207.out 2
                              have hfz22_3 := blk_frozen BK207.out 3
                              have hfz22_4 := blk_frozen BK207.out 4
                              go_wp2
                              go_meet
                              case rel => exact ⟨_, (false), (by first | rfl | (simp; done) | (simp [*]; done)), H', ⟨by have := HJ1.out; have := HK2.out; have := HJ14.out; first | omega | exact Nat.le_refl _⟩, ⟨by (with_reducible repeat (first | refine blk_drewN ?_ _ | refine blk_drew ?_ | refine blk_alloc ?_ _)); exact BK207.out⟩, ⟨by repeat (first | (with_reducible first | exact HB.out | apply below_alloc | apply pw_below_drewN | apply below_drew1 | refine below_set ?_ GE207.out) | exact HB.out)⟩⟩
                        case rest =>
                          clear HC17
                          try clear c1
                          try clear c2
                          try clear p2
                          try clear q2
                          try clear hx2
                          try clear c4
                          try clear c4b0
                          try clear c4b1
                          try clear c5
                          try clear p6
                          try clear c8
                          try clear c10
                          try clear c10b0
                          try clear c11
                          try clear c11b0
                          try clear c12
                          try clear c12b0
                          try clear c14
                          try clear c16
                          try clear c18
                          try clear c18b0
                          try clear c18b1
                          try clear c20
                          try clear c20b0
                          try clear p20
                          try clear q20
                          try clear hx20
                          try clear hcz19_0
                          try clear hcz19_1
                          try clear hcz19_2
                          try clear hcz19_3
                          try clear hcz19_4
                          try clear hcz21_0
                          try clear hcz21_1
                          try clear hcz21_2
                          try clear hcz21_3
                          try clear hcz21_4
                          try clear hcz22_0
                          try clear hcz22_1
                          try clear hcz22_2
                          try clear hcz22_3
                          try clear hcz22_4
                          try clear hcz6_0
                          try clear hcz6_1
                          try clear hcz6_2
                          try clear hcz6_3
                          try clear hcz6_4
                          try clear hcz7_0
                          try clear hcz7_1
                          try clear hcz7_2
                          try clear hcz7_3
                          try clear hcz7_4
                          try clear hcz9_0
                          try clear hcz9_1
                          try clear hcz9_2
                          try clear hcz9_3
                          try clear hcz9_4
                          try clear hfz19_0
                          try clear hfz19_1
                          try clear hfz19_2
                          try clear hfz19_3
                          try clear hfz19_4
                          try clear hfz21_0
                          try clear hfz21_1
                          try clear hfz21_2
                          try clear hfz21_3
                          try clear hfz21_4
                          try clear hfz22_0
                          try clear hfz22_1
                          try clear hfz22_2
                          try clear hfz22_3
                          try clear hfz22_4
                          try clear hfz6_0
                          try clear hfz6_1
                          try clear hfz6_2
                          try clear hfz6_3
                          try clear hfz6_4
                          try clear hfz7_0
                          try clear hfz7_1
                          try clear hfz7_2
                          try clear hfz7_3
                          try clear hfz7_4
                          try clear hfz9_0
                          try clear hfz9_1
                          try clear hfz9_2
                          try clear hfz9_3
                          try clear hfz9_4
                          try clear hx209_0
                          try clear p2
                          try clear p209
                          try clear q2
                          try clear q209
                          obtain ⟨kq, x49_16, rfl, HA, HJ16, BK207, HB⟩ := hcut
                          cases kq with
                          | zero => exact absurd HA.out (by simp [impl_ValidInode.j3])
                          | succ kj16 =>
                            have H := HA.out
                            clear HA
                            simp only [impl_ValidInode.j3] at H
                            by_cases c23 : x49_16 = true
                            · subst c23
                              have H1 : (some false) = some r := by rw [if_pos rfl] at H; exact H
                              clear H
                              have H := H1
                              clear H1
                              obtain rfl := Option.some.inj H
                              go_wp2
                              go_ret
                              exact ⟨by first | rfl | (simp [errW_none, errW_some] <;> rfl) | (simp [*, errW_none, errW_some] <;> rfl), by repeat (first | (with_reducible first | exact HB.out | apply below_alloc | apply pw_below_drewN | apply below_drew1 | refine below_set ?_ GE207.out) | exact HB.out)⟩
                            · replace c23 := Bool.eq_false_iff.mpr c23
                              subst c23
                              have H1 : (if a0_0 = 2 then (if (wrap64 (x23_2 * 64)) < a0_2 then (if (rd l0_3 x23_2) = 0 then (some false) else (impl_ValidInode.l0 kj16 x3_14 l0_3 (l0_3.length : Int) (wrap64 (x23_2 + 1)) a0_0 a0_1 a0_2 l0_3 a0_4)) else (impl_ValidInode.l0 kj16 x3_14 l0_3 (l0_3.length : Int) (wrap64 (x23_2 + 1)) a0_0 a0_1 a0_2 l0_3 a0_4)) else (if a0_0 = 3 then (if (wrap64 (x23_2 * 64)) < a0_2 then (if (rd l0_3 x23_2) = 0 then (some false) else (impl_ValidInode.l0 kj16 x3_14 l0_3 (l0_3.length : Int) (wrap64 (x23_2 + 1)) a0_0 a0_1 a0_2 l0_3 a0_4)) else (impl_ValidInode.l0 kj16 x3_14 l0_3 (l0_3.length : Int) (wrap64 (x23_2 + 1)) a0_0 a0_1 a0_2 l0_3 a0_4)) else (impl_ValidInode.l0 kj16 x3_14 l0_3 (l0_3.length : Int) (wrap64 (x23_2 + 1)) a0_0 a0_1 a0_2 l0_3 a0_4))) = some r := by rw [if_neg (show ¬ (false = true) by decide)] at H; exact H
                              clear H
                              have H := H1
                              clear H1
                              by_cases c24 : a0_0 = 2
                              · rw [if_pos c24] at H
                                have c24b0 : (a0_0 == 2) = true := beq_iff_eq.mpr c24
                                have c24b1 : (a0_0 != 2) = false := bne_eq_false_iff_eq.mpr c24
                                clear c24
                                by_cases c25 : (wrap64 (x23_2 * 64)) < a0_2
                                · rw [if_pos c25] at H
                                  have c25b0 : decide ((wrap64 (x23_2 * 64)) < a0_2) = true := decide_eq_true c25
                                  clear c25
                                  by_cases c26 : (rd l0_3 x23_2) = 0
                                  · rw [if_pos c26] at H
                                    have c26b0 : ((rd l0_3 x23_2) == 0) = true := beq_iff_eq.mpr c26
                                    have c26b1 : ((rd l0_3 x23_2) != 0) = false := bne_eq_false_iff_eq.mpr c26
                                    clear c26
                                    obtain rfl := Option.some.inj H
                                    have hcz27_0 : wc.cell? ⟨gb207, 0, none⟩ = some (.int .i64 a0_0) := (blk_cell BK207.out 0).trans rfl
                                    have hcz27_1 : wc.cell? ⟨gb207, 1, none⟩ = some (.int .i64 a0_1) := (blk_cell BK207.out 1).trans rfl
                                    have hcz27_2 : wc.cell? ⟨gb207, 2, none⟩ = some (.int .i64 a0_2) := (blk_cell BK207.out 2).trans rfl
                                    have hcz27_3 : wc.cell? ⟨gb207, 3, none⟩ = some (.slice (some ad209) l0_3.length c0_3) := (blk_cell BK207.out 3).trans rfl
                                    have hcz27_4 : wc.cell? ⟨gb207, 4, none⟩ = some (.int .i64 a0_4) := (blk_cell BK207.out 4).trans rfl
                                    have hfz27_0 := blk_frozen BK207.out 0
                                    have hfz27_1 := blk_frozen BK207.out 1
                                    have hfz27_2 := blk_frozen BK207.out 2
                                    have hfz27_3 := blk_frozen BK207.out 3
                                    have hfz27_4 := blk_frozen BK207.out 4
                                    go_wp2
                                    go_ret
                                    exact ⟨by first | rfl | (simp [errW_none, errW_some] <;> rfl) | (simp [*, errW_none, errW_some] <;> rfl), by repeat (first | (with_reducible first | exact HB.out | apply below_alloc | apply pw_below_drewN | apply below_drew1 | refine below_set ?_ GE207.out) | exact HB.out)⟩
                                  · rw [if_neg c26] at H
                                    have c26b0 : ((rd l0_3 x23_2) == 0) = false := beq_eq_false_iff_ne.mpr c26
                                    have c26b1 : ((rd l0_3 x23_2) != 0) = true := bne_iff_ne.mpr c26
                                    have H' := Aside0.mk H
                                    clear H
                                    have hcz28_0 : wc.cell? ⟨gb207, 0, none⟩ = some (.int .i64 a0_0) := (blk_cell BK207.out 0).trans rfl
                                    have hcz28_1 : wc.cell? ⟨gb207, 1, none⟩ = some (.int .i64 a0_1) := (blk_cell BK207.out 1).trans rfl
                                    have hcz28_2 : wc.cell? ⟨gb207, 2, none⟩ = some (.int .i64 a0_2) := (blk_cell BK207.out 2).trans rfl
                                    have hcz28_3 : wc.cell? ⟨gb207, 3, none⟩ = some (.slice (some ad209) l0_3.length c0_3) := (blk_cell BK207.out 3).trans rfl
                                    have hcz28_4 : wc.cell? ⟨gb207, 4, none⟩ = some (.int .i64 a0_4) := (blk_cell BK207.out 4).trans rfl
                                    have hfz28_0 := blk_frozen BK207.out 0
                                    have hfz28_1 := blk_frozen BK207.out 1
                                    have hfz28_2 := blk_frozen BK207.out 2
                                    have hfz28_3 := blk_frozen BK207.out 3
                                    have hfz28_4 := blk_frozen BK207.out 4
                                    go_wp2
                                    go_roundg kj16
                                    case measure => have := HJ1.out; have := HK2.out; have := HJ14.out; have := HJ16.out; omega
                                    case rel => exact ⟨(x3_14), (wrap64 (x23_2 + 1)), (by first | rfl | (simp; done) | (simp [*]; done)), (by first | rfl | (simp; done) | (simp [*]; done)), H', ⟨by have := HJ1.out; have := HK2.out; have := HJ14.out; have := HJ16.out; omega⟩, ⟨by (with_reducible repeat (first | refine blk_drewN ?_ _ | refine blk_drew ?_ | refine blk_alloc ?_ _)); exact BK207.out⟩, ⟨by repeat (first | (with_reducible first | exact HB.out | apply below_alloc | apply pw_below_drewN | apply below_drew1 | refine below_set ?_ GE207.out) | exact HB.out)⟩⟩
                                · rw [if_neg c25] at H
                                  have c25b0 : decide ((wrap64 (x23_2 * 64)) < a0_2) = false := decide_eq_false c25
                                  clear c25
                                  have H' := Aside0.mk H
                                  clear H
                                  have hcz29_0 : wc.cell? ⟨gb207, 0, none⟩ = some (.int .i64 a0_0) := (blk_cell BK207.out 0).trans rfl
                                  have hcz29_1 : wc.cell? ⟨gb207, 1, none⟩ = some (.int .i64 a0_1) := (blk_cell BK207.out 1).trans rfl
                                  have hcz29_2 : wc.cell? ⟨gb207, 2, none⟩ = some (.int .i64 a0_2) := (blk_cell BK207.out 2).trans rfl
                                  have hcz29_3 : wc.cell? ⟨gb207, 3, none⟩ = some (.slice (some ad209) l0_3.length c0_3) := (blk_cell BK207.out 3).trans rfl
                                  have hcz29_4 : wc.cell? ⟨gb207, 4, none⟩ = some (.int .i64 a0_4) := (blk_cell BK207.out 4).trans rfl
                                  have hfz29_0 := blk_frozen BK207.out 0
                                  have hfz29_1 := blk_frozen BK207.out 1
                                  have hfz29_2 := blk_frozen BK207.out 2
                                  have hfz29_3 := blk_frozen BK207.out 3
                                  have hfz29_4 := blk_frozen BK207.out 4
                                  go_wp2
                                  go_roundg kj16
                                  case measure => have := HJ1.out; have := HK2.out; have := HJ14.out; have := HJ16.out; omega
                                  case rel => exact ⟨(x3_14), (wrap64 (x23_2 + 1)), (by first | rfl | (simp; done) | (simp [*]; done)), (by first | rfl | (simp; done) | (simp [*]; done)), H', ⟨by have := HJ1.out; have := HK2.out; have := HJ14.out; have := HJ16.out; omega⟩, ⟨by (with_reducible repeat (first | refine blk_drewN ?_ _ | refine blk_drew ?_ | refine blk_alloc ?_ _)); exact BK207.out⟩, ⟨by repeat (first | (with_reducible first | exact HB.out | apply below_alloc | apply pw_below_drewN | apply below_drew1 | refine below_set ?_ GE207.out) | exact HB.out)⟩⟩
                              · rw [if_neg c24] at H
                                have c24b0 : (a0_0 == 2) = false := beq_eq_false_iff_ne.mpr c24
                                have c24b1 : (a0_0 != 2) = true := bne_iff_ne.mpr c24
                                by_cases c30 : a0_0 = 3
                                · rw [if_pos c30] at H
                                  have c30b0 : (a0_0 == 3) = true := beq_iff_eq.mpr c30
                                  have c30b1 : (a0_0 != 3) = false := bne_eq_false_iff_eq.mpr c30
                                  clear c30
                                  by_cases c31 : (wrap64 (x23_2 * 64)) < a0_2
                                  · rw [if_pos c31] at H
                                    have c31b0 : decide ((wrap64 (x23_2 * 64)) < a0_2) = true := decide_eq_true c31
                                    clear c31
                                    by_cases c32 : (rd l0_3 x23_2) = 0
                                    · rw [if_pos c32] at H
                                      have c32b0 : ((rd l0_3 x23_2) == 0) = true := beq_iff_eq.mpr c32
                                      have c32b1 : ((rd l0_3 x23_2) != 0) = false := bne_eq_false_iff_eq.mpr c32
                                      clear c32
                                      obtain rfl := Option.some.inj H
                                      have hcz33_0 : wc.cell? ⟨gb207, 0, none⟩ = some (.int .i64 a0_0) := (blk_cell BK207.out 0).trans rfl
                                      have hcz33_1 : wc.cell? ⟨gb207, 1, none⟩ = some (.int .i64 a0_1) := (blk_cell BK207.out 1).trans rfl
                                      have hcz33_2 : wc.cell? ⟨gb207, 2, none⟩ = some (.int .i64 a0_2) := (blk_cell BK207.out 2).trans rfl
                                      have hcz33_3 : wc.cell? ⟨gb207, 3, none⟩ = some (.slice (some ad209) l0_3.length c0_3) := (blk_cell BK207.out 3).trans rfl
                                      have hcz33_4 : wc.cell? ⟨gb207, 4, none⟩ = some (.int .i64 a0_4) := (blk_cell BK207.out 4).trans rfl
                                      have hfz33_0 := blk_frozen BK207.out 0
                                      have hfz33_1 := blk_frozen BK207.out 1
                                      have hfz33_2 := blk_frozen BK207.out 2
                                      have hfz33_3 := blk_frozen BK207.out 3
                                      have hfz33_4 := blk_frozen BK207.out 4
                                      go_wp2
                                      go_ret
                                      exact ⟨by first | rfl | (simp [errW_none, errW_some] <;> rfl) | (simp [*, errW_none, errW_some] <;> rfl), by repeat (first | (with_reducible first | exact HB.out | apply below_alloc | apply pw_below_drewN | apply below_drew1 | refine below_set ?_ GE207.out) | exact HB.out)⟩
                                    · rw [if_neg c32] at H
                                      have c32b0 : ((rd l0_3 x23_2) == 0) = false := beq_eq_false_iff_ne.mpr c32
                                      have c32b1 : ((rd l0_3 x23_2) != 0) = true := bne_iff_ne.mpr c32
                                      have H' := Aside0.mk H
                                      clear H
                                      have hcz34_0 : wc.cell? ⟨gb207, 0, none⟩ = some (.int .i64 a0_0) := (blk_cell BK207.out 0).trans rfl
                                      have hcz34_1 : wc.cell? ⟨gb207, 1, none⟩ = some (.int .i64 a0_1) := (blk_cell BK207.out 1).trans rfl
                                      have hcz34_2 : wc.cell? ⟨gb207, 2, none⟩ = some (.int .i64 a0_2) := (blk_cell BK207.out 2).trans rfl
                                      have hcz34_3 : wc.cell? ⟨gb207, 3, none⟩ = some (.slice (some ad209) l0_3.length c0_3) := (blk_cell BK207.out 3).trans rfl
                                      have hcz34_4 : wc.cell? ⟨gb207, 4, none⟩ = some (.int .i64 a0_4) := (blk_cell BK207.out 4).trans rfl
                                      have hfz34_0 := blk_frozen BK207.out 0
                                      have hfz34_1 := blk_frozen BK207.out 1
                                      have hfz34_2 := blk_frozen BK207.out 2
                                      have hfz34_3 := blk_frozen BK207.out 3
                                      have hfz34_4 := blk_frozen BK207.out 4
                                      go_wp2
                                      go_roundg kj16
                                      case measure => have := HJ1.out; have := HK2.out; have := HJ14.out; have := HJ16.out; omega
                                      case rel => exact ⟨(x3_14), (wrap64 (x23_2 + 1)), (by first | rfl | (simp; done) | (simp [*]; done)), (by first | rfl | (simp; done) | (simp [*]; done)), H', ⟨by have := HJ1.out; have := HK2.out; have := HJ14.out; have := HJ16.out; omega⟩, ⟨by (with_reducible repeat (first | refine blk_drewN ?_ _ | refine blk_drew ?_ | refine blk_alloc ?_ _)); exact BK207.out⟩, ⟨by repeat (first | (with_reducible first | exact HB.out | apply below_alloc | apply pw_below_drewN | apply below_drew1 | refine below_set ?_ GE207.out) | exact HB.out)⟩⟩
                                  · rw [if_neg c31] at H
                                    have c31b0 : decide ((wrap64 (x23_2 * 64)) < a0_2) = false := decide_eq_false c31
                                    clear c31
                                    have H' := Aside0.mk H
                                    clear H
                                    have hcz35_0 : wc.cell? ⟨gb207, 0, none⟩ = some (.int .i64 a0_0) := (blk_cell BK207.out 0).trans rfl
                                    have hcz35_1 : wc.cell? ⟨gb207, 1, none⟩ = some (.int .i64 a0_1) := (blk_cell BK207.out 1).trans rfl
                                    have hcz35_2 : wc.cell? ⟨gb207, 2, none⟩ = some (.int .i64 a0_2) := (blk_cell BK207.out 2).trans rfl
                                    have hcz35_3 : wc.cell? ⟨gb207, 3, none⟩ = some (.slice (some ad209) l0_3.length c0_3) := (blk_cell BK207.out 3).trans rfl
                                    have hcz35_4 : wc.cell? ⟨gb207, 4, none⟩ = some (.int .i64 a0_4) := (blk_cell BK207.out 4).trans rfl
                                    have hfz35_0 := blk_frozen BK207.out 0
                                    have hfz35_1 := blk_frozen BK207.out 1
                                    have hfz35_2 := blk_frozen BK207.out 2
                                    have hfz35_3 := blk_frozen BK207.out 3
                                    have hfz35_4 := blk_frozen BK207.out 4
                                    go_wp2
                                    go_roundg kj16
                                    case measure => have := HJ1.out; have := HK2.out; have := HJ14.out; have := HJ16.out; omega
                                    case rel => exact ⟨(x3_14), (wrap64 (x23_2 + 1)), (by first | rfl | (simp; done) | (simp [*]; done)), (by first | rfl | (simp; done) | (simp [*]; done)), H', ⟨by have := HJ1.out; have := HK2.out; have := HJ14.out; have := HJ16.out; omega⟩, ⟨by (with_reducible repeat (first | refine blk_drewN ?_ _ | refine blk_drew ?_ | refine blk_alloc ?_ _)); exact BK207.out⟩, ⟨by repeat (first | (with_reducible first | exact HB.out | apply below_alloc | apply pw_below_drewN | apply below_drew1 | refine below_set ?_ GE207.out) | exact HB.out)⟩⟩
                                · rw [if_neg c30] at H
                                  have c30b0 : (a0_0 == 3) = false := beq_eq_false_iff_ne.mpr c30
                                  have c30b1 : (a0_0 != 3) = true := bne_iff_ne.mpr c30
                                  have H' := Aside0.mk H
                                  clear H
                                  have hcz36_0 : wc.cell? ⟨gb207, 0, none⟩ = some (.int .i64 a0_0) := (blk_cell BK207.out 0).trans rfl
                                  have hcz36_1 : wc.cell? ⟨gb207, 1, none⟩ = some (.int .i64 a0_1) := (blk_cell BK207.out 1).trans rfl
                                  have hcz36_2 : wc.cell? ⟨gb207, 2, none⟩ = some (.int .i64 a0_2) := (blk_cell BK207.out 2).trans rfl
                                  have hcz36_3 : wc.cell? ⟨gb207, 3, none⟩ = some (.slice (some ad209) l0_3.length c0_3) := (blk_cell BK207.out 3).trans rfl
                                  have hcz36_4 : wc.cell? ⟨gb207, 4, none⟩ = some (.int .i64 a0_4) := (blk_cell BK207.out 4).trans rfl
                                  have hfz36_0 := blk_frozen BK207.out 0
                                  have hfz36_1 := blk_frozen BK207.out 1
                                  have hfz36_2 := blk_frozen BK207.out 2
                                  have hfz36_3 := blk_frozen BK207.out 3
                                  have hfz36_4 := blk_frozen BK207.out 4
                                  go_wp2
                                  go_roundg kj16
                                  case measure => have := HJ1.out; have := HK2.out; have := HJ14.out; have := HJ16.out; omega
                                  case rel => exact ⟨(x3_14), (wrap64 (x23_2 + 1)), (by first | rfl | (simp; done) | (simp [*]; done)), (by first | rfl | (simp; done) | (simp [*]; done)), H', ⟨by have := HJ1.out; have := HK2.out; have := HJ14.out; have := HJ16.out; omega⟩, ⟨by (with_reducible repeat (first | refine blk_drewN ?_ _ | refine blk_drew ?_ | refine blk_alloc ?_ _)); exact BK207.out⟩, ⟨by repeat (first | (with_reducible first | exact HB.out | apply below_alloc | apply pw_below_drewN | apply below_drew1 | refine below_set ?_ GE207.out) | exact HB.out)⟩⟩
                  · replace c14 := Bool.eq_false_iff.mpr c14
                    subst c14
                    have H1 : (some false) = some r := by rw [if_neg (show ¬ (false = true) by decide)] at H; exact H
                    clear H
                    have H := H1
                    clear H1
                    obtain rfl := Option.some.inj H
                    have p209 : 0 ≤ (x23_2 : Int) := of_decide_eq_true (by first | (with_reducible assumption) | assumption)
                    have q209 : x23_2 < (l0_3.length : Int) := of_decide_eq_true (by first | (with_reducible assumption) | assumption)
                    obtain ⟨ad209, e209, hx209_0⟩ := Kd.at_int HR0_3.out x23_2 p209 q209
                    cases e209
                    replace hx209_0 := (HB.out.cell (World.block_lt_of_cell? w _ hx209_0)).trans hx209_0
                    replace p209 := eq_true p209
                    replace q209 := eq_true q209
                    go_wp2_with (first | ((with_reducible refine gate_callee (f := 53) rfl ?_); refine goesL_ (some 29) rfl rfl Try.func53 (by kernel_rfl) rfl #[.int .i64 (rd l0_3 x23_2), .int .i64 0, .int .i64 2047] rfl (by (try simp only [List.map_toArray, List.map_cons, List.map_nil]); first | done | rfl | (simp only [List.length_drop, List.length_take]; rfl)) ?_; (with_reducible refine (impl_in.calls (rd l0_3 x23_2) 0 2047 false _ A13.out).mono ?_); rintro e w' ⟨rfl, ⟨nd, rfl⟩⟩; refine ⟨_, rfl, ?_⟩))
                    go_ret
                    exact ⟨by first | rfl | (simp [errW_none, errW_some] <;> rfl) | (simp [*, errW_none, errW_some] <;> rfl), by repeat (first | (with_reducible first | exact HB.out | apply below_alloc | apply pw_below_drewN | apply below_drew1 | refine below_set ?_ GE207.out) | exact HB.out)⟩
                · rw [if_neg c12] at H
                  exact absurd H (by simp)
              · rw [if_neg c11] at H
                exact absurd H (by simp)
            · rw [if_neg c10] at H
              have c10b0 : decide (x23_2 < (l0_3.length : Int)) = false := decide_eq_false c10
              clear c10
              have HC37 := Aside0.mk H
              clear H
              have hcz38_0 : wr.cell? ⟨gb207, 0, none⟩ = some (.int .i64 a0_0) := (blk_cell BK207.out 0).trans rfl
              have hcz38_1 : wr.cell? ⟨gb207, 1, none⟩ = some (.int .i64 a0_1) := (blk_cell BK207.out 1).trans rfl
              have hcz38_2 : wr.cell? ⟨gb207, 2, none⟩ = some (.int .i64 a0_2) := (blk_cell BK207.out 2).trans rfl
              have hcz38_3 : wr.cell? ⟨gb207, 3, none⟩ = some (.slice A0_3 l0_3.length c0_3) := (blk_cell BK207.out 3).trans rfl
              have hcz38_4 : wr.cell? ⟨gb207, 4, none⟩ = some (.int .i64 a0_4) := (blk_cell BK207.out 4).trans rfl
              have hfz38_0 := blk_frozen BK207.out 0
              have hfz38_1 := blk_frozen BK207.out 1
              have hfz38_2 := blk_frozen BK207.out 2
              have hfz38_3 := blk_frozen BK207.out 3
              have hfz38_4 := blk_frozen BK207.out 4
              go_upto_block 2 with (fail)
              go_cut [6] (fun v6 wc => ∃ (kq : Nat) (x6_36 : Int), v6 = .int .i64 x6_36 ∧ Aside0 (impl_ValidInode.j4 kq x6_36 a0_0 a0_1 a0_2 l0_3 a0_4 = some r) ∧ Aside0 (kq ≤ k2) ∧ Aside0 (wc.heap[gb207]? = some (.cells #[.int .i64 a0_0, .int .i64 a0_1, .int .i64 a0_2, (.slice A0_3 l0_3.length c0_3), .int .i64 a0_4] 65 (0, 0))) ∧ Aside0 (Below w.heap.size w wc))
              case first =>
                have H := HC37.out
                clear HC37
                by_cases c39 : a0_0 = 0
                · rw [if_pos c39] at H
                  have c39b0 : (a0_0 == 0) = true := beq_iff_eq.mpr c39
                  have c39b1 : (a0_0 != 0) = false := bne_eq_false_iff_eq.mpr c39
                  clear c39
                  (first | rw [c39b0] | (simp only [i64_w, i32_w]; rw [c39b0]) | skip)
                  by_cases c40 : a0_1 = 0
                  · rw [if_pos c40] at H
                    have c40b0 : (a0_1 == 0) = true := beq_iff_eq.mpr c40
                    have c40b1 : (a0_1 != 0) = false := bne_eq_false_iff_eq.mpr c40
                    clear c40
                    by_cases c41 : a0_2 = 0
                    · rw [if_pos c41] at H
                      have c41b0 : (a0_2 == 0) = true := beq_iff_eq.mpr c41
                      have c41b1 : (a0_2 != 0) = false := bne_eq_false_iff_eq.mpr c41
                      clear c41
                      obtain rfl := Option.some.inj H
                      have hcz42_0 : wr.cell? ⟨gb207, 0, none⟩ = some (.int .i64 a0_0) := (blk_cell BK207.out 0).trans rfl
                      have hcz42_1 : wr.cell? ⟨gb207, 1, none⟩ = some (.int .i64 a0_1) := (blk_cell BK207.out 1).trans rfl
                      have hcz42_2 : wr.cell? ⟨gb207, 2, none⟩ = some (.int .i64 a0_2) := (blk_cell BK207.out 2).trans rfl
                      have hcz42_3 : wr.cell? ⟨gb207, 3, none⟩ = some (.slice A0_3 l0_3.length c0_3) := (blk_cell BK207.out 3).trans rfl
                      have hcz42_4 : wr.cell? ⟨gb207, 4, none⟩ = some (.int .i64 a0_4) := (blk_cell BK207.out 4).trans rfl
                      have hfz42_0 := blk_frozen BK207.out 0
                      have hfz42_1 := blk_frozen BK207.out 1
                      have hfz42_2 := blk_frozen BK207.out 2
                      have hfz42_3 := blk_frozen BK207.out 3
                      have hfz42_4 := blk_frozen BK207.out 4
                      go_wp2
                      go_ret
                      exact ⟨by first | rfl | (simp [errW_none, errW_some] <;> rfl) | (simp [*, errW_none, errW_some] <;> rfl), by repeat (first | (with_reducible first | exact HB.out | apply below_alloc | apply pw_below_drewN | apply below_drew1 | refine below_set ?_ GE207.out) | exact HB.out)⟩
                    · rw [if_neg c41] at H
                      have c41b0 : (a0_2 == 0) = false := beq_eq_false_iff_ne.mpr c41
                      have c41b1 : (a0_2 != 0) = true := bne_iff_ne.mpr c41
                      obtain rfl := Option.some.inj H
                      have hcz43_0 : wr.cell? ⟨gb207, 0, none⟩ = some (.int .i64 a0_0) := (blk_cell BK207.out 0).trans rfl
                      have hcz43_1 : wr.cell? ⟨gb207, 1, none⟩ = some (.int .i64 a0_1) := (blk_cell BK207.out 1).trans rfl
                      have hcz43_2 : wr.cell? ⟨gb207, 2, none⟩ = some (.int .i64 a0_2) := (blk_cell BK207.out 2).trans rfl
                      have hcz43_3 : wr.cell? ⟨gb207, 3, none⟩ = some (.slice A0_3 l0_3.length c0_3) := (blk_cell BK207.out 3).trans rfl
                      have hcz43_4 : wr.cell? ⟨gb207, 4, none⟩ = some (.int .i64 a0_4) := (blk_cell BK207.out 4).trans rfl
                      have hfz43_0 := blk_frozen BK207.out 0
                      have hfz43_1 := blk_frozen BK207.out 1
                      have hfz43_2 := blk_frozen BK207.out 2
                      have hfz43_3 := blk_frozen BK207.out 3
                      have hfz43_4 := blk_frozen BK207.out 4
                      go_wp2
                      go_ret
                      exact ⟨by first | rfl | (simp [errW_none, errW_some] <;> rfl) | (simp [*, errW_none, errW_some] <;> rfl), by repeat (first | (with_reducible first | exact HB.out | apply below_alloc | apply pw_below_drewN | apply below_drew1 | refine below_set ?_ GE207.out) | exact HB.out)⟩
                  · rw [if_neg c40] at H
                    have c40b0 : (a0_1 == 0) = false := beq_eq_false_iff_ne.mpr c40
                    have c40b1 : (a0_1 != 0) = true := bne_iff_ne.mpr c40
                    obtain rfl := Option.some.inj H
                    have hcz44_0 : wr.cell? ⟨gb207, 0, none⟩ = some (.int .i64 a0_0) := (blk_cell BK207.out 0).trans rfl
                    have hcz44_1 : wr.cell? ⟨gb207, 1, none⟩ = some (.int .i64 a0_1) := (blk_cell BK207.out 1).trans rfl
                    have hcz44_2 : wr.cell? ⟨gb207, 2, none⟩ = some (.int .i64 a0_2) := (blk_cell BK207.out 2).trans rfl
                    have hcz44_3 : wr.cell? ⟨gb207, 3, none⟩ = some (.slice A0_3 l0_3.length c0_3) := (blk_cell BK207.out 3).trans rfl
                    have hcz44_4 : wr.cell? ⟨gb207, 4, none⟩ = some (.int .i64 a0_4) := (blk_cell BK207.out 4).trans rfl
                    have hfz44_0 := blk_frozen BK207.out 0
                    have hfz44_1 := blk_frozen BK207.out 1
                    have hfz44_2 := blk_frozen BK207.out 2
                    have hfz44_3 := blk_frozen BK207.out 3
                    have hfz44_4 := blk_frozen BK207.out 4
                    go_wp2
                    go_ret
                    exact ⟨by first | rfl | (simp [errW_none, errW_some] <;> rfl) | (simp [*, errW_none, errW_some] <;> rfl), by repeat (first | (with_reducible first | exact HB.out | apply below_alloc | apply pw_below_drewN | apply below_drew1 | refine below_set ?_ GE207.out) | exact HB.out)⟩
                · rw [if_neg c39] at H
                  have c39b0 : (a0_0 == 0) = false := beq_eq_false_iff_ne.mpr c39
                  have c39b1 : (a0_0 != 0) = true := bne_iff_ne.mpr c39
                  (first | rw [c39b0] | (simp only [i64_w, i32_w]; rw [c39b0]) | skip)
                  by_cases c45 : a0_0 = 1
                  · rw [if_pos c45] at H
                    have c45b0 : (a0_0 == 1) = true := beq_iff_eq.mpr c45
                    have c45b1 : (a0_0 != 1) = false := bne_eq_false_iff_eq.mpr c45
                    clear c45
                    have H' := Aside0.mk H
                    clear H
                    go_wp2
                    go_meet
                    case rel => exact ⟨_, (0), (by first | rfl | (simp; done) | (simp [*]; done)), H', ⟨by have := HJ1.out; have := HK2.out; first | omega | exact Nat.le_refl _⟩, ⟨by (with_reducible repeat (first | refine blk_drewN ?_ _ | refine blk_drew ?_ | refine blk_alloc ?_ _)); exact BK207.out⟩, ⟨by repeat (first | (with_reducible first | exact HB.out | apply below_alloc | apply pw_below_drewN | apply below_drew1 | refine below_set ?_ GE207.out) | exact HB.out)⟩⟩
                  · rw [if_neg c45] at H
                    have c45b0 : (a0_0 == 1) = false := beq_eq_false_iff_ne.mpr c45
                    have c45b1 : (a0_0 != 1) = true := bne_iff_ne.mpr c45
                    by_cases c46 : a0_0 = 2
                    · rw [if_pos c46] at H
                      have c46b0 : (a0_0 == 2) = true := beq_iff_eq.mpr c46
                      have c46b1 : (a0_0 != 2) = false := bne_eq_false_iff_eq.mpr c46
                      clear c46
                      by_cases c47 : a0_1 = 1
                      · rw [if_pos c47] at H
                        have c47b0 : (a0_1 == 1) = true := beq_iff_eq.mpr c47
                        have c47b1 : (a0_1 != 1) = false := bne_eq_false_iff_eq.mpr c47
                        clear c47
                        by_cases c48 : (Int.tmod a0_2 16) = 0
                        · rw [if_pos c48] at H
                          have c48b0 : ((Int.tmod a0_2 16) == 0) = true := beq_iff_eq.mpr c48
                          have c48b1 : ((Int.tmod a0_2 16) != 0) = false := bne_eq_false_iff_eq.mpr c48
                          clear c48
                          have H' := Aside0.mk H
                          clear H
                          have hcz49_0 : wr.cell? ⟨gb207, 0, none⟩ = some (.int .i64 a0_0) := (blk_cell BK207.out 0).trans rfl
                          have hcz49_1 : wr.cell? ⟨gb207, 1, none⟩ = some (.int .i64 a0_1) := (blk_cell BK207.out 1).trans rfl
                          have hcz49_2 : wr.cell? ⟨gb207, 2, none⟩ = some (.int .i64 a0_2) := (blk_cell BK207.out 2).trans rfl
                          have hcz49_3 : wr.cell? ⟨gb207, 3, none⟩ = some (.slice A0_3 l0_3.length c0_3) := (blk_cell BK207.out 3).trans rfl
                          have hcz49_4 : wr.cell? ⟨gb207, 4, none⟩ = some (.int .i64 a0_4) := (blk_cell BK207.out 4).trans rfl
                          have hfz49_0 := blk_frozen BK207.out 0
                          have hfz49_1 := blk_frozen BK207.out 1
                          have hfz49_2 := blk_frozen BK207.out 2
                          have hfz49_3 := blk_frozen BK207.out 3
                          have hfz49_4 := blk_frozen BK207.out 4
                          go_wp2
                          go_meet
                          case rel => exact ⟨_, (1), (by first | rfl | (simp; done) | (simp [*]; done)), H', ⟨by have := HJ1.out; have := HK2.out; first | omega | exact Nat.le_refl _⟩, ⟨by (with_reducible repeat (first | refine blk_drewN ?_ _ | refine blk_drew ?_ | refine blk_alloc ?_ _)); exact BK207.out⟩, ⟨by repeat (first | (with_reducible first | exact HB.out | apply below_alloc | apply pw_below_drewN | apply below_drew1 | refine below_set ?_ GE207.out) | exact HB.out)⟩⟩
                        · rw [if_neg c48] at H
                          have c48b0 : ((Int.tmod a0_2 16) == 0) = false := beq_eq_false_iff_ne.mpr c48
                          have c48b1 : ((Int.tmod a0_2 16) != 0) = true := bne_iff_ne.mpr c48
                          obtain rfl := Option.some.inj H
                          have hcz50_0 : wr.cell? ⟨gb207, 0, none⟩ = some (.int .i64 a0_0) := (blk_cell BK207.out 0).trans rfl
                          have hcz50_1 : wr.cell? ⟨gb207, 1, none⟩ = some (.int .i64 a0_1) := (blk_cell BK207.out 1).trans rfl
                          have hcz50_2 : wr.cell? ⟨gb207, 2, none⟩ = some (.int .i64 a0_2) := (blk_cell BK207.out 2).trans rfl
                          have hcz50_3 : wr.cell? ⟨gb207, 3, none⟩ = some (.slice A0_3 l0_3.length c0_3) := (blk_cell BK207.out 3).trans rfl
                          have hcz50_4 : wr.cell? ⟨gb207, 4, none⟩ = some (.int .i64 a0_4) := (blk_cell BK207.out 4).trans rfl
                          have hfz50_0 := blk_frozen BK207.out 0
                          have hfz50_1 := blk_frozen BK207.out 1
                          have hfz50_2 := blk_frozen BK207.out 2
                          have hfz50_3 := blk_frozen BK207.out 3
                          have hfz50_4 := blk_frozen BK207.out 4
                          go_wp2
                          go_ret
                          exact ⟨by first | rfl | (simp [errW_none, errW_some] <;> rfl) | (simp [*, errW_none, errW_some] <;> rfl), by repeat (first | (with_reducible first | exact HB.out | apply below_alloc | apply pw_below_drewN | apply below_drew1 | refine below_set ?_ GE207.out) | exact HB.out)⟩
                      · rw [if_neg c47] at H
                        have c47b0 : (a0_1 == 1) = false := beq_eq_false_iff_ne.mpr c47
                        have c47b1 : (a0_1 != 1) = true := bne_iff_ne.mpr c47
                        obtain rfl := Option.some.inj H
                        have hcz51_0 : wr.cell? ⟨gb207, 0, none⟩ = some (.int .i64 a0_0) := (blk_cell BK207.out 0).trans rfl
                        have hcz51_1 : wr.cell? ⟨gb207, 1, none⟩ = some (.int .i64 a0_1) := (blk_cell BK207.out 1).trans rfl
                        have hcz51_2 : wr.cell? ⟨gb207, 2, none⟩ = some (.int .i64 a0_2) := (blk_cell BK207.out 2).trans rfl
                        have hcz51_3 : wr.cell? ⟨gb207, 3, none⟩ = some (.slice A0_3 l0_3.length c0_3) := (blk_cell BK207.out 3).trans rfl
                        have hcz51_4 : wr.cell? ⟨gb207, 4, none⟩ = some (.int .i64 a0_4) := (blk_cell BK207.out 4).trans rfl
                        have hfz51_0 := blk_frozen BK207.out 0
                        have hfz51_1 := blk_frozen BK207.out 1
                        have hfz51_2 := blk_frozen BK207.out 2
                        have hfz51_3 := blk_frozen BK207.out 3
                        have hfz51_4 := blk_frozen BK207.out 4
                        go_wp2
                        go_ret
                        exact ⟨by first | rfl | (simp [errW_none, errW_some] <;> rfl) | (simp [*, errW_none, errW_some] <;> rfl), by repeat (first | (with_reducible first | exact HB.out | apply below_alloc | apply pw_below_drewN | apply below_drew1 | refine below_set ?_ GE207.out) | exact HB.out)⟩
                    · rw [if_neg c46] at H
                      have c46b0 : (a0_0 == 2) = false := beq_eq_false_iff_ne.mpr c46
                      have c46b1 : (a0_0 != 2) = true := bne_iff_ne.mpr c46
                      by_cases c52 : a0_0 = 3
                      · rw [if_pos c52] at H
                        have c52b0 : (a0_0 == 3) = true := beq_iff_eq.mpr c52
                        have c52b1 : (a0_0 != 3) = false := bne_eq_false_iff_eq.mpr c52
                        clear c52
                        replace H := Option.bind_eq_some_iff.mp H
                        obtain ⟨t211, A530, H⟩ := H
                        replace H : (if t211 = true then (impl_ValidInode.j4 k2 1 a0_0 a0_1 a0_2 l0_3 a0_4) else (some false)) = some r := H
                        have A53 := Aside0.mk A530
                        clear A530
                        by_cases c54 : t211 = true
                        · subst c54
                          have H1 : (impl_ValidInode.j4 k2 1 a0_0 a0_1 a0_2 l0_3 a0_4) = some r := by rw [if_pos rfl] at H; exact H
                          clear H
                          have H := H1
                          clear H1
                          have H' := Aside0.mk H
                          clear H
                          have hcz55_0 : wr.cell? ⟨gb207, 0, none⟩ = some (.int .i64 a0_0) := (blk_cell BK207.out 0).trans rfl
                          have hcz55_1 : wr.cell? ⟨gb207, 1, none⟩ = some (.int .i64 a0_1) := (blk_cell BK207.out 1).trans rfl
                          have hcz55_2 : wr.cell? ⟨gb207, 2, none⟩ = some (.int .i64 a0_2) := (blk_cell BK207.out 2).trans rfl
                          have hcz55_3 : wr.cell? ⟨gb207, 3, none⟩ = some (.slice A0_3 l0_3.length c0_3) := (blk_cell BK207.out 3).trans rfl
                          have hcz55_4 : wr.cell? ⟨gb207, 4, none⟩ = some (.int .i64 a0_4) := (blk_cell BK207.out 4).trans rfl
                          have hfz55_0 := blk_frozen BK207.out 0
                          have hfz55_1 := blk_frozen BK207.out 1
                          have hfz55_2 := blk_frozen BK207.out 2
                          have hfz55_3 := blk_frozen BK207.out 3
                          have hfz55_4 := blk_frozen BK207.out 4
                          go_wp2_with (first | ((with_reducible refine gate_callee (f := 53) rfl ?_); refine goesL_ (some 103) rfl rfl Try.func53 (by kernel_rfl) rfl #[.int .i64 a0_2, .int .i64 1, .int .i64 240] rfl (by (try simp only [List.map_toArray, List.map_cons, List.map_nil]); first | done | rfl | (simp only [List.length_drop, List.length_take]; rfl)) ?_; (with_reducible refine (impl_in.calls a0_2 1 240 true _ A53.out).mono ?_); rintro e w' ⟨rfl, ⟨nd, rfl⟩⟩; refine ⟨_, rfl, ?_⟩))
                          go_meet
                          case rel => exact ⟨_, (1), (by first | rfl | (simp; done) | (simp [*]; done)), H', ⟨by have := HJ1.out; have := HK2.out; first | omega | exact Nat.le_refl _⟩, ⟨by (with_reducible repeat (first | refine blk_drewN ?_ _ | refine blk_drew ?_ | refine blk_alloc ?_ _)); exact BK207.out⟩, ⟨by repeat (first | (with_reducible first | exact HB.out | apply below_alloc | apply pw_below_drewN | apply below_drew1 | refine below_set ?_ GE207.out) | exact HB.out)⟩⟩
                        · replace c54 := Bool.eq_false_iff.mpr c54
                          subst c54
                          have H1 : (some false) = some r := by rw [if_neg (show ¬ (false = true) by decide)] at H; exact H
                          clear H
                          have H := H1
                          clear H1
                          obtain rfl := Option.some.inj H
                          have hcz56_0 : wr.cell? ⟨gb207, 0, none⟩ = some (.int .i64 a0_0) := (blk_cell BK207.out 0).trans rfl
                          have hcz56_1 : wr.cell? ⟨gb207, 1, none⟩ = some (.int .i64 a0_1) := (blk_cell BK207.out 1).trans rfl
                          have hcz56_2 : wr.cell? ⟨gb207, 2, none⟩ = some (.int .i64 a0_2) := (blk_cell BK207.out 2).trans rfl
                          have hcz56_3 : wr.cell? ⟨gb207, 3, none⟩ = some (.slice A0_3 l0_3.length c0_3) := (blk_cell BK207.out 3).trans rfl
                          have hcz56_4 : wr.cell? ⟨gb207, 4, none⟩ = some (.int .i64 a0_4) := (blk_cell BK207.out 4).trans rfl
                          have hfz56_0 := blk_frozen BK207.out 0
                          have hfz56_1 := blk_frozen BK207.out 1
                          have hfz56_2 := blk_frozen BK207.out 2
                          have hfz56_3 := blk_frozen BK207.out 3
                          have hfz56_4 := blk_frozen BK207.out 4
                          go_wp2_with (first | ((with_reducible refine gate_callee (f := 53) rfl ?_); refine goesL_ (some 103) rfl rfl Try.func53 (by kernel_rfl) rfl #[.int .i64 a0_2, .int .i64 1, .int .i64 240] rfl (by (try simp only [List.map_toArray, List.map_cons, List.map_nil]); first | done | rfl | (simp only [List.length_drop, List.length_take]; rfl)) ?_; (with_reducible refine (impl_in.calls a0_2 1 240 false _ A53.out).mono ?_); rintro e w' ⟨rfl, ⟨nd, rfl⟩⟩; refine ⟨_, rfl, ?_⟩))
                          go_ret
                          exact ⟨by first | rfl | (simp [errW_none, errW_some] <;> rfl) | (simp [*, errW_none, errW_some] <;> rfl), by repeat (first | (with_reducible first | exact HB.out | apply below_alloc | apply pw_below_drewN | apply below_drew1 | refine below_set ?_ GE207.out) | exact HB.out)⟩
                      · rw [if_neg c52] at H
                        have c52b0 : (a0_0 == 3) = false := beq_eq_false_iff_ne.mpr c52
                        have c52b1 : (a0_0 != 3) = true := bne_iff_ne.mpr c52
                        obtain rfl := Option.some.inj H
                        go_wp2
                        go_ret
                        exact ⟨by first | rfl | (simp [errW_none, errW_some] <;> rfl) | (simp [*, errW_none, errW_some] <;> rfl), by repeat (first | (with_reducible first | exact HB.out | apply below_alloc | apply pw_below_drewN | apply below_drew1 | refine below_set ?_ GE207.out) | exact HB.out)⟩
              case rest =>
                clear HC37
                try clear c1
                try clear c2
                try clear p2
                try clear q2
                try clear hx2
                try clear c3
                try clear c4
                try clear c4b0
                try clear c4b1
                try clear c5
                try clear p6
                try clear c8
                try clear c10
                try clear c10b0
                try clear c11
                try clear c11b0
                try clear c12
                try clear c12b0
                try clear c14
                try clear c16
                try clear c18
                try clear c18b0
                try clear c18b1
                try clear c20
                try clear c20b0
                try clear p20
                try clear q20
                try clear hx20
                try clear c23
                try clear c24
                try clear c24b0
                try clear c24b1
                try clear c25
                try clear c25b0
                try clear c26
                try clear c26b0
                try clear c26b1
                try clear c30
                try clear c30b0
                try clear c30b1
                try clear c31
                try clear c31b0
                try clear c32
                try clear c32b0
                try clear c32b1
                try clear c39
                try clear c39b0
                try clear c39b1
                try clear c40
                try clear c40b0
                try clear c40b1
                try clear c41
                try clear c41b0
                try clear c41b1
                try clear c45
                try clear c45b0
                try clear c45b1
                try clear c46
                try clear c46b0
                try clear c46b1
                try clear c47
                try clear c47b0
                try clear c47b1
                try clear c48
                try clear c48b0
                try clear c48b1
                try clear c52
                try clear c52b0
                try clear c52b1
                try clear c53
                try clear c54
                try clear hcz19_0
                try clear hcz19_1
                try clear hcz19_2
                try clear hcz19_3
                try clear hcz19_4
                try clear hcz21_0
                try clear hcz21_1
                try clear hcz21_2
                try clear hcz21_3
                try clear hcz21_4
                try clear hcz22_0
                try clear hcz22_1
                try clear hcz22_2
                try clear hcz22_3
                try clear hcz22_4
                try clear hcz27_0
                try clear hcz27_1
                try clear hcz27_2
                try clear hcz27_3
                try clear hcz27_4
                try clear hcz28_0
                try clear hcz28_1
                try clear hcz28_2
                try clear hcz28_3
                try clear hcz28_4
                try clear hcz29_0
                try clear hcz29_1
                try clear hcz29_2
                try clear hcz29_3
                try clear hcz29_4
                try clear hcz33_0
                try clear hcz33_1
                try clear hcz33_2
                try clear hcz33_3
                try clear hcz33_4
                try clear hcz34_0
                try clear hcz34_1
                try clear hcz34_2
                try clear hcz34_3
                try clear hcz34_4
                try clear hcz35_0
                try clear hcz35_1
                try clear hcz35_2
                try clear hcz35_3
                try clear hcz35_4
                try clear hcz36_0
                try clear hcz36_1
                try clear hcz36_2
                try clear hcz36_3
                try clear hcz36_4
                try clear hcz38_0
                try clear hcz38_1
                try clear hcz38_2
                try clear hcz38_3
                try clear hcz38_4
                try clear hcz42_0
                try clear hcz42_1
                try clear hcz42_2
                try clear hcz42_3
                try clear hcz42_4
                try clear hcz43_0
                try clear hcz43_1
                try clear hcz43_2
                try clear hcz43_3
                try clear hcz43_4
                try clear hcz44_0
                try clear hcz44_1
                try clear hcz44_2
                try clear hcz44_3
                try clear hcz44_4
                try clear hcz49_0
                try clear hcz49_1
                try clear hcz49_2
                try clear hcz49_3
                try clear hcz49_4
                try clear hcz50_0
                try clear hcz50_1
                try clear hcz50_2
                try clear hcz50_3
                try clear hcz50_4
                try clear hcz51_0
                try clear hcz51_1
                try clear hcz51_2
                try clear hcz51_3
                try clear hcz51_4
                try clear hcz55_0
                try clear hcz55_1
                try clear hcz55_2
                try clear hcz55_3
                try clear hcz55_4
                try clear hcz56_0
                try clear hcz56_1
                try clear hcz56_2
                try clear hcz56_3
                try clear hcz56_4
                try clear hcz6_0
                try clear hcz6_1
                try clear hcz6_2
                try clear hcz6_3
                try clear hcz6_4
                try clear hcz7_0
                try clear hcz7_1
                try clear hcz7_2
                try clear hcz7_3
                try clear hcz7_4
                try clear hcz9_0
                try clear hcz9_1
                try clear hcz9_2
                try clear hcz9_3
                try clear hcz9_4
                try clear hfz19_0
                try clear hfz19_1
                try clear hfz19_2
                try clear hfz19_3
                try clear hfz19_4
                try clear hfz21_0
                try clear hfz21_1
                try clear hfz21_2
                try clear hfz21_3
                try clear hfz21_4
                try clear hfz22_0
                try clear hfz22_1
                try clear hfz22_2
                try clear hfz22_3
                try clear hfz22_4
                try clear hfz27_0
                try clear hfz27_1
                try clear hfz27_2
                try clear hfz27_3
                try clear hfz27_4
                try clear hfz28_0
                try clear hfz28_1
                try clear hfz28_2
                try clear hfz28_3
                try clear hfz28_4
                try clear hfz29_0
                try clear hfz29_1
                try clear hfz29_2
                try clear hfz29_3
                try clear hfz29_4
                try clear hfz33_0
                try clear hfz33_1
                try clear hfz33_2
                try clear hfz33_3
                try clear hfz33_4
                try clear hfz34_0
                try clear hfz34_1
                try clear hfz34_2
                try clear hfz34_3
                try clear hfz34_4
                try clear hfz35_0
                try clear hfz35_1
                try clear hfz35_2
                try clear hfz35_3
                try clear hfz35_4
                try clear hfz36_0
                try clear hfz36_1
                try clear hfz36_2
                try clear hfz36_3
                try clear hfz36_4
                try clear hfz38_0
                try clear hfz38_1
                try clear hfz38_2
                try clear hfz38_3
                try clear hfz38_4
                try clear hfz42_0
                try clear hfz42_1
                try clear hfz42_2
                try clear hfz42_3
                try clear hfz42_4
                try clear hfz43_0
                try clear hfz43_1
                try clear hfz43_2
                try clear hfz43_3
                try clear hfz43_4
                try clear hfz44_0
                try clear hfz44_1
                try clear hfz44_2
                try clear hfz44_3
                try clear hfz44_4
                try clear hfz49_0
                try clear hfz49_1
                try clear hfz49_2
                try clear hfz49_3
                try clear hfz49_4
                try clear hfz50_0
                try clear hfz50_1
                try clear hfz50_2
                try clear hfz50_3
                try clear hfz50_4
                try clear hfz51_0
                try clear hfz51_1
                try clear hfz51_2
                try clear hfz51_3
                try clear hfz51_4
                try clear hfz55_0
                try clear hfz55_1
                try clear hfz55_2
                try clear hfz55_3
                try clear hfz55_4
                try clear hfz56_0
                try clear hfz56_1
                try clear hfz56_2
                try clear hfz56_3
                try clear hfz56_4
                try clear hfz6_0
                try clear hfz6_1
                try clear hfz6_2
                try clear hfz6_3
                try clear hfz6_4
                try clear hfz7_0
                try clear hfz7_1
                try clear hfz7_2
                try clear hfz7_3
                try clear hfz7_4
                try clear hfz9_0
                try clear hfz9_1
                try clear hfz9_2
                try clear hfz9_3
                try clear hfz9_4
                try clear hx209_0
                try clear p2
                try clear p20
                try clear p209
                try clear p6
                try clear q2
                try clear q20
                try clear q209
                obtain ⟨kq, x6_36, rfl, HA, HJ36, BK207, HB⟩ := hcut
                cases kq with
                | zero => exact absurd HA.out (by simp [impl_ValidInode.j4])
                | succ kj36 =>
                  have H := HA.out
                  clear HA
                  simp only [impl_ValidInode.j4] at H
                  replace H := Option.bind_eq_some_iff.mp H
                  obtain ⟨t212, A570, H⟩ := H
                  replace H : (if t212 = true then ((impl_in.f a0_2 0 2560).bind fun t213 => (if t213 = true then (if a0_2 ≤ 512 then (if a0_4 = 0 then (if a0_0 = 1 then (some true) else (some true)) else (some false)) else (if a0_0 = 1 then (some true) else (some (a0_4 != 0)))) else (some false))) else (some false)) = some r := H
                  have A57 := Aside0.mk A570
                  clear A570
                  by_cases c58 : t212 = true
                  · subst c58
                    have H1 : ((impl_in.f a0_2 0 2560).bind fun t213 => (if t213 = true then (if a0_2 ≤ 512 then (if a0_4 = 0 then (if a0_0 = 1 then (some true) else (some true)) else (some false)) else (if a0_0 = 1 then (some true) else (some (a0_4 != 0)))) else (some false))) = some r := by rw [if_pos rfl] at H; exact H
                    clear H
                    have H := H1
                    clear H1
                    replace H := Option.bind_eq_some_iff.mp H
                    obtain ⟨t213, A590, H⟩ := H
                    replace H : (if t213 = true then (if a0_2 ≤ 512 then (if a0_4 = 0 then (if a0_0 = 1 then (some true) else (some true)) else (some false)) else (if a0_0 = 1 then (some true) else (some (a0_4 != 0)))) else (some false)) = some r := H
                    have A59 := Aside0.mk A590
                    clear A590
                    by_cases c60 : t213 = true
                    · subst c60
                      have H1 : (if a0_2 ≤ 512 then (if a0_4 = 0 then (if a0_0 = 1 then (some true) else (some true)) else (some false)) else (if a0_0 = 1 then (some true) else (some (a0_4 != 0)))) = some r := by rw [if_pos rfl] at H; exact H
                      clear H
                      have H := H1
                      clear H1
                      by_cases c61 : a0_2 ≤ 512
                      · rw [if_pos c61] at H
                        have c61b0 : decide (a0_2 ≤ 512) = true := decide_eq_true c61
                        clear c61
                        by_cases c62 : a0_4 = 0
                        · rw [if_pos c62] at H
                          have c62b0 : (a0_4 == 0) = true := beq_iff_eq.mpr c62
                          have c62b1 : (a0_4 != 0) = false := bne_eq_false_iff_eq.mpr c62
                          clear c62
                          by_cases c63 : a0_0 = 1
                          · rw [if_pos c63] at H
                            have c63b0 : (a0_0 == 1) = true := beq_iff_eq.mpr c63
                            have c63b1 : (a0_0 != 1) = false := bne_eq_false_iff_eq.mpr c63
                            clear c63
                            obtain rfl := Option.some.inj H
                            have hcz64_0 : wc.cell? ⟨gb207, 0, none⟩ = some (.int .i64 a0_0) := (blk_cell BK207.out 0).trans rfl
                            have hcz64_1 : wc.cell? ⟨gb207, 1, none⟩ = some (.int .i64 a0_1) := (blk_cell BK207.out 1).trans rfl
                            have hcz64_2 : wc.cell? ⟨gb207, 2, none⟩ = some (.int .i64 a0_2) := (blk_cell BK207.out 2).trans rfl
                            have hcz64_3 : wc.cell? ⟨gb207, 3, none⟩ = some (.slice A0_3 l0_3.length c0_3) := (blk_cell BK207.out 3).trans rfl
                            have hcz64_4 : wc.cell? ⟨gb207, 4, none⟩ = some (.int .i64 a0_4) := (blk_cell BK207.out 4).trans rfl
                            have hfz64_0 := blk_frozen BK207.out 0
                            have hfz64_1 := blk_frozen BK207.out 1
                            have hfz64_2 := blk_frozen BK207.out 2
                            have hfz64_3 := blk_frozen BK207.out 3
                            have hfz64_4 := blk_frozen BK207.out 4
                            go_wp2_with (first | ((with_reducible refine gate_callee (f := 53) rfl ?_); refine goesL_ (some 108) rfl rfl Try.func53 (by kernel_rfl) rfl #[.int .i64 a0_1, .int .i64 x6_36, .int .i64 8] rfl (by (try simp only [List.map_toArray, List.map_cons, List.map_nil]); first | done | rfl | (simp only [List.length_drop, List.length_take]; rfl)) ?_; (with_reducible refine (impl_in.calls a0_1 x6_36 8 true _ A57.out).mono ?_); rintro e w' ⟨rfl, ⟨nd, rfl⟩⟩; refine ⟨_, rfl, ?_⟩) | (go_at_call 53; (with_reducible refine (impl_in.calls a0_2 0 2560 true _ A59.out).mono ?_); rintro e w' ⟨rfl, ⟨nd, rfl⟩⟩))
                            go_ret
                            exact ⟨by first | rfl | (simp [errW_none, errW_some] <;> rfl) | (simp [*, errW_none, errW_some] <;> rfl), by repeat (first | (with_reducible first | exact HB.out | apply below_alloc | apply pw_below_drewN | apply below_drew1 | refine below_set ?_ GE207.out) | exact HB.out)⟩
                          · rw [if_neg c63] at H
                            have c63b0 : (a0_0 == 1) = false := beq_eq_false_iff_ne.mpr c63
                            have c63b1 : (a0_0 != 1) = true := bne_iff_ne.mpr c63
                            obtain rfl := Option.some.inj H
                            have hcz65_0 : wc.cell? ⟨gb207, 0, none⟩ = some (.int .i64 a0_0) := (blk_cell BK207.out 0).trans rfl
                            have hcz65_1 : wc.cell? ⟨gb207, 1, none⟩ = some (.int .i64 a0_1) := (blk_cell BK207.out 1).trans rfl
                            have hcz65_2 : wc.cell? ⟨gb207, 2, none⟩ = some (.int .i64 a0_2) := (blk_cell BK207.out 2).trans rfl
                            have hcz65_3 : wc.cell? ⟨gb207, 3, none⟩ = some (.slice A0_3 l0_3.length c0_3) := (blk_cell BK207.out 3).trans rfl
                            have hcz65_4 : wc.cell? ⟨gb207, 4, none⟩ = some (.int .i64 a0_4) := (blk_cell BK207.out 4).trans rfl
                            have hfz65_0 := blk_frozen BK207.out 0
                            have hfz65_1 := blk_frozen BK207.out 1
                            have hfz65_2 := blk_frozen BK207.out 2
                            have hfz65_3 := blk_frozen BK207.out 3
                            have hfz65_4 := blk_frozen BK207.out 4
                            go_wp2_with (first | ((with_reducible refine gate_callee (f := 53) rfl ?_); refine goesL_ (some 108) rfl rfl Try.func53 (by kernel_rfl) rfl #[.int .i64 a0_1, .int .i64 x6_36, .int .i64 8] rfl (by (try simp only [List.map_toArray, List.map_cons, List.map_nil]); first | done | rfl | (simp only [List.length_drop, List.length_take]; rfl)) ?_; (with_reducible refine (impl_in.calls a0_1 x6_36 8 true _ A57.out).mono ?_); rintro e w' ⟨rfl, ⟨nd, rfl⟩⟩; refine ⟨_, rfl, ?_⟩) | (go_at_call 53; (with_reducible refine (impl_in.calls a0_2 0 2560 true _ A59.out).mono ?_); rintro e w' ⟨rfl, ⟨nd, rfl⟩⟩))
                            go_ret
                            exact ⟨by first | rfl | (simp [errW_none, errW_some] <;> rfl) | (simp [*, errW_none, errW_some] <;> rfl), by repeat (first | (with_reducible first | exact HB.out | apply below_alloc | apply pw_below_drewN | apply below_drew1 | refine below_set ?_ GE207.out) | exact HB.out)⟩
                        · rw [if_neg c62] at H
                          have c62b0 : (a0_4 == 0) = false := beq_eq_false_iff_ne.mpr c62
                          have c62b1 : (a0_4 != 0) = true := bne_iff_ne.mpr c62
                          obtain rfl := Option.some.inj H
                          have hcz66_0 : wc.cell? ⟨gb207, 0, none⟩ = some (.int .i64 a0_0) := (blk_cell BK207.out 0).trans rfl
                          have hcz66_1 : wc.cell? ⟨gb207, 1, none⟩ = some (.int .i64 a0_1) := (blk_cell BK207.out 1).trans rfl
                          have hcz66_2 : wc.cell? ⟨gb207, 2, none⟩ = some (.int .i64 a0_2) := (blk_cell BK207.out 2).trans rfl
                          have hcz66_3 : wc.cell? ⟨gb207, 3, none⟩ = some (.slice A0_3 l0_3.length c0_3) := (blk_cell BK207.out 3).trans rfl
                          have hcz66_4 : wc.cell? ⟨gb207, 4, none⟩ = some (.int .i64 a0_4) := (blk_cell BK207.out 4).trans rfl
                          have hfz66_0 := blk_frozen BK207.out 0
                          have hfz66_1 := blk_frozen BK207.out 1
                          have hfz66_2 := blk_frozen BK207.out 2
                          have hfz66_3 := blk_frozen BK207.out 3
                          have hfz66_4 := blk_frozen BK207.out 4
                          go_wp2_with (first | ((with_reducible refine gate_callee (f := 53) rfl ?_); refine goesL_ (some 108) rfl rfl Try.func53 (by kernel_rfl) rfl #[.int .i64 a0_1, .int .i64 x6_36, .int .i64 8] rfl (by (try simp only [List.map_toArray, List.map_cons, List.map_nil]); first | done | rfl | (simp only [List.length_drop, List.length_take]; rfl)) ?_; (with_reducible refine (impl_in.calls a0_1 x6_36 8 true _ A57.out).mono ?_); rintro e w' ⟨rfl, ⟨nd, rfl⟩⟩; refine ⟨_, rfl, ?_⟩) | (go_at_call 53; (with_reducible refine (impl_in.calls a0_2 0 2560 true _ A59.out).mono ?_); rintro e w' ⟨rfl, ⟨nd, rfl⟩⟩))
                          go_ret
                          exact ⟨by first | rfl | (simp [errW_none, errW_some] <;> rfl) | (simp [*, errW_none, errW_some] <;> rfl), by repeat (first | (with_reducible first | exact HB.out | apply below_alloc | apply pw_below_drewN | apply below_drew1 | refine below_set ?_ GE207.out) | exact HB.out)⟩
                      · rw [if_neg c61] at H
                        have c61b0 : decide (a0_2 ≤ 512) = false := decide_eq_false c61
                        clear c61
                        by_cases c67 : a0_0 = 1
                        · rw [if_pos c67] at H
                          have c67b0 : (a0_0 == 1) = true := beq_iff_eq.mpr c67
                          have c67b1 : (a0_0 != 1) = false := bne_eq_false_iff_eq.mpr c67
                          clear c67
                          obtain rfl := Option.some.inj H
                          have hcz68_0 : wc.cell? ⟨gb207, 0, none⟩ = some (.int .i64 a0_0) := (blk_cell BK207.out 0).trans rfl
                          have hcz68_1 : wc.cell? ⟨gb207, 1, none⟩ = some (.int .i64 a0_1) := (blk_cell BK207.out 1).trans rfl
                          have hcz68_2 : wc.cell? ⟨gb207, 2, none⟩ = some (.int .i64 a0_2) := (blk_cell BK207.out 2).trans rfl
                          have hcz68_3 : wc.cell? ⟨gb207, 3, none⟩ = some (.slice A0_3 l0_3.length c0_3) := (blk_cell BK207.out 3).trans rfl
                          have hcz68_4 : wc.cell? ⟨gb207, 4, none⟩ = some (.int .i64 a0_4) := (blk_cell BK207.out 4).trans rfl
                          have hfz68_0 := blk_frozen BK207.out 0
                          have hfz68_1 := blk_frozen BK207.out 1
                          have hfz68_2 := blk_frozen BK207.out 2
                          have hfz68_3 := blk_frozen BK207.out 3
                          have hfz68_4 := blk_frozen BK207.out 4
                          go_wp2_with (first | ((with_reducible refine gate_callee (f := 53) rfl ?_); refine goesL_ (some 108) rfl rfl Try.func53 (by kernel_rfl) rfl #[.int .i64 a0_1, .int .i64 x6_36, .int .i64 8] rfl (by (try simp only [List.map_toArray, List.map_cons, List.map_nil]); first | done | rfl | (simp only [List.length_drop, List.length_take]; rfl)) ?_; (with_reducible refine (impl_in.calls a0_1 x6_36 8 true _ A57.out).mono ?_); rintro e w' ⟨rfl, ⟨nd, rfl⟩⟩; refine ⟨_, rfl, ?_⟩) | (go_at_call 53; (with_reducible refine (impl_in.calls a0_2 0 2560 true _ A59.out).mono ?_); rintro e w' ⟨rfl, ⟨nd, rfl⟩⟩))
                          go_ret
                          exact ⟨by first | rfl | (simp [errW_none, errW_some] <;> rfl) | (simp [*, errW_none, errW_some] <;> rfl), by repeat (first | (with_reducible first | exact HB.out | apply below_alloc | apply pw_below_drewN | apply below_drew1 | refine below_set ?_ GE207.out) | exact HB.out)⟩
                        · rw [if_neg c67] at H
                          have c67b0 : (a0_0 == 1) = false := beq_eq_false_iff_ne.mpr c67
                          have c67b1 : (a0_0 != 1) = true := bne_iff_ne.mpr c67
                          obtain rfl := Option.some.inj H
                          have hcz69_0 : wc.cell? ⟨gb207, 0, none⟩ = some (.int .i64 a0_0) := (blk_cell BK207.out 0).trans rfl
                          have hcz69_1 : wc.cell? ⟨gb207, 1, none⟩ = some (.int .i64 a0_1) := (blk_cell BK207.out 1).trans rfl
                          have hcz69_2 : wc.cell? ⟨gb207, 2, none⟩ = some (.int .i64 a0_2) := (blk_cell BK207.out 2).trans rfl
                          have hcz69_3 : wc.cell? ⟨gb207, 3, none⟩ = some (.slice A0_3 l0_3.length c0_3) := (blk_cell BK207.out 3).trans rfl
                          have hcz69_4 : wc.cell? ⟨gb207, 4, none⟩ = some (.int .i64 a0_4) := (blk_cell BK207.out 4).trans rfl
                          have hfz69_0 := blk_frozen BK207.out 0
                          have hfz69_1 := blk_frozen BK207.out 1
                          have hfz69_2 := blk_frozen BK207.out 2
                          have hfz69_3 := blk_frozen BK207.out 3
                          have hfz69_4 := blk_frozen BK207.out 4
                          go_wp2_with (first | ((with_reducible refine gate_callee (f := 53) rfl ?_); refine goesL_ (some 108) rfl rfl Try.func53 (by kernel_rfl) rfl #[.int .i64 a0_1, .int .i64 x6_36, .int .i64 8] rfl (by (try simp only [List.map_toArray, List.map_cons, List.map_nil]); first | done | rfl | (simp only [List.length_drop, List.length_take]; rfl)) ?_; (with_reducible refine (impl_in.calls a0_1 x6_36 8 true _ A57.out).mono ?_); rintro e w' ⟨rfl, ⟨nd, rfl⟩⟩; refine ⟨_, rfl, ?_⟩) | (go_at_call 53; (with_reducible refine (impl_in.calls a0_2 0 2560 true _ A59.out).mono ?_); rintro e w' ⟨rfl, ⟨nd, rfl⟩⟩))
                          go_ret
                          exact ⟨by first | rfl | (simp [errW_none, errW_some] <;> rfl) | (simp [*, errW_none, errW_some] <;> rfl), by repeat (first | (with_reducible first | exact HB.out | apply below_alloc | apply pw_below_drewN | apply below_drew1 | refine below_set ?_ GE207.out) | exact HB.out)⟩
                    · replace c60 := Bool.eq_false_iff.mpr c60
                      subst c60
                      have H1 : (some false) = some r := by rw [if_neg (show ¬ (false = true) by decide)] at H; exact H
                      clear H
                      have H := H1
                      clear H1
                      obtain rfl := Option.some.inj H
                      have hcz70_0 : wc.cell? ⟨gb207, 0, none⟩ = some (.int .i64 a0_0) := (blk_cell BK207.out 0).trans rfl
                      have hcz70_1 : wc.cell? ⟨gb207, 1, none⟩ = some (.int .i64 a0_1) := (blk_cell BK207.out 1).trans rfl
                      have hcz70_2 : wc.cell? ⟨gb207, 2, none⟩ = some (.int .i64 a0_2) := (blk_cell BK207.out 2).trans rfl
                      have hcz70_3 : wc.cell? ⟨gb207, 3, none⟩ = some (.slice A0_3 l0_3.length c0_3) := (blk_cell BK207.out 3).trans rfl
                      have hcz70_4 : wc.cell? ⟨gb207, 4, none⟩ = some (.int .i64 a0_4) := (blk_cell BK207.out 4).trans rfl
                      have hfz70_0 := blk_frozen BK207.out 0
                      have hfz70_1 := blk_frozen BK207.out 1
                      have hfz70_2 := blk_frozen BK207.out 2
                      have hfz70_3 := blk_frozen BK207.out 3
                      have hfz70_4 := blk_frozen BK207.out 4
                      go_wp2_with (first | ((with_reducible refine gate_callee (f := 53) rfl ?_); refine goesL_ (some 108) rfl rfl Try.func53 (by kernel_rfl) rfl #[.int .i64 a0_1, .int .i64 x6_36, .int .i64 8] rfl (by (try simp only [List.map_toArray, List.map_cons, List.map_nil]); first | done | rfl | (simp only [List.length_drop, List.length_take]; rfl)) ?_; (with_reducible refine (impl_in.calls a0_1 x6_36 8 true _ A57.out).mono ?_); rintro e w' ⟨rfl, ⟨nd, rfl⟩⟩; refine ⟨_, rfl, ?_⟩) | (go_at_call 53; (with_reducible refine (impl_in.calls a0_2 0 2560 false _ A59.out).mono ?_); rintro e w' ⟨rfl, ⟨nd, rfl⟩⟩))
                      go_ret
                      exact ⟨by first | rfl | (simp [errW_none, errW_some] <;> rfl) | (simp [*, errW_none, errW_some] <;> rfl), by repeat (first | (with_reducible first | exact HB.out | apply below_alloc | apply pw_below_drewN | apply below_drew1 | refine below_set ?_ GE207.out) | exact HB.out)⟩
                  · replace c58 := Bool.eq_false_iff.mpr c58
                    subst c58
                    have H1 : (some false) = some r := by rw [if_neg (show ¬ (false = true) by decide)] at H; exact H
                    clear H
                    have H := H1
                    clear H1
                    obtain rfl := Option.some.inj H
                    have hcz71_0 : wc.cell? ⟨gb207, 0, none⟩ = some (.int .i64 a0_0) := (blk_cell BK207.out 0).trans rfl
                    have hcz71_1 : wc.cell? ⟨gb207, 1, none⟩ = some (.int .i64 a0_1) := (blk_cell BK207.out 1).trans rfl
                    have hcz71_2 : wc.cell? ⟨gb207, 2, none⟩ = some (.int .i64 a0_2) := (blk_cell BK207.out 2).trans rfl
                    have hcz71_3 : wc.cell? ⟨gb207, 3, none⟩ = some (.slice A0_3 l0_3.length c0_3) := (blk_cell BK207.out 3).trans rfl
                    have hcz71_4 : wc.cell? ⟨gb207, 4, none⟩ = some (.int .i64 a0_4) := (blk_cell BK207.out 4).trans rfl
                    have hfz71_0 := blk_frozen BK207.out 0
                    have hfz71_1 := blk_frozen BK207.out 1
                    have hfz71_2 := blk_frozen BK207.out 2
                    have hfz71_3 := blk_frozen BK207.out 3
                    have hfz71_4 := blk_frozen BK207.out 4
                    go_wp2_with (first | ((with_reducible refine gate_callee (f := 53) rfl ?_); refine goesL_ (some 108) rfl rfl Try.func53 (by kernel_rfl) rfl #[.int .i64 a0_1, .int .i64 x6_36, .int .i64 8] rfl (by (try simp only [List.map_toArray, List.map_cons, List.map_nil]); first | done | rfl | (simp only [List.length_drop, List.length_take]; rfl)) ?_; (with_reducible refine (impl_in.calls a0_1 x6_36 8 false _ A57.out).mono ?_); rintro e w' ⟨rfl, ⟨nd, rfl⟩⟩; refine ⟨_, rfl, ?_⟩))
                    go_ret
                    exact ⟨by first | rfl | (simp [errW_none, errW_some] <;> rfl) | (simp [*, errW_none, errW_some] <;> rfl), by repeat (first | (with_reducible first | exact HB.out | apply below_alloc | apply pw_below_drewN | apply below_drew1 | refine below_set ?_ GE207.out) | exact HB.out)⟩

end Go.Proofs.Ytplefdkookhlhaa.PFnExactDecodeInode
