-- written by a program of this session (wip/src/print2.py)
import Derived.Test.YtiiifeajcigigaaPFnExactDecodeDirx0
import Derived.Test.YtiiifeajcigigaaPFnExactDecodeDirx1
import Derived.Test.YtiiifeajcigigaaPFnExactDecodeDirx4
namespace Go.Proofs.Ytiiifeajcigigaa.PFnExactDecodeDir
open Go.RowKit Go.Proofs.YtiiifeajcigigaaW.PrintWords Go.Proofs.YtiiifeajcigigaaW.PrintLast Go.Proofs.YtiiifeajcigigaaW.PrintMore
attribute [local go_sem] max2_int min2_int max_two min_two max_three min_three max_four min_four   -- for this text's walks alone
set_option linter.unusedVariables false
set_option linter.unusedSimpArgs false

/-! ### spec_DirFind: function 59 -/
def spec_DirFind.l0 : Nat → List (S27) → ByteArray → Int → Int → Option (Int)
  | 0, _, _, _, _ => none
  | k + 1, x0, x1, x5, x6 => if x6 ≥ 0 then (if 0 ≤ x6 then (if x6 < (x0.length : Int) then (if ((rd_T27 x0 x6).f1).toList = x1.toList then (spec_DirFind.l0 k x0 x1 x6 (wrap64 (x6 - 1))) else (spec_DirFind.l0 k x0 x1 x5 (wrap64 (x6 - 1)))) else (none)) else (none)) else (some x5)
def spec_DirFind.f (k : Nat) (l0 : List (S27)) (a1 : ByteArray) : Option (Int) := spec_DirFind.l0 k l0 a1 (-1) (wrap64 ((l0.length : Int) - 1))
theorem spec_DirFind.mono_l : ∀ k, (∀ y0 y1 y2 y3, LeO (spec_DirFind.l0 k y0 y1 y2 y3) (spec_DirFind.l0 (k + 1) y0 y1 y2 y3))
  | 0 => fun _ _ _ _ r h => by simp [spec_DirFind.l0] at h
  | k + 1 => by
    have ih0 := spec_DirFind.mono_l k
    · intro y0 y1 y2 y3
      unfold spec_DirFind.l0
      repeat' first
      | (with_reducible exact ih0 _ _ _ _)
      | (with_reducible exact LeO.refl _)
      | (with_reducible exact LeO.none _)
      | (with_reducible refine LeO.ite ?_ ?_)
      | (with_reducible refine LeO.bind ?_ (fun _ => ?_))
      | exact ih0 _ _ _ _
      | exact LeO.none _
      | refine LeO.ite ?_ ?_
      | refine LeO.bind ?_ (fun _ => ?_)
theorem spec_DirFind.mono : ∀ a0 a1 k, LeO (spec_DirFind.f k a0 a1) (spec_DirFind.f (k + 1) a0 a1) := by
  intro a0 a1 k
  have ih0 := spec_DirFind.mono_l k
  unfold spec_DirFind.f
  repeat' first
      | (with_reducible exact ih0 _ _ _ _)
      | (with_reducible exact LeO.refl _)
      | (with_reducible exact LeO.none _)
      | (with_reducible refine LeO.ite ?_ ?_)
      | (with_reducible refine LeO.bind ?_ (fun _ => ?_))
      | exact ih0 _ _ _ _
      | exact LeO.none _
      | refine LeO.ite ?_ ?_
      | refine LeO.bind ?_ (fun _ => ?_)
set_option maxHeartbeats 8000000 in
set_option maxRecDepth 100000 in
theorem spec_DirFind.calls (k : Nat) (A0 : Option Addr) (c0 : Nat) (l0 : List (S27)) (a1 : ByteArray) (r : Int) (w : World) (hr0 : Kd.C k27 w A0 l0.length l0) (hc0 : l0.length ≤ c0) (h : spec_DirFind.f k l0 a1 = some r) :
    Calls Try.prog 59 #[.slice A0 l0.length c0, .string a1] w fun e w' => e = .returned (.int .i64 r) ∧ Drawn0 w w' := by
  have HR0 := Aside0.mk hr0
  have HC0 := Aside0.mk hc0
  clear hr0 hc0
  have H : (spec_DirFind.l0 k l0 a1 (-1) (wrap64 ((l0.length : Int) - 1))) = some r := h
  clear h
  have H' := Aside0.mk H
  clear H
  go_enter Try.func59, Try.ntmps59
  go_wp2
  go_loopg [5, 6] k (fun kq v5 v6 w' => ∃ (x5_1 : Int) (x6_1 : Int), v5 = .int .i64 x5_1 ∧ v6 = .int .i64 x6_1 ∧ Aside0 (spec_DirFind.l0 kq l0 a1 x5_1 x6_1 = some r) ∧ Aside0 (kq ≤ k) ∧ Drawn0 w w')
  case atStart => exact ⟨((-1)), (wrap64 ((l0.length : Int) - 1)), (by first | rfl | (simp; done) | (simp [*]; done)), (by first | rfl | (simp; done) | (simp [*]; done)), H', ⟨Nat.le_refl _⟩, by repeat (first | exact Drawn0.refl _ | apply Drawn0.step)⟩
  case round =>
    clear H'
    try clear p2
    obtain ⟨x5_1, x6_1, rfl, rfl, HA, HK1, ⟨m1, rfl⟩⟩ := hrel
    cases gk with
    | zero => exact absurd HA.out (by simp [spec_DirFind.l0])
    | succ k1 =>
      have H := HA.out
      clear HA
      simp only [spec_DirFind.l0] at H
      by_cases c3 : x6_1 ≥ 0
      · rw [if_pos c3] at H
        have c3b0 : decide (0 ≤ x6_1) = true := decide_eq_true c3
        clear c3
        by_cases c4 : 0 ≤ x6_1
        · rw [if_pos c4] at H
          have c4b0 : decide (0 ≤ x6_1) = true := decide_eq_true c4
          clear c4
          by_cases c5 : x6_1 < (l0.length : Int)
          · rw [if_pos c5] at H
            have c5b0 : decide (x6_1 < (l0.length : Int)) = true := decide_eq_true c5
            clear c5
            by_cases c6 : ((rd_T27 l0 x6_1).f1).toList = a1.toList
            · rw [if_pos c6] at H
              have c6b0 : (((rd_T27 l0 x6_1).f1).toList == a1.toList) = true := beq_iff_eq.mpr c6
              have c6b1 : (((rd_T27 l0 x6_1).f1).toList != a1.toList) = false := bne_eq_false_iff_eq.mpr c6
              clear c6
              have H' := Aside0.mk H
              clear H
              have p190 : 0 ≤ (x6_1 : Int) := of_decide_eq_true (by first | (with_reducible assumption) | assumption)
              have q190 : x6_1 < (l0.length : Int) := of_decide_eq_true (by first | (with_reducible assumption) | assumption)
              obtain ⟨ad190, e190, hx190_0, hx190_1⟩ := at_T27 HR0.out x6_1 p190 q190
              cases e190
              replace p190 := eq_true p190
              replace q190 := eq_true q190
              go_wp2
              go_roundg k1
              case measure => have := HK1.out; omega
              case rel => exact ⟨(x6_1), (wrap64 (x6_1 - 1)), (by first | rfl | (simp; done) | (simp [*]; done)), (by first | rfl | (simp; done) | (simp [*]; done)), H', ⟨by have := HK1.out; omega⟩, by repeat (first | exact Drawn0.refl _ | apply Drawn0.step)⟩
            · rw [if_neg c6] at H
              have c6b0 : (((rd_T27 l0 x6_1).f1).toList == a1.toList) = false := beq_eq_false_iff_ne.mpr c6
              have c6b1 : (((rd_T27 l0 x6_1).f1).toList != a1.toList) = true := bne_iff_ne.mpr c6
              have H' := Aside0.mk H
              clear H
              have p190 : 0 ≤ (x6_1 : Int) := of_decide_eq_true (by first | (with_reducible assumption) | assumption)
              have q190 : x6_1 < (l0.length : Int) := of_decide_eq_true (by first | (with_reducible assumption) | assumption)
              obtain ⟨ad190, e190, hx190_0, hx190_1⟩ := at_T27 HR0.out x6_1 p190 q190
              cases e190
              replace p190 := eq_true p190
              replace q190 := eq_true q190
              go_wp2
              go_roundg k1
              case measure => have := HK1.out; omega
              case rel => exact ⟨(x5_1), (wrap64 (x6_1 - 1)), (by first | rfl | (simp; done) | (simp [*]; done)), (by first | rfl | (simp; done) | (simp [*]; done)), H', ⟨by have := HK1.out; omega⟩, by repeat (first | exact Drawn0.refl _ | apply Drawn0.step)⟩
          · rw [if_neg c5] at H
            exact absurd H (by simp)
        · rw [if_neg c4] at H
          exact absurd H (by simp)
      · rw [if_neg c3] at H
        have c3b0 : decide (0 ≤ x6_1) = false := decide_eq_false c3
        clear c3
        obtain rfl := Option.some.inj H
        go_wp2
        go_ret
        exact ⟨by first | rfl | (simp; done) | (simp [*]; done), by repeat (first | exact Drawn0.refl _ | apply Drawn0.step)⟩

/-! ### spec_DecodeDir: function 27 -/
mutual
def spec_DecodeDir.j0 : Nat → List Int → Bool → Option (Bool × (List (S27)))
  | 0, _, _ => none
  | k + 1, x0, x14 => if x14 = true then (some (false, ([] : List (S27)))) else (spec_DecodeDir.l0 k x0 0 true ([] : List (S27)))
def spec_DecodeDir.l0 : Nat → List Int → Int → Bool → List (S27) → Option (Bool × (List (S27)))
  | 0, _, _, _, _ => none
  | k + 1, x0, x4, x193000, x193001 => if x4 < (x0.length : Int) then (if 0 ≤ x4 then (if x4 ≤ (wrap64 (x4 + 16)) then (if (wrap64 (x4 + 16)) ≤ (x0.length : Int) then ((spec_DecodeEntry.f k ((x0.take ((wrap64 (x4 + 16)) : Int).toNat).drop (x4 : Int).toNat)).bind fun bt194 => (if bt194.1 = true then ((spec_DirFind.f k x193001 bt194.2.2).bind fun t198 => (if t198 ≥ 0 then (some (false, ([] : List (S27)))) else (if x193001.length < 5864062014805 then (spec_DecodeDir.l0 k x0 (wrap64 (x4 + 16)) x193000 (x193001 ++ [(⟨bt194.2.1, bt194.2.2⟩ : S27)])) else (none)))) else (some (false, ([] : List (S27)))))) else (none)) else (none)) else (none)) else (some (x193000, x193001))
end
def spec_DecodeDir.f (k : Nat) (l0 : List Int) : Option (Bool × (List (S27))) := if ((l0.length : Int) % 16) = 0 then (spec_DecodeDir.j0 k l0 (decide ((l0.length : Int) > 2560))) else (spec_DecodeDir.j0 k l0 true)
theorem spec_DecodeDir.mono_l : ∀ k, (∀ y0 y1, LeO (spec_DecodeDir.j0 k y0 y1) (spec_DecodeDir.j0 (k + 1) y0 y1)) ∧ (∀ y0 y1 y2 y3, LeO (spec_DecodeDir.l0 k y0 y1 y2 y3) (spec_DecodeDir.l0 (k + 1) y0 y1 y2 y3))
  | 0 => ⟨fun _ _ r h => by simp [spec_DecodeDir.j0] at h, fun _ _ _ _ r h => by simp [spec_DecodeDir.l0] at h⟩
  | k + 1 => by
    obtain ⟨ih0, ih1⟩ := spec_DecodeDir.mono_l k
    refine ⟨?_, ?_⟩
    · intro y0 y1
      unfold spec_DecodeDir.j0
      repeat' first
      | (with_reducible exact ih0 _ _)
      | (with_reducible exact ih1 _ _ _ _)
      | (with_reducible exact spec_DecodeEntry.mono _ _)
      | (with_reducible exact spec_DirFind.mono _ _ _)
      | (with_reducible exact LeO.refl _)
      | (with_reducible exact LeO.none _)
      | (with_reducible refine LeO.ite ?_ ?_)
      | (with_reducible refine LeO.bind ?_ (fun _ => ?_))
      | exact ih0 _ _
      | exact ih1 _ _ _ _
      | exact spec_DecodeEntry.mono _ _
      | exact spec_DirFind.mono _ _ _
      | exact LeO.none _
      | refine LeO.ite ?_ ?_
      | refine LeO.bind ?_ (fun _ => ?_)
    · intro y0 y1 y2 y3
      unfold spec_DecodeDir.l0
      repeat' first
      | (with_reducible exact ih0 _ _)
      | (with_reducible exact ih1 _ _ _ _)
      | (with_reducible exact spec_DecodeEntry.mono _ _)
      | (with_reducible exact spec_DirFind.mono _ _ _)
      | (with_reducible exact LeO.refl _)
      | (with_reducible exact LeO.none _)
      | (with_reducible refine LeO.ite ?_ ?_)
      | (with_reducible refine LeO.bind ?_ (fun _ => ?_))
      | exact ih0 _ _
      | exact ih1 _ _ _ _
      | exact spec_DecodeEntry.mono _ _
      | exact spec_DirFind.mono _ _ _
      | exact LeO.none _
      | refine LeO.ite ?_ ?_
      | refine LeO.bind ?_ (fun _ => ?_)
theorem spec_DecodeDir.mono : ∀ a0 k, LeO (spec_DecodeDir.f k a0) (spec_DecodeDir.f (k + 1) a0) := by
  intro a0 k
  obtain ⟨ih0, ih1⟩ := spec_DecodeDir.mono_l k
  unfold spec_DecodeDir.f
  repeat' first
      | (with_reducible exact ih0 _ _)
      | (with_reducible exact ih1 _ _ _ _)
      | (with_reducible exact spec_DecodeEntry.mono _ _)
      | (with_reducible exact spec_DirFind.mono _ _ _)
      | (with_reducible exact LeO.refl _)
      | (with_reducible exact LeO.none _)
      | (with_reducible refine LeO.ite ?_ ?_)
      | (with_reducible refine LeO.bind ?_ (fun _ => ?_))
      | exact ih0 _ _
      | exact ih1 _ _ _ _
      | exact spec_DecodeEntry.mono _ _
      | exact spec_DirFind.mono _ _ _
      | exact LeO.none _
      | refine LeO.ite ?_ ?_
      | refine LeO.bind ?_ (fun _ => ?_)
set_option maxHeartbeats 8000000 in
set_option maxRecDepth 100000 in
theorem spec_DecodeDir.calls (k : Nat) (A0 : Option Addr) (c0 : Nat) (l0 : List Int) (r1 : Bool) (r2 : List (S27)) (w : World) (hr0 : Kd.C (Kd.int .u8) w A0 l0.length l0) (hc0 : l0.length ≤ c0) (h : spec_DecodeDir.f k l0 = some (r1, r2)) :
    Calls Try.prog 27 #[.slice A0 l0.length c0] w fun e w' => ∃ v1_ : Value, e = .returned (.agg #[.bool r1, v1_]) ∧ Kd.R k27 27 w' w.heap.size (fun _ => True) v1_ r2 ∧ Below w.heap.size w w' := by
  have hu47 := Try.underlying47
  have hu33 := Try.underlying33
  have hu27 := Try.underlying27
  have HR0 := Aside0.mk hr0
  have HC0 := Aside0.mk hc0
  clear hr0 hc0
  have HB := Aside0.mk (Below.refl w.heap.size w)
  have H : (if ((l0.length : Int) % 16) = 0 then (spec_DecodeDir.j0 k l0 (decide ((l0.length : Int) > 2560))) else (spec_DecodeDir.j0 k l0 true)) = some (r1, r2) := h
  clear h
  have HC2 := Aside0.mk H
  clear H
  go_enter Try.func27, Try.ntmps27
  go_upto_region 1 with (first | ((with_reducible refine gate_dst (N := 2) rfl ?_); (try (refine gate_guard (by rfl) ?_; dsimp only)); refine box_event ?hg (N := 2) ?hd (cs := #[.bool false, .slice none 0 0]) (t := 47) ?hr ?_; (case hd => rfl); (case hg => rfl); (case hr => first | (go_simp; done) | (go_simp; rfl)); intro gb191 hg w3 hbox hb; have n0_ := Aside0.mk (below_step (by repeat (first | (with_reducible first | exact HB.out | apply below_alloc | apply pw_below_drewN | apply below_drew1) | exact HB.out)) hb); have n1_ := Aside0.mk (hbox); have n2_ := Aside0.mk ((by rw [hg]; exact (below_size (by repeat (first | (with_reducible first | exact HB.out | apply below_alloc | apply pw_below_drewN | apply below_drew1) | exact HB.out))) : w.heap.size ≤ gb191)); have n3_ := Aside0.mk ((by rw [hg]; exact (below_size (by repeat (first | (with_reducible first | exact HB.out | apply below_alloc | apply pw_below_drewN | apply below_drew1) | exact HB.out))) : w.heap.size ≤ gb191)); clear HB; have HB := n0_; have BK191 := n1_; have GW191 := n2_; have GE191 := n3_; clear n0_ n1_ n2_ n3_; clear hb hbox hg))
  (try simp only [Act.put, List.setIfInBounds_toArray, List.set_cons_zero, List.set_cons_succ])
  go_cut [14] (fun v14 wc => ∃ (kq : Nat) (x14_1 : Bool), v14 = .bool x14_1 ∧ Aside0 (spec_DecodeDir.j0 kq l0 x14_1 = some (r1, r2)) ∧ Aside0 (kq ≤ k) ∧ Aside0 (wc.heap[gb191]? = some (.cells #[.bool false, (.slice none 0 0)] 47 (0, 0))) ∧ Aside0 (Below w.heap.size w wc))
  case first =>
    have H := HC2.out
    clear HC2
    by_cases c4 : ((l0.length : Int) % 16) = 0
    · rw [if_pos c4] at H
      have c4b0 : (((l0.length : Int) % 16) == 0) = true := beq_iff_eq.mpr c4
      have c4b1 : (((l0.length : Int) % 16) != 0) = false := bne_eq_false_iff_eq.mpr c4
      clear c4
      (first | rw [c4b0] | (simp only [i64_w, i32_w]; rw [c4b0]) | skip)
      have H' := Aside0.mk H
      clear H
      go_wp2
      go_meet
      case rel => exact ⟨_, (decide ((l0.length : Int) > 2560)), (by first | rfl | (simp; done) | (simp [*]; done)), H', ⟨by first | omega | exact Nat.le_refl _⟩, ⟨by (with_reducible repeat (first | refine blk_drewN ?_ _ | refine blk_drew ?_ | refine blk_alloc ?_ _)); exact BK191.out⟩, ⟨by repeat (first | (with_reducible first | exact HB.out | apply below_alloc | apply pw_below_drewN | apply below_drew1 | refine below_set ?_ GE191.out) | exact HB.out)⟩⟩
    · rw [if_neg c4] at H
      have c4b0 : (((l0.length : Int) % 16) == 0) = false := beq_eq_false_iff_ne.mpr c4
      have c4b1 : (((l0.length : Int) % 16) != 0) = true := bne_iff_ne.mpr c4
      (first | rw [c4b0] | (simp only [i64_w, i32_w]; rw [c4b0]) | skip)
      have H' := Aside0.mk H
      clear H
      go_wp2
      go_meet
      case rel => exact ⟨_, (true), (by first | rfl | (simp; done) | (simp [*]; done)), H', ⟨by first | omega | exact Nat.le_refl _⟩, ⟨by (with_reducible repeat (first | refine blk_drewN ?_ _ | refine blk_drew ?_ | refine blk_alloc ?_ _)); exact BK191.out⟩, ⟨by repeat (first | (with_reducible first | exact HB.out | apply below_alloc | apply pw_below_drewN | apply below_drew1 | refine below_set ?_ GE191.out) | exact HB.out)⟩⟩
  case rest =>
    clear HC2
    try clear c2
    try clear p2
    try clear c4
    try clear c4b0
    try clear c4b1
    obtain ⟨kq, x14_1, rfl, HA, HJ1, BK191, HB⟩ := hcut
    cases kq with
    | zero => exact absurd HA.out (by simp [spec_DecodeDir.j0])
    | succ kj1 =>
      have H := HA.out
      clear HA
      simp only [spec_DecodeDir.j0] at H
      by_cases c5 : x14_1 = true
      · subst c5
        have H1 : (some (false, ([] : List (S27)))) = some (r1, r2) := by rw [if_pos rfl] at H; exact H
        clear H
        have H := H1
        clear H1
        simp only [Option.some.injEq, Prod.mk.injEq] at H
        obtain ⟨rfl, rfl⟩ := H
        have hcz6_0 : wc.cell? ⟨gb191, 0, none⟩ = some (.bool false) := (blk_cell BK191.out 0).trans rfl
        have hcz6_1 : wc.cell? ⟨gb191, 1, none⟩ = some (.slice none 0 0) := (blk_cell BK191.out 1).trans rfl
        have hfz6_0 := blk_frozen BK191.out 0
        have hfz6_1 := blk_frozen BK191.out 1
        go_wp2
        refine bodyPost_ret (results_cell_row rfl _ _ gb191 47 #[.bool false, .slice none 0 0] (0, 0) _ rfl (by (with_reducible repeat (first | refine blk_drewN ?_ _ | refine blk_drew ?_ | refine blk_alloc ?_ _)); refine blk_put (cs := #[.bool false, .slice none 0 0]) ?_ 1 _ rfl; (with_reducible repeat (first | refine blk_drewN ?_ _ | refine blk_drew ?_ | refine blk_alloc ?_ _)); refine blk_put (cs := #[.bool false, .slice none 0 0]) ?_ 0 _ rfl; (with_reducible repeat (first | refine blk_drewN ?_ _ | refine blk_drew ?_ | refine blk_alloc ?_ _)); exact BK191.out) Try.underlying47 rfl (by kernel_rfl)) rfl ?_
        exact ⟨_, by first | rfl | (simp [errW_none, errW_some] <;> rfl) | (simp [*, errW_none, errW_some] <;> rfl), by first | exact Kd.R_nil _ _ _ _ _ | exact Kd.N_nil _ _ _ _ _ | exact Kd.V_nil _ _ _ _ _ | exact Kd.Q_nil _ _ _ _ _ | exact Kd.S_nil _ _ _ _ _, by repeat (first | (with_reducible first | exact HB.out | apply below_alloc | apply pw_below_drewN | apply below_drew1 | refine below_set ?_ GE191.out) | exact HB.out)⟩
      · replace c5 := Bool.eq_false_iff.mpr c5
        subst c5
        have H1 : (spec_DecodeDir.l0 kj1 l0 0 true ([] : List (S27))) = some (r1, r2) := by rw [if_neg (show ¬ (false = true) by decide)] at H; exact H
        clear H
        have H := H1
        clear H1
        have H' := Aside0.mk H
        clear H
        go_wp2_with (first | ((with_reducible refine gate_dst (N := 3) rfl ?_); (try (refine gate_guard (by rfl) ?_; dsimp only)); refine box_event ?hg (N := 3) ?hd (cs := #[.bool false, .slice none 0 0]) (t := 47) ?hr ?_; (case hd => rfl); (case hg => rfl); (case hr => first | (go_simp; done) | (go_simp; rfl)); intro gb192 hg w7 hbox hb; have n0_ := Aside0.mk (blk_below (g := gb191) (o := .cells #[.bool false, .slice none 0 0] 47 (0, 0)) (by (with_reducible repeat (first | refine blk_drewN ?_ _ | refine blk_drew ?_ | refine blk_alloc ?_ _)); exact BK191.out) hb); have n1_ := Aside0.mk (below_step (by repeat (first | (with_reducible first | exact HB.out | apply below_alloc | apply pw_below_drewN | apply below_drew1 | refine below_set ?_ GE191.out) | exact HB.out)) hb); have n2_ := Aside0.mk (hbox); have n3_ := Aside0.mk ((by rw [hg]; exact (below_size (by repeat (first | (with_reducible first | exact HB.out | apply below_alloc | apply pw_below_drewN | apply below_drew1 | refine below_set ?_ GE191.out) | exact HB.out))) : w.heap.size ≤ gb192)); have n4_ := Aside0.mk ((by rw [hg]; exact (below_size (by repeat (first | (with_reducible first | exact HB.out | apply below_alloc | apply pw_below_drewN | apply below_drew1 | refine below_set ?_ GE191.out) | exact HB.out))) : w.heap.size ≤ gb192)); have n5_ := Aside0.mk ((by rw [hg]; exact Nat.ne_of_lt (blk_lt (g := gb191) (o := .cells #[.bool false, .slice none 0 0] 47 (0, 0)) (by (with_reducible repeat (first | refine blk_drewN ?_ _ | refine blk_drew ?_ | refine blk_alloc ?_ _)); exact BK191.out)) : gb191 ≠ gb192)); have n6_ := Aside0.mk ((by rw [hg]; exact Nat.ne_of_gt (blk_lt (g := gb191) (o := .cells #[.bool false, .slice none 0 0] 47 (0, 0)) (by (with_reducible repeat (first | refine blk_drewN ?_ _ | refine blk_drew ?_ | refine blk_alloc ?_ _)); exact BK191.out)) : gb192 ≠ gb191)); clear BK191; clear HB; have BK191 := n0_; have HB := n1_; have BK192 := n2_; have GW192 := n3_; have GE192 := n4_; have NB191_192 := n5_; have NB192_191 := n6_; clear n0_ n1_ n2_ n3_ n4_ n5_ n6_; clear hb hbox hg; have hnb8 := NB192_191.out; have hnc8 := NB191_192.out; have hcz9_0 : w7.cell? ⟨gb192, 0, none⟩ = some (.bool false) := (blk_cell BK192.out 0).trans rfl; have hcz9_1 : w7.cell? ⟨gb192, 1, none⟩ = some (.slice none 0 0) := (blk_cell BK192.out 1).trans rfl; have hfz9_0 := blk_frozen BK192.out 0; have hfz9_1 := blk_frozen BK192.out 1))
        go_loopg [4] kj1 (fun kq v4 w' => ∃ (x4_2 : Int) (x192000_2 : Bool) (x193001_2 : List (S27)) (u193001 : Value), v4 = .int .i64 x4_2 ∧ Aside0 (spec_DecodeDir.l0 kq l0 x4_2 true x193001_2 = some (r1, r2)) ∧ Aside0 (kq ≤ kj1) ∧ Aside0 (Kd.R k27 27 w' w.heap.size (fun _ => True) u193001 x193001_2) ∧ Aside0 (w'.heap[gb191]? = some (.cells #[.bool x192000_2, (.slice none 0 0)] 47 (0, 0))) ∧ Aside0 (w'.heap[gb192]? = some (.cells #[.bool true, u193001] 47 (0, 0))) ∧ Aside0 (Below w.heap.size w w'))
        case atStart => exact ⟨(0), (false), (([] : List (S27))), (.slice none 0 0), (by first | rfl | (simp; done) | (simp [*]; done)), H', ⟨Nat.le_refl _⟩, ⟨by first | exact Kd.R_nil _ _ _ _ _ | exact Kd.N_nil _ _ _ _ _ | exact Kd.V_nil _ _ _ _ _ | exact Kd.Q_nil _ _ _ _ _ | exact Kd.S_nil _ _ _ _ _⟩, ⟨by (with_reducible repeat (first | refine blk_drewN ?_ _ | refine blk_drew ?_ | refine blk_alloc ?_ _)); refine blk_far ?_ NB191_192.out _; (with_reducible repeat (first | refine blk_drewN ?_ _ | refine blk_drew ?_ | refine blk_alloc ?_ _)); refine blk_far ?_ NB191_192.out _; (with_reducible repeat (first | refine blk_drewN ?_ _ | refine blk_drew ?_ | refine blk_alloc ?_ _)); exact BK191.out⟩, ⟨by (with_reducible repeat (first | refine blk_drewN ?_ _ | refine blk_drew ?_ | refine blk_alloc ?_ _)); refine blk_put (cs := #[.bool true, .slice none 0 0]) ?_ 1 _ rfl; (with_reducible repeat (first | refine blk_drewN ?_ _ | refine blk_drew ?_ | refine blk_alloc ?_ _)); refine blk_put (cs := #[.bool false, .slice none 0 0]) ?_ 0 _ rfl; (with_reducible repeat (first | refine blk_drewN ?_ _ | refine blk_drew ?_ | refine blk_alloc ?_ _)); exact BK192.out⟩, ⟨by repeat (first | (with_reducible first | exact HB.out | apply below_alloc | apply pw_below_drewN | apply below_drew1 | refine below_set ?_ GE191.out | refine below_set ?_ GE192.out) | exact HB.out)⟩⟩
        case round =>
          clear H'
          try clear c2
          try clear p2
          try clear c4
          try clear c4b0
          try clear c4b1
          try clear c5
          try clear c8
          try clear hcz6_0
          try clear hcz6_1
          try clear hcz9_0
          try clear hcz9_1
          try clear hfz6_0
          try clear hfz6_1
          try clear hfz9_0
          try clear hfz9_1
          try clear p2
          obtain ⟨x4_2, x192000_2, x193001_2, u193001, rfl, HA, HK2, HO_193001, BK191, BK192, HB⟩ := hrel
          cases gk with
          | zero => exact absurd HA.out (by simp [spec_DecodeDir.l0])
          | succ k2 =>
            have H := HA.out
            clear HA
            simp only [spec_DecodeDir.l0] at H
            by_cases c10 : x4_2 < (l0.length : Int)
            · rw [if_pos c10] at H
              have c10b0 : decide (x4_2 < (l0.length : Int)) = true := decide_eq_true c10
              clear c10
              by_cases c11 : 0 ≤ x4_2
              · rw [if_pos c11] at H
                have c11b0 := eq_true c11
                have c11b1 : decide (0 ≤ x4_2) = true := decide_eq_true c11
                clear c11
                by_cases c12 : x4_2 ≤ (wrap64 (x4_2 + 16))
                · rw [if_pos c12] at H
                  have c12b0 := eq_true c12
                  have c12b1 : decide (x4_2 ≤ (wrap64 (x4_2 + 16))) = true := decide_eq_true c12
                  by_cases c13 : (wrap64 (x4_2 + 16)) ≤ (l0.length : Int)
                  · rw [if_pos c13] at H
                    have c13b0 := eq_true c13
                    have c13b1 : decide ((wrap64 (x4_2 + 16)) ≤ (l0.length : Int)) = true := decide_eq_true c13
                    replace H := Option.bind_eq_some_iff.mp H
                    obtain ⟨⟨t194, t195, t196⟩, A140, H⟩ := H
                    replace H : (if t194 = true then ((spec_DirFind.f k2 x193001_2 t196).bind fun t198 => (if t198 ≥ 0 then (some (false, ([] : List (S27)))) else (if x193001_2.length < 5864062014805 then (spec_DecodeDir.l0 k2 l0 (wrap64 (x4_2 + 16)) true (x193001_2 ++ [(⟨t195, t196⟩ : S27)])) else (none)))) else (some (false, ([] : List (S27))))) = some (r1, r2) := H
                    have A14 := Aside0.mk A140
                    clear A140
                    by_cases c15 : t194 = true
                    · subst c15
                      have H1 : ((spec_DirFind.f k2 x193001_2 t196).bind fun t198 => (if t198 ≥ 0 then (some (false, ([] : List (S27)))) else (if x193001_2.length < 5864062014805 then (spec_DecodeDir.l0 k2 l0 (wrap64 (x4_2 + 16)) true (x193001_2 ++ [(⟨t195, t196⟩ : S27)])) else (none)))) = some (r1, r2) := by rw [if_pos rfl] at H; exact H
                      clear H
                      have H := H1
                      clear H1
                      replace H := Option.bind_eq_some_iff.mp H
                      obtain ⟨t198, A160, H⟩ := H
                      replace H : (if t198 ≥ 0 then (some (false, ([] : List (S27)))) else (if x193001_2.length < 5864062014805 then (spec_DecodeDir.l0 k2 l0 (wrap64 (x4_2 + 16)) true (x193001_2 ++ [(⟨t195, t196⟩ : S27)])) else (none))) = some (r1, r2) := H
                      have A16 := Aside0.mk A160
                      clear A160
                      by_cases c17 : t198 ≥ 0
                      · rw [if_pos c17] at H
                        have c17b0 : decide (0 ≤ t198) = true := decide_eq_true c17
                        clear c17
                        simp only [Option.some.injEq, Prod.mk.injEq] at H
                        obtain ⟨rfl, rfl⟩ := H
                        obtain ⟨i018, hi018, _, hsz18, _⟩ := info_parts info5
                        obtain ⟨A18, hcut18, hA18, hC18⟩ := print_mid_of (P := Try.prog) (Value.int .u8) 0 25 5 .i64 .i64 Try.underlying25 hi018 hsz18 A0 c0 l0 x4_2 (wrap64 (x4_2 + 16)) (of_decide_eq_true (by first | (with_reducible assumption) | assumption)) (by first | omega | exact of_decide_eq_true (by first | (with_reducible assumption) | assumption)) (of_decide_eq_true (by first | (with_reducible assumption) | assumption)) HC0.out
                        have HR193 := Aside0.mk (Kd.C_of_reads (h1 := fun _ => rfl) (hA18 _ (Kd.reads_of_C HR0.out)))
                        have HC193 := Aside0.mk hC18
                        clear hA18 hC18 hi018 hsz18
                        go_wp2_with (first | ((with_reducible refine gate_callee (f := 17) rfl ?_); refine goesL_ (some 28) rfl rfl Try.func17 (by kernel_rfl) rfl #[.slice A18 ((l0.take ((wrap64 (x4_2 + 16)) : Int).toNat).drop (x4_2 : Int).toNat).length (c0 - x4_2.toNat)] rfl (by (try simp only [List.map_toArray, List.map_cons, List.map_nil]); first | done | (rw [show ((l0.take ((wrap64 (x4_2 + 16)) : Int).toNat).drop (x4_2 : Int).toNat).length = ((wrap64 (x4_2 + 16)).toNat - x4_2.toNat) from (by rw [List.length_drop, List.length_take]; have h_ : ((wrap64 (x4_2 + 16)) : Int) ≤ (l0.length : Int) := of_decide_eq_true (by first | (with_reducible assumption) | assumption); omega)] <;> rfl) | rfl | (simp only [List.length_drop, List.length_take]; rfl)) ?_; (with_reducible refine (spec_DecodeEntry.calls k2 _ _ ((l0.take ((wrap64 (x4_2 + 16)) : Int).toNat).drop (x4_2 : Int).toNat) true t195 t196 _ ?side1 ?side2 A14.out).mono ?_); (case side1 => repeat (first | exact (Kd.C_below HR193.out HB.out) | (with_reducible refine Kd.C_alloc ?_ _) | (with_reducible refine Kd.C_drewN ?_ _) | (with_reducible refine Kd.C_drew ?_))); (case side2 => exact HC193.out); rintro e w19 ⟨rfl, hb⟩; refine ⟨_, rfl, ?_⟩; have n0_ := Aside0.mk (Kd.R_below (by (with_reducible repeat (first | apply Kd.R_alloc | apply Kd.R_drewN | apply Kd.R_drew)); exact HO_193001.out) hb); have n1_ := Aside0.mk (blk_below (g := gb191) (o := .cells #[.bool x192000_2, .slice none 0 0] 47 (0, 0)) (by (with_reducible repeat (first | refine blk_drewN ?_ _ | refine blk_drew ?_ | refine blk_alloc ?_ _)); exact BK191.out) hb); have n2_ := Aside0.mk (blk_below (g := gb192) (o := .cells #[.bool true, u193001] 47 (0, 0)) (by (with_reducible repeat (first | refine blk_drewN ?_ _ | refine blk_drew ?_ | refine blk_alloc ?_ _)); exact BK192.out) hb); have n3_ := Aside0.mk (below_step (by repeat (first | (with_reducible first | exact HB.out | apply below_alloc | apply pw_below_drewN | apply below_drew1 | refine below_set ?_ GE191.out | refine below_set ?_ GE192.out) | exact HB.out)) hb); clear HO_193001; clear BK191; clear BK192; clear HB; have HO_193001 := n0_; have BK191 := n1_; have BK192 := n2_; have HB := n3_; clear n0_ n1_ n2_ n3_; (try clear hb); (try clear hb2); (try clear hk); (try clear hi)) | ((with_reducible refine gate_dst (N := 5) rfl ?_); (try (refine gate_guard (by rfl) ?_; dsimp only)); refine box_event ?hg (N := 5) ?hd (cs := #[.bool false, .int .i64 0, .string (⟨#[]⟩ : ByteArray)]) (t := 33) ?hr ?_; (case hd => rfl); (case hg => rfl); (case hr => first | (go_simp; done) | (go_simp; rfl)); intro gb197 hg w20 hbox hb; have n0_ := Aside0.mk (Kd.R_below (by (with_reducible repeat (first | apply Kd.R_alloc | apply Kd.R_drewN | apply Kd.R_drew)); exact HO_193001.out) hb); have n1_ := Aside0.mk (blk_below (g := gb191) (o := .cells #[.bool x192000_2, .slice none 0 0] 47 (0, 0)) (by (with_reducible repeat (first | refine blk_drewN ?_ _ | refine blk_drew ?_ | refine blk_alloc ?_ _)); exact BK191.out) hb); have n2_ := Aside0.mk (blk_below (g := gb192) (o := .cells #[.bool true, u193001] 47 (0, 0)) (by (with_reducible repeat (first | refine blk_drewN ?_ _ | refine blk_drew ?_ | refine blk_alloc ?_ _)); exact BK192.out) hb); have n3_ := Aside0.mk (below_step (by repeat (first | (with_reducible first | exact HB.out | apply below_alloc | apply pw_below_drewN | apply below_drew1 | refine below_set ?_ GE191.out | refine below_set ?_ GE192.out) | exact HB.out)) hb); have n4_ := Aside0.mk (hbox); have n5_ := Aside0.mk ((by rw [hg]; exact (below_size (by repeat (first | (with_reducible first | exact HB.out | apply below_alloc | apply pw_below_drewN | apply below_drew1 | refine below_set ?_ GE191.out | refine below_set ?_ GE192.out) | exact HB.out))) : w.heap.size ≤ gb197)); have n6_ := Aside0.mk ((by rw [hg]; exact (below_size (by repeat (first | (with_reducible first | exact HB.out | apply below_alloc | apply pw_below_drewN | apply below_drew1 | refine below_set ?_ GE191.out | refine below_set ?_ GE192.out) | exact HB.out))) : w.heap.size ≤ gb197)); have n7_ := Aside0.mk ((by rw [hg]; exact Nat.ne_of_lt (blk_lt (g := gb191) (o := .cells #[.bool x192000_2, .slice none 0 0] 47 (0, 0)) (by (with_reducible repeat (first | refine blk_drewN ?_ _ | refine blk_drew ?_ | refine blk_alloc ?_ _)); exact BK191.out)) : gb191 ≠ gb197)); have n8_ := Aside0.mk ((by rw [hg]; exact Nat.ne_of_gt (blk_lt (g := gb191) (o := .cells #[.bool x192000_2, .slice none 0 0] 47 (0, 0)) (by (with_reducible repeat (first | refine blk_drewN ?_ _ | refine blk_drew ?_ | refine blk_alloc ?_ _)); exact BK191.out)) : gb197 ≠ gb191)); have n9_ := Aside0.mk ((by rw [hg]; exact Nat.ne_of_lt (blk_lt (g := gb192) (o := .cells #[.bool true, u193001] 47 (0, 0)) (by (with_reducible repeat (first | refine blk_drewN ?_ _ | refine blk_drew ?_ | refine blk_alloc ?_ _)); exact BK192.out)) : gb192 ≠ gb197)); have n10_ := Aside0.mk ((by rw [hg]; exact Nat.ne_of_gt (blk_lt (g := gb192) (o := .cells #[.bool true, u193001] 47 (0, 0)) (by (with_reducible repeat (first | refine blk_drewN ?_ _ | refine blk_drew ?_ | refine blk_alloc ?_ _)); exact BK192.out)) : gb197 ≠ gb192)); clear HO_193001; clear BK191; clear BK192; clear HB; have HO_193001 := n0_; have BK191 := n1_; have BK192 := n2_; have HB := n3_; have BK197 := n4_; have GW197 := n5_; have GE197 := n6_; have NB191_197 := n7_; have NB197_191 := n8_; have NB192_197 := n9_; have NB197_192 := n10_; clear n0_ n1_ n2_ n3_ n4_ n5_ n6_ n7_ n8_ n9_ n10_; clear hb hbox hg; have hnb21 := NB197_191.out; have hnc21 := NB191_197.out; have hnb22 := NB197_192.out; have hnc22 := NB192_197.out; have hcz23_0 : w20.cell? ⟨gb197, 0, none⟩ = some (.bool false) := (blk_cell BK197.out 0).trans rfl; have hcz23_1 : w20.cell? ⟨gb197, 1, none⟩ = some (.int .i64 0) := (blk_cell BK197.out 1).trans rfl; have hcz23_2 : w20.cell? ⟨gb197, 2, none⟩ = some (.string (⟨#[]⟩ : ByteArray)) := (blk_cell BK197.out 2).trans rfl; have hfz23_0 := blk_frozen BK197.out 0; have hfz23_1 := blk_frozen BK197.out 1; have hfz23_2 := blk_frozen BK197.out 2; have hnb24 := NB192_191.out; have hnc24 := NB191_192.out; have hcz25_0 : w20.cell? ⟨gb192, 0, none⟩ = some (.bool true) := (blk_cell BK192.out 0).trans rfl; have hcz25_1 : w20.cell? ⟨gb192, 1, none⟩ = some (u193001) := (blk_cell BK192.out 1).trans rfl; have hfz25_0 := blk_frozen BK192.out 0; have hfz25_1 := blk_frozen BK192.out 1; obtain ⟨Ao26, co26, eo26⟩ := Kd.R_slice HO_193001.out; subst eo26) | (go_at_call 59; (with_reducible refine (spec_DirFind.calls k2 _ _ x193001_2 t196 t198 _ ?side1 ?side2 A16.out).mono ?_); (case side1 => refine (Kd.R_reads' (e := 27) (base := w.heap.size) (ok := fun k_ => True) (n := x193001_2.length) (c := co26) ?_).2.2; exact (by (with_reducible repeat (first | apply Kd.R_alloc | apply Kd.R_drewN | apply Kd.R_drew)); exact (Kd.R_mono (Kd.R_far (p := ⟨gb197, 2, none⟩) (Kd.R_far (p := ⟨gb197, 1, none⟩) (Kd.R_far (p := ⟨gb197, 0, none⟩) (Kd.R_types HO_193001.out BK197.out (by decide)) (fun _ hk => hk.2) (.bool true)) (fun _ hk => hk.2) (.int .i64 t195)) (fun _ hk => hk.2) (.string t196)) (fun _ h_ => h_.1)))); (case side2 => exact (Kd.R_reads' HO_193001.out).2.1); rintro e w' ⟨rfl, ⟨nd, rfl⟩⟩; have hcz27_0 : w20.cell? ⟨gb191, 0, none⟩ = some (.bool x192000_2) := (blk_cell BK191.out 0).trans rfl; have hcz27_1 : w20.cell? ⟨gb191, 1, none⟩ = some (.slice none 0 0) := (blk_cell BK191.out 1).trans rfl; have hfz27_0 := blk_frozen BK191.out 0; have hfz27_1 := blk_frozen BK191.out 1))
                        refine bodyPost_ret (results_cell_row rfl _ _ gb191 47 #[.bool false, .slice none 0 0] (0, 0) _ rfl (by (with_reducible repeat (first | refine blk_drewN ?_ _ | refine blk_drew ?_ | refine blk_alloc ?_ _)); refine blk_put (cs := #[.bool false, .slice none 0 0]) ?_ 1 _ rfl; (with_reducible repeat (first | refine blk_drewN ?_ _ | refine blk_drew ?_ | refine blk_alloc ?_ _)); refine blk_put (cs := #[.bool x192000_2, .slice none 0 0]) ?_ 0 _ rfl; (with_reducible repeat (first | refine blk_drewN ?_ _ | refine blk_drew ?_ | refine blk_alloc ?_ _)); refine blk_far ?_ NB191_197.out _; (with_reducible repeat (first | refine blk_drewN ?_ _ | refine blk_drew ?_ | refine blk_alloc ?_ _)); refine blk_far ?_ NB191_197.out _; (with_reducible repeat (first | refine blk_drewN ?_ _ | refine blk_drew ?_ | refine blk_alloc ?_ _)); refine blk_far ?_ NB191_197.out _; (with_reducible repeat (first | refine blk_drewN ?_ _ | refine blk_drew ?_ | refine blk_alloc ?_ _)); exact BK191.out) Try.underlying47 rfl (by kernel_rfl)) rfl ?_
                        exact ⟨_, by first | rfl | (simp [errW_none, errW_some] <;> rfl) | (simp [*, errW_none, errW_some] <;> rfl), by first | exact Kd.R_nil _ _ _ _ _ | exact Kd.N_nil _ _ _ _ _ | exact Kd.V_nil _ _ _ _ _ | exact Kd.Q_nil _ _ _ _ _ | exact Kd.S_nil _ _ _ _ _, by repeat (first | (with_reducible first | exact HB.out | apply below_alloc | apply pw_below_drewN | apply below_drew1 | refine below_set ?_ GE191.out | refine below_set ?_ GE192.out | refine below_set ?_ GE197.out) | exact HB.out)⟩
                      · rw [if_neg c17] at H
                        have c17b0 : decide (0 ≤ t198) = false := decide_eq_false c17
                        clear c17
                        by_cases c28 : x193001_2.length < 5864062014805
                        · rw [if_pos c28] at H
                          have LMc28 := Aside0.mk c28
                          clear c28
                          obtain ⟨y199, hy199⟩ : ∃ y_ : List (S27), y_ = (x193001_2 ++ [(⟨t195, t196⟩ : S27)]) := ⟨_, rfl⟩
                          replace H : (spec_DecodeDir.l0 k2 l0 (wrap64 (x4_2 + 16)) true y199) = some (r1, r2) := by first | (rw [hy199]; with_reducible exact H) | (have H2_ := (Option.bind_some _ _).symm.trans H; rw [hy199]; with_reducible exact H2_) | (have H2_ := (Option.bind_some _ _).symm.trans H; with_reducible exact H2_) | with_reducible exact H | (rw [hy199]; exact H) | exact H
                          have Ny199 := Aside0.mk hy199
                          clear hy199
                          have H' := Aside0.mk H
                          clear H
                          obtain ⟨i029, hi029, _, hsz29, _⟩ := info_parts info5
                          obtain ⟨A29, hcut29, hA29, hC29⟩ := print_mid_of (P := Try.prog) (Value.int .u8) 0 25 5 .i64 .i64 Try.underlying25 hi029 hsz29 A0 c0 l0 x4_2 (wrap64 (x4_2 + 16)) (of_decide_eq_true (by first | (with_reducible assumption) | assumption)) (by first | omega | exact of_decide_eq_true (by first | (with_reducible assumption) | assumption)) (of_decide_eq_true (by first | (with_reducible assumption) | assumption)) HC0.out
                          have HR193 := Aside0.mk (Kd.C_of_reads (h1 := fun _ => rfl) (hA29 _ (Kd.reads_of_C HR0.out)))
                          have HC193 := Aside0.mk hC29
                          clear hA29 hC29 hi029 hsz29
                          go_wp2_with (first | ((with_reducible refine gate_callee (f := 17) rfl ?_); refine goesL_ (some 28) rfl rfl Try.func17 (by kernel_rfl) rfl #[.slice A29 ((l0.take ((wrap64 (x4_2 + 16)) : Int).toNat).drop (x4_2 : Int).toNat).length (c0 - x4_2.toNat)] rfl (by (try simp only [List.map_toArray, List.map_cons, List.map_nil]); first | done | (rw [show ((l0.take ((wrap64 (x4_2 + 16)) : Int).toNat).drop (x4_2 : Int).toNat).length = ((wrap64 (x4_2 + 16)).toNat - x4_2.toNat) from (by rw [List.length_drop, List.length_take]; have h_ : ((wrap64 (x4_2 + 16)) : Int) ≤ (l0.length : Int) := of_decide_eq_true (by first | (with_reducible assumption) | assumption); omega)] <;> rfl) | rfl | (simp only [List.length_drop, List.length_take]; rfl)) ?_; (with_reducible refine (spec_DecodeEntry.calls k2 _ _ ((l0.take ((wrap64 (x4_2 + 16)) : Int).toNat).drop (x4_2 : Int).toNat) true t195 t196 _ ?side1 ?side2 A14.out).mono ?_); (case side1 => repeat (first | exact (Kd.C_below HR193.out HB.out) | (with_reducible refine Kd.C_alloc ?_ _) | (with_reducible refine Kd.C_drewN ?_ _) | (with_reducible refine Kd.C_drew ?_))); (case side2 => exact HC193.out); rintro e w30 ⟨rfl, hb⟩; refine ⟨_, rfl, ?_⟩; have n0_ := Aside0.mk (Kd.R_below (by (with_reducible repeat (first | apply Kd.R_alloc | apply Kd.R_drewN | apply Kd.R_drew)); exact HO_193001.out) hb); have n1_ := Aside0.mk (blk_below (g := gb191) (o := .cells #[.bool x192000_2, .slice none 0 0] 47 (0, 0)) (by (with_reducible repeat (first | refine blk_drewN ?_ _ | refine blk_drew ?_ | refine blk_alloc ?_ _)); exact BK191.out) hb); have n2_ := Aside0.mk (blk_below (g := gb192) (o := .cells #[.bool true, u193001] 47 (0, 0)) (by (with_reducible repeat (first | refine blk_drewN ?_ _ | refine blk_drew ?_ | refine blk_alloc ?_ _)); exact BK192.out) hb); have n3_ := Aside0.mk (below_step (by repeat (first | (with_reducible first | exact HB.out | apply below_alloc | apply pw_below_drewN | apply below_drew1 | refine below_set ?_ GE191.out | refine below_set ?_ GE192.out) | exact HB.out)) hb); clear HO_193001; clear BK191; clear BK192; clear HB; have HO_193001 := n0_; have BK191 := n1_; have BK192 := n2_; have HB := n3_; clear n0_ n1_ n2_ n3_; (try clear hb); (try clear hb2); (try clear hk); (try clear hi)) | ((with_reducible refine gate_dst (N := 5) rfl ?_); (try (refine gate_guard (by rfl) ?_; dsimp only)); refine box_event ?hg (N := 5) ?hd (cs := #[.bool false, .int .i64 0, .string (⟨#[]⟩ : ByteArray)]) (t := 33) ?hr ?_; (case hd => rfl); (case hg => rfl); (case hr => first | (go_simp; done) | (go_simp; rfl)); intro gb197 hg w31 hbox hb; have n0_ := Aside0.mk (Kd.R_below (by (with_reducible repeat (first | apply Kd.R_alloc | apply Kd.R_drewN | apply Kd.R_drew)); exact HO_193001.out) hb); have n1_ := Aside0.mk (blk_below (g := gb191) (o := .cells #[.bool x192000_2, .slice none 0 0] 47 (0, 0)) (by (with_reducible repeat (first | refine blk_drewN ?_ _ | refine blk_drew ?_ | refine blk_alloc ?_ _)); exact BK191.out) hb); have n2_ := Aside0.mk (blk_below (g := gb192) (o := .cells #[.bool true, u193001] 47 (0, 0)) (by (with_reducible repeat (first | refine blk_drewN ?_ _ | refine blk_drew ?_ | refine blk_alloc ?_ _)); exact BK192.out) hb); have n3_ := Aside0.mk (below_step (by repeat (first | (with_reducible first | exact HB.out | apply below_alloc | apply pw_below_drewN | apply below_drew1 | refine below_set ?_ GE191.out | refine below_set ?_ GE192.out) | exact HB.out)) hb); have n4_ := Aside0.mk (hbox); have n5_ := Aside0.mk ((by rw [hg]; exact (below_size (by repeat (first | (with_reducible first | exact HB.out | apply below_alloc | apply pw_below_drewN | apply below_drew1 | refine below_set ?_ GE191.out | refine below_set ?_ GE192.out) | exact HB.out))) : w.heap.size ≤ gb197)); have n6_ := Aside0.mk ((by rw [hg]; exact (below_size (by repeat (first | (with_reducible first | exact HB.out | apply below_alloc | apply pw_below_drewN | apply below_drew1 | refine below_set ?_ GE191.out | refine below_set ?_ GE192.out) | exact HB.out))) : w.heap.size ≤ gb197)); have n7_ := Aside0.mk ((by rw [hg]; exact Nat.ne_of_lt (blk_lt (g := gb191) (o := .cells #[.bool x192000_2, .slice none 0 0] 47 (0, 0)) (by (with_reducible repeat (first | refine blk_drewN ?_ _ | refine blk_drew ?_ | refine blk_alloc ?_ _)); exact BK191.out)) : gb191 ≠ gb197)); have n8_ := Aside0.mk ((by rw [hg]; exact Nat.ne_of_gt (blk_lt (g := gb191) (o := .cells #[.bool x192000_2, .slice none 0 0] 47 (0, 0)) (by (with_reducible repeat (first | refine blk_drewN ?_ _ | refine blk_drew ?_ | refine blk_alloc ?_ _)); exact BK191.out)) : gb197 ≠ gb191)); have n9_ := Aside0.mk ((by rw [hg]; exact Nat.ne_of_lt (blk_lt (g := gb192) (o := .cells #[.bool true, u193001] 47 (0, 0)) (by (with_reducible repeat (first | refine blk_drewN ?_ _ | refine blk_drew ?_ | refine blk_alloc ?_ _)); exact BK192.out)) : gb192 ≠ gb197)); have n10_ := Aside0.mk ((by rw [hg]; exact Nat.ne_of_gt (blk_lt (g := gb192) (o := .cells #[.bool true, u193001] 47 (0, 0)) (by (with_reducible repeat (first | refine blk_drewN ?_ _ | refine blk_drew ?_ | refine blk_alloc ?_ _)); exact BK192.out)) : gb197 ≠ gb192)); clear HO_193001; clear BK191; clear BK192; clear HB; have HO_193001 := n0_; have BK191 := n1_; have BK192 := n2_; have HB := n3_; have BK197 := n4_; have GW197 := n5_; have GE197 := n6_; have NB191_197 := n7_; have NB197_191 := n8_; have NB192_197 := n9_; have NB197_192 := n10_; clear n0_ n1_ n2_ n3_ n4_ n5_ n6_ n7_ n8_ n9_ n10_; clear hb hbox hg; have hnb32 := NB197_191.out; have hnc32 := NB191_197.out; have hnb33 := NB197_192.out; have hnc33 := NB192_197.out; have hcz34_0 : w31.cell? ⟨gb197, 0, none⟩ = some (.bool false) := (blk_cell BK197.out 0).trans rfl; have hcz34_1 : w31.cell? ⟨gb197, 1, none⟩ = some (.int .i64 0) := (blk_cell BK197.out 1).trans rfl; have hcz34_2 : w31.cell? ⟨gb197, 2, none⟩ = some (.string (⟨#[]⟩ : ByteArray)) := (blk_cell BK197.out 2).trans rfl; have hfz34_0 := blk_frozen BK197.out 0; have hfz34_1 := blk_frozen BK197.out 1; have hfz34_2 := blk_frozen BK197.out 2; have hnb35 := NB192_191.out; have hnc35 := NB191_192.out; have hcz36_0 : w31.cell? ⟨gb192, 0, none⟩ = some (.bool true) := (blk_cell BK192.out 0).trans rfl; have hcz36_1 : w31.cell? ⟨gb192, 1, none⟩ = some (u193001) := (blk_cell BK192.out 1).trans rfl; have hfz36_0 := blk_frozen BK192.out 0; have hfz36_1 := blk_frozen BK192.out 1; obtain ⟨Ao37, co37, eo37⟩ := Kd.R_slice HO_193001.out; subst eo37) | (go_at_call 59; (with_reducible refine (spec_DirFind.calls k2 _ _ x193001_2 t196 t198 _ ?side1 ?side2 A16.out).mono ?_); (case side1 => refine (Kd.R_reads' (e := 27) (base := w.heap.size) (ok := fun k_ => True) (n := x193001_2.length) (c := co37) ?_).2.2; exact (by (with_reducible repeat (first | apply Kd.R_alloc | apply Kd.R_drewN | apply Kd.R_drew)); exact (Kd.R_mono (Kd.R_far (p := ⟨gb197, 2, none⟩) (Kd.R_far (p := ⟨gb197, 1, none⟩) (Kd.R_far (p := ⟨gb197, 0, none⟩) (Kd.R_types HO_193001.out BK197.out (by decide)) (fun _ hk => hk.2) (.bool true)) (fun _ hk => hk.2) (.int .i64 t195)) (fun _ hk => hk.2) (.string t196)) (fun _ h_ => h_.1)))); (case side2 => exact (Kd.R_reads' HO_193001.out).2.1); rintro e w' ⟨rfl, ⟨nd, rfl⟩⟩) | ((with_reducible refine gate_builtin (b := .append) (xs := #[.tmp 43, .tmp 46]) rfl ?_); (try (refine gate_guard (by rfl) ?_; dsimp only)); at_builtin; refine Kd.R_append k27 (w0 := w) w.heap.size rfl (.tmp 43) (.tmp 46) 41 27 (.agg #[(.int .i64 0), (.string ⟨#[]⟩)]) 24 rfl Try.underlying41 info27 rfl (by decide) (by omega) (.slice Ao37 x193001_2.length co37) x193001_2 (⟨t195, t196⟩ : S27) [.int .i64 t195, .string t196] (fun _ => True) (fun _ => False) rfl (by first | (go_simp; done) | (go_simp; rfl)) ?aP (fun _ hk => hk.elim) ?aF ?aO ?aB ?aS ?aL ?_; (case aP => exact k27_mkM _ _ _ (⟨t195, t196⟩ : S27)); (case aB => exact (by repeat (first | (with_reducible first | exact HB.out | apply below_alloc | apply pw_below_drewN | apply below_drew1 | refine below_set ?_ GE191.out | refine below_set ?_ GE192.out | refine below_set ?_ GE197.out) | exact HB.out))); (case aF => exact (fun _ _ => trivial)); (case aO => exact (by (with_reducible repeat (first | apply Kd.R_alloc | apply Kd.R_drewN | apply Kd.R_drew)); exact Kd.R_mono (Kd.R_far (p := ⟨gb197, 2, none⟩) (Kd.R_far (p := ⟨gb197, 1, none⟩) (Kd.R_far (p := ⟨gb197, 0, none⟩) (Kd.R_types HO_193001.out BK197.out (by decide)) (fun _ hk => hk.2) (.bool true)) (fun _ hk => hk.2) (.int .i64 t195)) (fun _ hk => hk.2) (.string t196)) (fun _ hk => trivial))); (case aS => exact (below_size (by repeat (first | (with_reducible first | exact HB.out | apply below_alloc | apply pw_below_drewN | apply below_drew1 | refine below_set ?_ GE191.out | refine below_set ?_ GE192.out | refine below_set ?_ GE197.out) | exact HB.out)))); (case aL => have := LMc28.out; omega); intro v200 w38 ho hb hg hat; rw [← Ny199.out] at ho; have n0_ := Aside0.mk (blk_grown (g := gb191) (o := .cells #[.bool x192000_2, .slice none 0 0] 47 (0, 0)) (by (with_reducible repeat (first | refine blk_drewN ?_ _ | refine blk_drew ?_ | refine blk_alloc ?_ _)); refine blk_far ?_ NB191_197.out _; (with_reducible repeat (first | refine blk_drewN ?_ _ | refine blk_drew ?_ | refine blk_alloc ?_ _)); refine blk_far ?_ NB191_197.out _; (with_reducible repeat (first | refine blk_drewN ?_ _ | refine blk_drew ?_ | refine blk_alloc ?_ _)); refine blk_far ?_ NB191_197.out _; (with_reducible repeat (first | refine blk_drewN ?_ _ | refine blk_drew ?_ | refine blk_alloc ?_ _)); exact BK191.out) hg (Kd.R_ne HO_193001.out BK191.out (by decide))); have n1_ := Aside0.mk (blk_grown (g := gb192) (o := .cells #[.bool true, .slice Ao37 x193001_2.length co37] 47 (0, 0)) (by (with_reducible repeat (first | refine blk_drewN ?_ _ | refine blk_drew ?_ | refine blk_alloc ?_ _)); refine blk_far ?_ NB192_197.out _; (with_reducible repeat (first | refine blk_drewN ?_ _ | refine blk_drew ?_ | refine blk_alloc ?_ _)); refine blk_far ?_ NB192_197.out _; (with_reducible repeat (first | refine blk_drewN ?_ _ | refine blk_drew ?_ | refine blk_alloc ?_ _)); refine blk_far ?_ NB192_197.out _; (with_reducible repeat (first | refine blk_drewN ?_ _ | refine blk_drew ?_ | refine blk_alloc ?_ _)); exact BK192.out) hg (Kd.R_ne HO_193001.out BK192.out (by decide))); have n2_ := Aside0.mk (blk_grown (g := gb197) (o := .cells #[.bool true, .int .i64 t195, .string t196] 33 (0, 0)) (by (with_reducible repeat (first | refine blk_drewN ?_ _ | refine blk_drew ?_ | refine blk_alloc ?_ _)); refine blk_put (cs := #[.bool true, .int .i64 t195, .string (⟨#[]⟩ : ByteArray)]) ?_ 2 _ rfl; (with_reducible repeat (first | refine blk_drewN ?_ _ | refine blk_drew ?_ | refine blk_alloc ?_ _)); refine blk_put (cs := #[.bool true, .int .i64 0, .string (⟨#[]⟩ : ByteArray)]) ?_ 1 _ rfl; (with_reducible repeat (first | refine blk_drewN ?_ _ | refine blk_drew ?_ | refine blk_alloc ?_ _)); refine blk_put (cs := #[.bool false, .int .i64 0, .string (⟨#[]⟩ : ByteArray)]) ?_ 0 _ rfl; (with_reducible repeat (first | refine blk_drewN ?_ _ | refine blk_drew ?_ | refine blk_alloc ?_ _)); exact BK197.out) hg (Kd.R_ne HO_193001.out BK197.out (by decide))); have n3_ := Aside0.mk (hb); have n4_ := Aside0.mk (ho); clear BK191; clear BK192; clear BK197; clear HB; clear HO_193001; have BK191 := n0_; have BK192 := n1_; have BK197 := n2_; have HB := n3_; have HO201 := n4_; clear n0_ n1_ n2_ n3_ n4_; clear ho hb hg hat; obtain ⟨Ao39, co39, eo39⟩ := Kd.R_slice HO201.out; subst eo39; have hcz40_0 : w38.cell? ⟨gb192, 0, none⟩ = some (.bool true) := (blk_cell BK192.out 0).trans rfl; have hcz40_1 : w38.cell? ⟨gb192, 1, none⟩ = some (.slice Ao37 x193001_2.length co37) := (blk_cell BK192.out 1).trans rfl; have hfz40_0 := blk_frozen BK192.out 0; have hfz40_1 := blk_frozen BK192.out 1))
                          go_roundg k2
                          case measure => have := HJ1.out; have := HK2.out; omega
                          case rel => exact ⟨(wrap64 (x4_2 + 16)), (x192000_2), (y199), (.slice Ao39 y199.length co39), (by first | rfl | (simp; done) | (simp [*]; done)), H', ⟨by have := HJ1.out; have := HK2.out; omega⟩, ⟨by (with_reducible repeat (first | apply Kd.R_alloc | apply Kd.R_drewN | apply Kd.R_drew)); exact Kd.R_mono (Kd.R_far (p := ⟨gb192, 1, none⟩) (Kd.R_types HO201.out BK192.out (by decide)) (fun _ hk => hk.2) (.slice Ao39 y199.length co39)) (fun _ hk => trivial)⟩, ⟨by (with_reducible repeat (first | refine blk_drewN ?_ _ | refine blk_drew ?_ | refine blk_alloc ?_ _)); refine blk_far ?_ NB191_192.out _; (with_reducible repeat (first | refine blk_drewN ?_ _ | refine blk_drew ?_ | refine blk_alloc ?_ _)); exact BK191.out⟩, ⟨by (with_reducible repeat (first | refine blk_drewN ?_ _ | refine blk_drew ?_ | refine blk_alloc ?_ _)); refine blk_put (cs := #[.bool true, .slice Ao37 x193001_2.length co37]) ?_ 1 _ rfl; (with_reducible repeat (first | refine blk_drewN ?_ _ | refine blk_drew ?_ | refine blk_alloc ?_ _)); exact BK192.out⟩, ⟨by repeat (first | (with_reducible first | exact HB.out | apply below_alloc | apply pw_below_drewN | apply below_drew1 | refine below_set ?_ GE191.out | refine below_set ?_ GE192.out | refine below_set ?_ GE197.out) | exact HB.out)⟩⟩
                        · rw [if_neg c28] at H
                          exact absurd H (by simp)
                    · replace c15 := Bool.eq_false_iff.mpr c15
                      subst c15
                      have H1 : (some (false, ([] : List (S27)))) = some (r1, r2) := by rw [if_neg (show ¬ (false = true) by decide)] at H; exact H
                      clear H
                      have H := H1
                      clear H1
                      simp only [Option.some.injEq, Prod.mk.injEq] at H
                      obtain ⟨rfl, rfl⟩ := H
                      obtain ⟨i041, hi041, _, hsz41, _⟩ := info_parts info5
                      obtain ⟨A41, hcut41, hA41, hC41⟩ := print_mid_of (P := Try.prog) (Value.int .u8) 0 25 5 .i64 .i64 Try.underlying25 hi041 hsz41 A0 c0 l0 x4_2 (wrap64 (x4_2 + 16)) (of_decide_eq_true (by first | (with_reducible assumption) | assumption)) (by first | omega | exact of_decide_eq_true (by first | (with_reducible assumption) | assumption)) (of_decide_eq_true (by first | (with_reducible assumption) | assumption)) HC0.out
                      have HR193 := Aside0.mk (Kd.C_of_reads (h1 := fun _ => rfl) (hA41 _ (Kd.reads_of_C HR0.out)))
                      have HC193 := Aside0.mk hC41
                      clear hA41 hC41 hi041 hsz41
                      go_wp2_with (first | ((with_reducible refine gate_callee (f := 17) rfl ?_); refine goesL_ (some 28) rfl rfl Try.func17 (by kernel_rfl) rfl #[.slice A41 ((l0.take ((wrap64 (x4_2 + 16)) : Int).toNat).drop (x4_2 : Int).toNat).length (c0 - x4_2.toNat)] rfl (by (try simp only [List.map_toArray, List.map_cons, List.map_nil]); first | done | (rw [show ((l0.take ((wrap64 (x4_2 + 16)) : Int).toNat).drop (x4_2 : Int).toNat).length = ((wrap64 (x4_2 + 16)).toNat - x4_2.toNat) from (by rw [List.length_drop, List.length_take]; have h_ : ((wrap64 (x4_2 + 16)) : Int) ≤ (l0.length : Int) := of_decide_eq_true (by first | (with_reducible assumption) | assumption); omega)] <;> rfl) | rfl | (simp only [List.length_drop, List.length_take]; rfl)) ?_; (with_reducible refine (spec_DecodeEntry.calls k2 _ _ ((l0.take ((wrap64 (x4_2 + 16)) : Int).toNat).drop (x4_2 : Int).toNat) false t195 t196 _ ?side1 ?side2 A14.out).mono ?_); (case side1 => repeat (first | exact (Kd.C_below HR193.out HB.out) | (with_reducible refine Kd.C_alloc ?_ _) | (with_reducible refine Kd.C_drewN ?_ _) | (with_reducible refine Kd.C_drew ?_))); (case side2 => exact HC193.out); rintro e w42 ⟨rfl, hb⟩; refine ⟨_, rfl, ?_⟩; have n0_ := Aside0.mk (Kd.R_below (by (with_reducible repeat (first | apply Kd.R_alloc | apply Kd.R_drewN | apply Kd.R_drew)); exact HO_193001.out) hb); have n1_ := Aside0.mk (blk_below (g := gb191) (o := .cells #[.bool x192000_2, .slice none 0 0] 47 (0, 0)) (by (with_reducible repeat (first | refine blk_drewN ?_ _ | refine blk_drew ?_ | refine blk_alloc ?_ _)); exact BK191.out) hb); have n2_ := Aside0.mk (blk_below (g := gb192) (o := .cells #[.bool true, u193001] 47 (0, 0)) (by (with_reducible repeat (first | refine blk_drewN ?_ _ | refine blk_drew ?_ | refine blk_alloc ?_ _)); exact BK192.out) hb); have n3_ := Aside0.mk (below_step (by repeat (first | (with_reducible first | exact HB.out | apply below_alloc | apply pw_below_drewN | apply below_drew1 | refine below_set ?_ GE191.out | refine below_set ?_ GE192.out) | exact HB.out)) hb); clear HO_193001; clear BK191; clear BK192; clear HB; have HO_193001 := n0_; have BK191 := n1_; have BK192 := n2_; have HB := n3_; clear n0_ n1_ n2_ n3_; (try clear hb); (try clear hb2); (try clear hk); (try clear hi)) | ((with_reducible refine gate_dst (N := 5) rfl ?_); (try (refine gate_guard (by rfl) ?_; dsimp only)); refine box_event ?hg (N := 5) ?hd (cs := #[.bool false, .int .i64 0, .string (⟨#[]⟩ : ByteArray)]) (t := 33) ?hr ?_; (case hd => rfl); (case hg => rfl); (case hr => first | (go_simp; done) | (go_simp; rfl)); intro gb197 hg w43 hbox hb; have n0_ := Aside0.mk (Kd.R_below (by (with_reducible repeat (first | apply Kd.R_alloc | apply Kd.R_drewN | apply Kd.R_drew)); exact HO_193001.out) hb); have n1_ := Aside0.mk (blk_below (g := gb191) (o := .cells #[.bool x192000_2, .slice none 0 0] 47 (0, 0)) (by (with_reducible repeat (first | refine blk_drewN ?_ _ | refine blk_drew ?_ | refine blk_alloc ?_ _)); exact BK191.out) hb); have n2_ := Aside0.mk (blk_below (g := gb192) (o := .cells #[.bool true, u193001] 47 (0, 0)) (by (with_reducible repeat (first | refine blk_drewN ?_ _ | refine blk_drew ?_ | refine blk_alloc ?_ _)); exact BK192.out) hb); have n3_ := Aside0.mk (below_step (by repeat (first | (with_reducible first | exact HB.out | apply below_alloc | apply pw_below_drewN | apply below_drew1 | refine below_set ?_ GE191.out | refine below_set ?_ GE192.out) | exact HB.out)) hb); have n4_ := Aside0.mk (hbox); have n5_ := Aside0.mk ((by rw [hg]; exact (below_size (by repeat (first | (with_reducible first | exact HB.out | apply below_alloc | apply pw_below_drewN | apply below_drew1 | refine below_set ?_ GE191.out | refine below_set ?_ GE192.out) | exact HB.out))) : w.heap.size ≤ gb197)); have n6_ := Aside0.mk ((by rw [hg]; exact (below_size (by repeat (first | (with_reducible first | exact HB.out | apply below_alloc | apply pw_below_drewN | apply below_drew1 | refine below_set ?_ GE191.out | refine below_set ?_ GE192.out) | exact HB.out))) : w.heap.size ≤ gb197)); have n7_ := Aside0.mk ((by rw [hg]; exact Nat.ne_of_lt (blk_lt (g := gb191) (o := .cells #[.bool x192000_2, .slice none 0 0] 47 (0, 0)) (by (with_reducible repeat (first | refine blk_drewN ?_ _ | refine blk_drew ?_ | refine blk_alloc ?_ _)); exact BK191.out)) : gb191 ≠ gb197)); have n8_ := Aside0.mk ((by rw [hg]; exact Nat.ne_of_gt (blk_lt (g := gb191) (o := .cells #[.bool x192000_2, .slice none 0 0] 47 (0, 0)) (by (with_reducible repeat (first | refine blk_drewN ?_ _ | refine blk_drew ?_ | refine blk_alloc ?_ _)); exact BK191.out)) : gb197 ≠ gb191)); have n9_ := Aside0.mk ((by rw [hg]; exact Nat.ne_of_lt (blk_lt (g := gb192) (o := .cells #[.bool true, u193001] 47 (0, 0)) (by (with_reducible repeat (first | refine blk_drewN ?_ _ | refine blk_drew ?_ | refine blk_alloc ?_ _)); exact BK192.out)) : gb192 ≠ gb197)); have n10_ := Aside0.mk ((by rw [hg]; exact Nat.ne_of_gt (blk_lt (g := gb192) (o := .cells #[.bool true, u193001] 47 (0, 0)) (by (with_reducible repeat (first | refine blk_drewN ?_ _ | refine blk_drew ?_ | refine blk_alloc ?_ _)); exact BK192.out)) : gb197 ≠ gb192)); clear HO_193001; clear BK191; clear BK192; clear HB; have HO_193001 := n0_; have BK191 := n1_; have BK192 := n2_; have HB := n3_; have BK197 := n4_; have GW197 := n5_; have GE197 := n6_; have NB191_197 := n7_; have NB197_191 := n8_; have NB192_197 := n9_; have NB197_192 := n10_; clear n0_ n1_ n2_ n3_ n4_ n5_ n6_ n7_ n8_ n9_ n10_; clear hb hbox hg; have hnb44 := NB197_191.out; have hnc44 := NB191_197.out; have hnb45 := NB197_192.out; have hnc45 := NB192_197.out; have hcz46_0 : w43.cell? ⟨gb197, 0, none⟩ = some (.bool false) := (blk_cell BK197.out 0).trans rfl; have hcz46_1 : w43.cell? ⟨gb197, 1, none⟩ = some (.int .i64 0) := (blk_cell BK197.out 1).trans rfl; have hcz46_2 : w43.cell? ⟨gb197, 2, none⟩ = some (.string (⟨#[]⟩ : ByteArray)) := (blk_cell BK197.out 2).trans rfl; have hfz46_0 := blk_frozen BK197.out 0; have hfz46_1 := blk_frozen BK197.out 1; have hfz46_2 := blk_frozen BK197.out 2; have hnb47 := NB191_192.out; have hnc47 := NB192_191.out; have hcz48_0 : w43.cell? ⟨gb191, 0, none⟩ = some (.bool x192000_2) := (blk_cell BK191.out 0).trans rfl; have hcz48_1 : w43.cell? ⟨gb191, 1, none⟩ = some (.slice none 0 0) := (blk_cell BK191.out 1).trans rfl; have hfz48_0 := blk_frozen BK191.out 0; have hfz48_1 := blk_frozen BK191.out 1))
                      refine bodyPost_ret (results_cell_row rfl _ _ gb191 47 #[.bool false, .slice none 0 0] (0, 0) _ rfl (by (with_reducible repeat (first | refine blk_drewN ?_ _ | refine blk_drew ?_ | refine blk_alloc ?_ _)); refine blk_put (cs := #[.bool false, .slice none 0 0]) ?_ 1 _ rfl; (with_reducible repeat (first | refine blk_drewN ?_ _ | refine blk_drew ?_ | refine blk_alloc ?_ _)); refine blk_put (cs := #[.bool x192000_2, .slice none 0 0]) ?_ 0 _ rfl; (with_reducible repeat (first | refine blk_drewN ?_ _ | refine blk_drew ?_ | refine blk_alloc ?_ _)); refine blk_far ?_ NB191_197.out _; (with_reducible repeat (first | refine blk_drewN ?_ _ | refine blk_drew ?_ | refine blk_alloc ?_ _)); refine blk_far ?_ NB191_197.out _; (with_reducible repeat (first | refine blk_drewN ?_ _ | refine blk_drew ?_ | refine blk_alloc ?_ _)); refine blk_far ?_ NB191_197.out _; (with_reducible repeat (first | refine blk_drewN ?_ _ | refine blk_drew ?_ | refine blk_alloc ?_ _)); exact BK191.out) Try.underlying47 rfl (by kernel_rfl)) rfl ?_
                      exact ⟨_, by first | rfl | (simp [errW_none, errW_some] <;> rfl) | (simp [*, errW_none, errW_some] <;> rfl), by first | exact Kd.R_nil _ _ _ _ _ | exact Kd.N_nil _ _ _ _ _ | exact Kd.V_nil _ _ _ _ _ | exact Kd.Q_nil _ _ _ _ _ | exact Kd.S_nil _ _ _ _ _, by repeat (first | (with_reducible first | exact HB.out | apply below_alloc | apply pw_below_drewN | apply below_drew1 | refine below_set ?_ GE191.out | refine below_set ?_ GE192.out | refine below_set ?_ GE197.out) | exact HB.out)⟩
                  · rw [if_neg c13] at H
                    exact absurd H (by simp)
                · rw [if_neg c12] at H
                  exact absurd H (by simp)
              · rw [if_neg c11] at H
                exact absurd H (by simp)
            · rw [if_neg c10] at H
              have c10b0 : decide (x4_2 < (l0.length : Int)) = false := decide_eq_false c10
              clear c10
              simp only [Option.some.injEq, Prod.mk.injEq] at H
              obtain ⟨rfl, rfl⟩ := H
              have hnb49 := NB192_191.out
              have hnc49 := NB191_192.out
              have hcz50_0 : wr.cell? ⟨gb192, 0, none⟩ = some (.bool true) := (blk_cell BK192.out 0).trans rfl
              have hcz50_1 : wr.cell? ⟨gb192, 1, none⟩ = some (u193001) := (blk_cell BK192.out 1).trans rfl
              have hfz50_0 := blk_frozen BK192.out 0
              have hfz50_1 := blk_frozen BK192.out 1
              have hcz51_0 : wr.cell? ⟨gb191, 0, none⟩ = some (.bool x192000_2) := (blk_cell BK191.out 0).trans rfl
              have hcz51_1 : wr.cell? ⟨gb191, 1, none⟩ = some (.slice none 0 0) := (blk_cell BK191.out 1).trans rfl
              have hfz51_0 := blk_frozen BK191.out 0
              have hfz51_1 := blk_frozen BK191.out 1
              obtain ⟨Ao52, co52, eo52⟩ := Kd.R_slice HO_193001.out
              subst eo52
              go_wp2
              refine bodyPost_ret (results_cell_row rfl _ _ gb191 47 #[.bool true, .slice Ao52 x193001_2.length co52] (0, 0) _ rfl (by (with_reducible repeat (first | refine blk_drewN ?_ _ | refine blk_drew ?_ | refine blk_alloc ?_ _)); refine blk_put (cs := #[.bool true, .slice none 0 0]) ?_ 1 _ rfl; (with_reducible repeat (first | refine blk_drewN ?_ _ | refine blk_drew ?_ | refine blk_alloc ?_ _)); refine blk_put (cs := #[.bool x192000_2, .slice none 0 0]) ?_ 0 _ rfl; (with_reducible repeat (first | refine blk_drewN ?_ _ | refine blk_drew ?_ | refine blk_alloc ?_ _)); exact BK191.out) Try.underlying47 rfl (by kernel_rfl)) rfl ?_
              exact ⟨_, by first | rfl | (simp [errW_none, errW_some] <;> rfl) | (simp [*, errW_none, errW_some] <;> rfl), by (with_reducible repeat (first | apply Kd.R_alloc | apply Kd.R_drewN | apply Kd.R_drew)); exact Kd.R_mono (Kd.R_far (p := ⟨gb191, 1, none⟩) (Kd.R_far (p := ⟨gb191, 0, none⟩) (Kd.R_types HO_193001.out BK191.out (by decide)) (fun _ hk => hk.2) (.bool true)) (fun _ hk => hk.2) (.slice Ao52 x193001_2.length co52)) (fun _ hk => trivial), by repeat (first | (with_reducible first | exact HB.out | apply below_alloc | apply pw_below_drewN | apply below_drew1 | refine below_set ?_ GE191.out | refine below_set ?_ GE192.out) | exact HB.out)⟩

/-! ### impl_in: function 51 -/
def impl_in.f (a0 : Int) (a1 : Int) (a2 : Int) : Option (Bool) := if a0 ≥ a1 then (some (decide (a0 ≤ a2))) else (some false)
set_option maxHeartbeats 8000000 in
set_option maxRecDepth 100000 in
theorem impl_in.calls (a0 : Int) (a1 : Int) (a2 : Int) (r : Bool) (w : World) (h : impl_in.f a0 a1 a2 = some r) :
    Calls Try.prog 51 #[.int .i64 a0, .int .i64 a1, .int .i64 a2] w fun e w' => e = .returned (.bool r) ∧ Drawn0 w w' := by
  have H : (if a0 ≥ a1 then (some (decide (a0 ≤ a2))) else (some false)) = some r := h
  clear h
  by_cases c4 : a0 ≥ a1
  · rw [if_pos c4] at H
    have c4b0 : decide (a1 ≤ a0) = true := decide_eq_true c4
    clear c4
    obtain rfl := Option.some.inj H
    go_enter Try.func51, Try.ntmps51
    go_wp2
    go_ret
    exact ⟨by first | rfl | (simp; done) | (simp [*]; done), by repeat (first | exact Drawn0.refl _ | apply Drawn0.step)⟩
  · rw [if_neg c4] at H
    have c4b0 : decide (a1 ≤ a0) = false := decide_eq_false c4
    clear c4
    obtain rfl := Option.some.inj H
    go_enter Try.func51, Try.ntmps51
    go_wp2
    go_ret
    exact ⟨by first | rfl | (simp; done) | (simp [*]; done), by repeat (first | exact Drawn0.refl _ | apply Drawn0.step)⟩

/-! ### impl_ValidName: function 52 -/
def impl_ValidName.f (k : Nat) (a0 : ByteArray) : Option (Bool) := spec_ValidName.f k a0
theorem impl_ValidName.mono : ∀ a0 k, LeO (impl_ValidName.f k a0) (impl_ValidName.f (k + 1) a0) :=spec_ValidName.mono

/-- Byte j is one of a name's. -/
def vnGood (s : ByteArray) (j : Nat) : Prop := 33 ≤ bt s (j : Int) ∧ bt s (j : Int) ≤ 126 ∧ bt s (j : Int) ≠ 47
def vnAll (s : ByteArray) : Prop := 1 ≤ s.size ∧ s.size ≤ 13 ∧ s.toList ≠ [46] ∧ s.toList ≠ [46, 46] ∧ ∀ j, j < s.size → vnGood s j
theorem vn_bytes (s : ByteArray) (hs : s.size ≤ 13) : ∀ (k i : Nat) (r : Bool), spec_l10Bytes.l0 k s (i : Int) = some r → (r = true ↔ ∀ j, i ≤ j → j < s.size → 33 ≤ bt s (j : Int) ∧ bt s (j : Int) ≤ 126) := by
  intro k
  induction k with
  | zero => intro i r h; simp [spec_l10Bytes.l0] at h
  | succ k ih =>
    intro i r h
    simp only [spec_l10Bytes.l0] at h
    by_cases h1 : (i : Int) < (s.size : Int)
    · rw [if_pos h1, if_pos (by omega)] at h
      by_cases h2 : bt s (i : Int) < 33
      · rw [if_pos h2] at h; cases h
        constructor
        · intro h; cases h
        · intro h; have := h i (Nat.le_refl _) (by omega); omega
      · rw [if_neg h2] at h
        by_cases h3 : bt s (i : Int) > 126
        · rw [if_pos h3] at h; cases h
          constructor
          · intro h; cases h
          · intro h; have := h i (Nat.le_refl _) (by omega); omega
        · rw [if_neg h3, show wrap64 ((i : Int) + 1) = ((i + 1 : Nat) : Int) by unfold wrap64; omega] at h
          rw [ih _ _ h]
          constructor
          · intro h4 j hj hl
            rcases Nat.lt_or_eq_of_le hj with h5 | h5
            · exact h4 j h5 hl
            · subst h5; omega
          · intro h4 j hj hl; exact h4 j (by omega) hl
    · rw [if_neg h1] at h; cases h
      exact ⟨fun _ j hj hl => by omega, fun _ => rfl⟩
theorem vn_cut (s : ByteArray) (hs : s.size ≤ 13) : ∀ (k i : Nat) (a : List ByteArray) (q : Int) (r : List ByteArray), spec_l10Cut.l0 k s 47 a q (i : Int) = some r → a.length + 1 ≤ r.length ∧ (r.length = a.length + 1 ↔ ∀ j, i ≤ j → j < s.size → bt s (j : Int) ≠ 47) := by
  intro k
  induction k with
  | zero => intro i a q r h; simp [spec_l10Cut.l0] at h
  | succ k ih =>
    intro i a q r h
    simp only [spec_l10Cut.l0] at h
    by_cases h1 : (i : Int) < (s.size : Int)
    · rw [if_pos h1, if_pos (by omega)] at h
      by_cases h2 : bt s (i : Int) = 47
      · rw [if_pos h2] at h
        split at h
        · split at h
          · split at h
            · split at h
              · rw [show wrap64 ((i : Int) + 1) = ((i + 1 : Nat) : Int) by unfold wrap64; omega] at h
                have h3 := (ih _ _ _ _ h).1
                rw [List.length_append] at h3
                simp at h3
                exact ⟨by omega, fun h4 => by omega, fun h4 => absurd h2 (h4 i (Nat.le_refl _) (by omega))⟩
              · cases h
            · cases h
          · cases h
        · cases h
      · rw [if_neg h2, show wrap64 ((i : Int) + 1) = ((i + 1 : Nat) : Int) by unfold wrap64; omega] at h
        have h3 := ih _ _ _ _ h
        refine ⟨h3.1, h3.2.trans ⟨fun h4 j hj hl => ?_, fun h4 j hj hl => h4 j (by omega) hl⟩⟩
        rcases Nat.lt_or_eq_of_le hj with h5 | h5
        · exact h4 j h5 hl
        · subst h5; exact h2
    · rw [if_neg h1] at h
      split at h
      · split at h
        · split at h
          · cases h
            have e : ∀ x : ByteArray, (a ++ [x]).length = a.length + 1 := fun x => by simp
            rw [e]
            exact ⟨Nat.le_refl _, fun _ j hj hl => absurd hl (by omega), fun _ => rfl⟩
          · cases h
        · cases h
      · cases h
theorem vn_of {k : Nat} {s : ByteArray} {r : Bool} (h : spec_ValidName.f k s = some r) : r = true ↔ vnAll s := by
  unfold spec_ValidName.f at h
  obtain ⟨t, h1, h⟩ := Option.bind_eq_some_iff.1 h
  unfold spec_l10Bytes.f at h1
  by_cases hs : s.size ≤ 13
  rotate_left
  · have : ¬ vnAll s := fun h => by have := h.2.1; omega
    by_cases ht : t = true
    · rw [if_pos ht] at h
      by_cases h2 : (s.size : Int) < 1
      · omega
      · rw [if_neg h2, if_pos (by omega)] at h; cases h; simp [this]
    · rw [if_neg ht] at h; cases h; simp [this]
  have hb := vn_bytes s hs k 0 t h1
  by_cases ht : t = true
  rotate_left
  · rw [if_neg ht] at h; cases h
    constructor
    · intro h; cases h
    · intro h; exact absurd (hb.2 fun j _ hl => ⟨(h.2.2.2.2 j hl).1, (h.2.2.2.2 j hl).2.1⟩) ht
  rw [if_pos ht] at h
  by_cases h2 : (s.size : Int) < 1
  · rw [if_pos h2] at h; cases h
    constructor
    · intro h; cases h
    · intro h; have := h.1; omega
  rw [if_neg h2, if_neg (by omega)] at h
  by_cases h3 : s.toList = [46]
  · rw [if_pos h3] at h; cases h
    exact ⟨fun h => (by cases h), fun h => absurd h3 h.2.2.1⟩
  rw [if_neg h3] at h
  by_cases h4 : s.toList = [46, 46]
  · rw [if_pos h4] at h; cases h
    exact ⟨fun h => (by cases h), fun h => absurd h4 h.2.2.2.1⟩
  rw [if_neg h4] at h
  obtain ⟨l, h5, h⟩ := Option.bind_eq_some_iff.1 h
  unfold spec_l10Cut.f at h5
  have hc := vn_cut s hs k 0 [] 0 l h5
  have hr : r = ((l.length : Int) == 1) := (Option.some.inj h).symm
  have hl : r = true ↔ l.length = 0 + 1 := by rw [hr, beq_iff_eq]; omega
  rw [hl]
  refine hc.2.trans ⟨fun h6 => ⟨by omega, hs, h3, h4, fun j hl => ?_⟩, fun h6 j _ hl => (h6.2.2.2.2 j hl).2.2⟩
  have := hb.1 ht j (Nat.zero_le _) hl
  exact ⟨this.1, this.2, h6 j (Nat.zero_le _) hl⟩
theorem vn_bt (s : ByteArray) (j : Nat) (h : j < s.size) : bt s (j : Int) = ((s[j]'h).toNat : Int) := by
  unfold bt; simp [h]
set_option maxHeartbeats 8000000 in
set_option maxRecDepth 100000 in
theorem impl_ValidName.calls (k : Nat) (a0 : ByteArray) (r : Bool) (w : World) (h : impl_ValidName.f k a0 = some r) :
    Calls Try.prog 52 #[.string a0] w fun e w' => e = .returned (.bool r) ∧ Below w.heap.size w w' := by
  have hv : r = true ↔ vnAll a0 := vn_of h
  clear h
  by_cases c1 : a0.size < 1
  · obtain rfl : r = false := Bool.eq_false_iff.2 fun e => by have := (hv.1 e).1; omega
    have c1b : decide ((a0.size : Int) < 1) = true := decide_eq_true (by omega)
    have c1c : decide (a0.size < 1) = true := decide_eq_true c1
    clear hv c1
    go_enter Try.func52, Try.ntmps52
    go_wp2
    go_ret
    exact ⟨rfl, Below.refl _ _⟩
  have c1b : decide ((a0.size : Int) < 1) = false := decide_eq_false (by omega)
  have c1c : decide (a0.size < 1) = false := decide_eq_false c1
  by_cases c2 : 13 < a0.size
  · obtain rfl : r = false := Bool.eq_false_iff.2 fun e => by have := (hv.1 e).2.1; omega
    have c2b : decide (13 < (a0.size : Int)) = true := decide_eq_true (by omega)
    have c2c : decide (13 < a0.size) = true := decide_eq_true c2
    clear hv c1 c2
    go_enter Try.func52, Try.ntmps52
    go_wp2
    go_ret
    exact ⟨rfl, Below.refl _ _⟩
  have c2b : decide (13 < (a0.size : Int)) = false := decide_eq_false (by omega)
  have c2c : decide (13 < a0.size) = false := decide_eq_false c2
  by_cases c3 : a0.toList = ([46] : List UInt8)
  · obtain rfl : r = false := Bool.eq_false_iff.2 fun e => (hv.1 e).2.2.1 c3
    have c3b : (a0.toList == ([46] : List UInt8)) = true := beq_iff_eq.mpr c3
    clear hv c1 c2 c3
    go_enter Try.func52, Try.ntmps52
    go_wp2
    go_ret
    exact ⟨rfl, Below.refl _ _⟩
  have c3b : (a0.toList == ([46] : List UInt8)) = false := beq_eq_false_iff_ne.mpr c3
  by_cases c4 : a0.toList = ([46, 46] : List UInt8)
  · obtain rfl : r = false := Bool.eq_false_iff.2 fun e => (hv.1 e).2.2.2.1 c4
    have c4b : (a0.toList == ([46, 46] : List UInt8)) = true := beq_iff_eq.mpr c4
    clear hv c1 c2 c3 c4
    go_enter Try.func52, Try.ntmps52
    go_wp2
    go_ret
    exact ⟨rfl, Below.refl _ _⟩
  have c4b : (a0.toList == ([46, 46] : List UInt8)) = false := beq_eq_false_iff_ne.mpr c4
  have HV : Hid (r = true ↔ ∀ j, j < a0.size → vnGood a0 j) := by
    refine hv.trans ⟨fun h => h.2.2.2.2, fun h => ⟨by omega, by omega, c3, c4, h⟩⟩
  clear hv c3 c4
  have hsz : a0.size ≤ 13 := by omega
  clear c1 c2
  go_enter Try.func52, Try.ntmps52
  go_wp2
  go_loopw [4] (fun _ wr => ∃ pos : Nat, wr = w.iter a0 pos ∧ pos ≤ a0.size ∧ Hid (∀ j, j < pos → vnGood a0 j)) (fun _ wr => a0.size - wr.iterPos w.heap.size)
  case atStart => exact ⟨0, rfl, Nat.zero_le _, fun j hj => absurd hj (Nat.not_lt_zero _)⟩
  case round =>
    obtain ⟨pos, rfl, hp, HG⟩ := hrel
    by_cases hlt : pos < a0.size
    · by_cases hg : vnGood a0 pos
      · have hb := vn_bt a0 pos hlt
        obtain ⟨g1, g2, g3⟩ := hg
        rw [hb] at g1 g2 g3
        have hnx : ∀ ty, (Instr.next (.pointer (some ⟨w.heap.size, 0, none⟩)) true ty).run Try.prog (w.iter a0 pos) = _ := fun ty => run_next_ascii w a0 pos ty hlt (by omega)
        have t1 : decide (((a0[pos]'hlt).toNat : Int) < 33) = false := decide_eq_false (by omega)
        have t2 : decide (126 < ((a0[pos]'hlt).toNat : Int)) = false := decide_eq_false (by omega)
        have t3 : (((a0[pos]'hlt).toNat : Int) == 47) = false := beq_eq_false_iff_ne.mpr g3
        have HG2 : Hid (∀ j, j < pos + 1 → vnGood a0 j) := fun j hj => by
          rcases Nat.lt_or_eq_of_le (Nat.le_of_lt_succ hj) with h5 | h5
          · exact HG.out j h5
          · subst h5; exact ⟨by omega, by omega, by rw [hb]; exact g3⟩
        clear hb g1 g2 g3 HG
        go_wp2
        go_roundw
        case rel => exact ⟨pos + 1, rfl, by omega, HG2⟩
        case measure => simp; omega
      · obtain rfl : r = false := Bool.eq_false_iff.2 fun e => hg (HV.out.1 e pos hlt)
        have hb := vn_bt a0 pos hlt
        by_cases ha : (a0[pos]'hlt).toNat < 128
        · have hnx : ∀ ty, (Instr.next (.pointer (some ⟨w.heap.size, 0, none⟩)) true ty).run Try.prog (w.iter a0 pos) = _ := fun ty => run_next_ascii w a0 pos ty hlt ha
          have hg' : ((a0[pos]'hlt).toNat : Int) < 33 ∨ 126 < ((a0[pos]'hlt).toNat : Int) ∨ ((a0[pos]'hlt).toNat : Int) = 47 := by
            unfold vnGood at hg; rw [hb] at hg; omega
          clear hb hg HV HG ha
          by_cases q1 : ((a0[pos]'hlt).toNat : Int) < 33
          · have t1 : decide (((a0[pos]'hlt).toNat : Int) < 33) = true := decide_eq_true q1
            clear hg' q1
            go_wp2
            go_ret
            exact ⟨rfl, (Below.refl _ _).alloc (Nat.le_refl _) _⟩
          have t1 : decide (((a0[pos]'hlt).toNat : Int) < 33) = false := decide_eq_false q1
          by_cases q2 : 126 < ((a0[pos]'hlt).toNat : Int)
          · have t2 : decide (126 < ((a0[pos]'hlt).toNat : Int)) = true := decide_eq_true q2
            clear hg' q1 q2
            go_wp2
            go_ret
            exact ⟨rfl, (Below.refl _ _).alloc (Nat.le_refl _) _⟩
          have t2 : decide (126 < ((a0[pos]'hlt).toNat : Int)) = false := decide_eq_false q2
          have t3 : (((a0[pos]'hlt).toNat : Int) == 47) = true := beq_iff_eq.mpr (by omega)
          clear hg' q1 q2
          go_wp2
          go_ret
          exact ⟨rfl, (Below.refl _ _).alloc (Nat.le_refl _) _⟩
        · have hd := decode_high a0 pos hlt (by omega)
          have hnx : ∀ ty, (Instr.next (.pointer (some ⟨w.heap.size, 0, none⟩)) true ty).run Try.prog (w.iter a0 pos) = _ := fun ty => run_next_any w a0 pos ty hlt
          have t1 : decide (((Utf8.decode a0 pos).1 : Int) < 33) = false := decide_eq_false (by omega)
          have t2 : decide (126 < ((Utf8.decode a0 pos).1 : Int)) = true := decide_eq_true (by omega)
          clear hb hg HV HG ha hd
          go_wp2
          go_ret
          exact ⟨rfl, (Below.refl _ _).alloc (Nat.le_refl _) _⟩
    · obtain rfl : pos = a0.size := by omega
      obtain rfl : r = true := HV.out.2 HG.out
      have hnx : ∀ ty, (Instr.next (.pointer (some ⟨w.heap.size, 0, none⟩)) true ty).run Try.prog (w.iter a0 a0.size) = _ := fun ty => run_next_end w a0 a0.size ty hlt
      clear HV HG
      go_wp2
      go_ret
      exact ⟨rfl, (Below.refl _ _).alloc (Nat.le_refl _) _⟩


end Go.Proofs.Ytiiifeajcigigaa.PFnExactDecodeDir
