-- written by a program of this session (wip/src/print2.py)
import Derived.Test.YtkehfdadplpaeaaPFnExactLogNextx0
import Derived.Test.YtkehfdadplpaeaaPFnExactLogNextx1
import Derived.Test.YtkehfdadplpaeaaPFnExactLogNextx2
import Derived.Test.YtkehfdadplpaeaaPFnExactLogNextx3
import Derived.Test.YtkehfdadplpaeaaPFnExactLogNextx5
namespace Go.Proofs.Ytkehfdadplpaeaa.PFnExactLogNext
open Go.RowKit Go.Proofs.YtkehfdadplpaeaaW.PrintWords Go.Proofs.YtkehfdadplpaeaaW.PrintLast Go.Proofs.YtkehfdadplpaeaaW.PrintMore
attribute [local go_sem] max2_int min2_int max_two min_two max_three min_three max_four min_four   -- for this text's walks alone
set_option linter.unusedVariables false
set_option linter.unusedSimpArgs false

/-! ### spec_l2Reg: function 68 -/
mutual
def spec_l2Reg.l0 : Nat → Int → List Int → Int → Option (Int)
  | 0, _, _, _ => none
  | k + 1, x0, x1, x5 => if x5 < (x1.length : Int) then (if 0 ≤ x5 then (spec_l2Reg.l1 k x0 x1 x5 (wrap64 (rd x1 x5)) 0) else (none)) else (some x0)
def spec_l2Reg.l1 : Nat → Int → List Int → Int → Int → Int → Option (Int)
  | 0, _, _, _, _, _ => none
  | k + 1, x0, x1, x5, x6, x7 => if x7 < 8 then ((spec_l2Step.f x0 (Int.tmod x6 2)).bind fun t324 => (spec_l2Reg.l1 k t324 x1 x5 (wrap64 (Int.tdiv x6 2)) (wrap64 (x7 + 1)))) else (spec_l2Reg.l0 k x0 x1 (wrap64 (x5 + 1)))
end
def spec_l2Reg.f (k : Nat) (a0 : Int) (l1 : List Int) : Option (Int) := spec_l2Reg.l0 k a0 l1 0
theorem spec_l2Reg.mono_l : ∀ k, (∀ y0 y1 y2, LeO (spec_l2Reg.l0 k y0 y1 y2) (spec_l2Reg.l0 (k + 1) y0 y1 y2)) ∧ (∀ y0 y1 y2 y3 y4, LeO (spec_l2Reg.l1 k y0 y1 y2 y3 y4) (spec_l2Reg.l1 (k + 1) y0 y1 y2 y3 y4))
  | 0 => ⟨fun _ _ _ r h => by simp [spec_l2Reg.l0] at h, fun _ _ _ _ _ r h => by simp [spec_l2Reg.l1] at h⟩
  | k + 1 => by
    obtain ⟨ih0, ih1⟩ := spec_l2Reg.mono_l k
    refine ⟨?_, ?_⟩
    · intro y0 y1 y2
      unfold spec_l2Reg.l0
      repeat' first
      | (with_reducible exact ih0 _ _ _)
      | (with_reducible exact ih1 _ _ _ _ _)
      | (with_reducible exact LeO.refl _)
      | (with_reducible exact LeO.none _)
      | (with_reducible refine LeO.ite ?_ ?_)
      | (with_reducible refine LeO.bind ?_ (fun _ => ?_))
      | exact ih0 _ _ _
      | exact ih1 _ _ _ _ _
      | exact LeO.none _
      | refine LeO.ite ?_ ?_
      | refine LeO.bind ?_ (fun _ => ?_)
    · intro y0 y1 y2 y3 y4
      unfold spec_l2Reg.l1
      repeat' first
      | (with_reducible exact ih0 _ _ _)
      | (with_reducible exact ih1 _ _ _ _ _)
      | (with_reducible exact LeO.refl _)
      | (with_reducible exact LeO.none _)
      | (with_reducible refine LeO.ite ?_ ?_)
      | (with_reducible refine LeO.bind ?_ (fun _ => ?_))
      | exact ih0 _ _ _
      | exact ih1 _ _ _ _ _
      | exact LeO.none _
      | refine LeO.ite ?_ ?_
      | refine LeO.bind ?_ (fun _ => ?_)
theorem spec_l2Reg.mono : ∀ a0 a1 k, LeO (spec_l2Reg.f k a0 a1) (spec_l2Reg.f (k + 1) a0 a1) := by
  intro a0 a1 k
  obtain ⟨ih0, ih1⟩ := spec_l2Reg.mono_l k
  unfold spec_l2Reg.f
  repeat' first
      | (with_reducible exact ih0 _ _ _)
      | (with_reducible exact ih1 _ _ _ _ _)
      | (with_reducible exact LeO.refl _)
      | (with_reducible exact LeO.none _)
      | (with_reducible refine LeO.ite ?_ ?_)
      | (with_reducible refine LeO.bind ?_ (fun _ => ?_))
      | exact ih0 _ _ _
      | exact ih1 _ _ _ _ _
      | exact LeO.none _
      | refine LeO.ite ?_ ?_
      | refine LeO.bind ?_ (fun _ => ?_)
set_option maxHeartbeats 8000000 in
set_option maxRecDepth 100000 in
theorem spec_l2Reg.calls (k : Nat) (a0 : Int) (A1 : Option Addr) (c1 : Nat) (l1 : List Int) (r : Int) (w : World) (hr1 : Kd.C (Kd.int .u8) w A1 l1.length l1) (hc1 : l1.length ≤ c1) (h : spec_l2Reg.f k a0 l1 = some r) :
    Calls Try.prog 68 #[.int .i64 a0, .slice A1 l1.length c1] w fun e w' => e = .returned (.int .i64 r) ∧ Drawn0 w w' := by
  have HR1 := Aside0.mk hr1
  have HC1 := Aside0.mk hc1
  clear hr1 hc1
  have H : (spec_l2Reg.l0 k a0 l1 0) = some r := h
  clear h
  have H' := Aside0.mk H
  clear H
  go_enter Try.func68, Try.ntmps68
  go_wp2
  go_loopg [0, 5] k (fun kq v0 v5 w' => ∃ (x0_1 : Int) (x5_1 : Int), v0 = .int .i64 x0_1 ∧ v5 = .int .i64 x5_1 ∧ Aside0 (spec_l2Reg.l0 kq x0_1 l1 x5_1 = some r) ∧ Aside0 (kq ≤ k) ∧ Drawn0 w w')
  case atStart => exact ⟨(a0), (0), (by first | rfl | (simp; done) | (simp [*]; done)), (by first | rfl | (simp; done) | (simp [*]; done)), H', ⟨Nat.le_refl _⟩, by repeat (first | exact Drawn0.refl _ | apply Drawn0.step)⟩
  case round =>
    clear H'
    try clear c1
    try clear p2
    obtain ⟨x0_1, x5_1, rfl, rfl, HA, HK1, ⟨m1, rfl⟩⟩ := hrel
    cases gk with
    | zero => exact absurd HA.out (by simp [spec_l2Reg.l0])
    | succ k1 =>
      have H := HA.out
      clear HA
      simp only [spec_l2Reg.l0] at H
      by_cases c3 : x5_1 < (l1.length : Int)
      · rw [if_pos c3] at H
        have c3b0 : decide (x5_1 < (l1.length : Int)) = true := decide_eq_true c3
        clear c3
        by_cases c4 : 0 ≤ x5_1
        · rw [if_pos c4] at H
          have c4b0 : decide (0 ≤ x5_1) = true := decide_eq_true c4
          clear c4
          have H' := Aside0.mk H
          clear H
          have p323 : 0 ≤ (x5_1 : Int) := of_decide_eq_true (by first | (with_reducible assumption) | assumption)
          have q323 : x5_1 < (l1.length : Int) := of_decide_eq_true (by first | (with_reducible assumption) | assumption)
          obtain ⟨ad323, e323, hx323_0⟩ := Kd.at_int HR1.out x5_1 p323 q323
          cases e323
          replace p323 := eq_true p323
          replace q323 := eq_true q323
          go_wp2
          go_loopg [0, 6, 7] k1 (fun kq v0 v6 v7 w' => ∃ (x0_2 : Int) (x6_2 : Int) (x7_2 : Int), v0 = .int .i64 x0_2 ∧ v6 = .int .i64 x6_2 ∧ v7 = .int .i64 x7_2 ∧ Aside0 (spec_l2Reg.l1 kq x0_2 l1 x5_1 x6_2 x7_2 = some r) ∧ Aside0 (kq ≤ k1) ∧ Drawn0 w w')
          case atStart => exact ⟨(x0_1), (wrap64 (rd l1 x5_1)), (0), (by first | rfl | (simp; done) | (simp [*]; done)), (by first | rfl | (simp; done) | (simp [*]; done)), (by first | rfl | (simp; done) | (simp [*]; done)), H', ⟨Nat.le_refl _⟩, by repeat (first | exact Drawn0.refl _ | apply Drawn0.step)⟩
          case round =>
            clear H'
            try clear c1
            try clear p2
            try clear c3
            try clear c3b0
            try clear p3
            try clear q3
            try clear hx3
            try clear c4
            try clear c4b0
            try clear hx323_0
            try clear p2
            try clear p323
            try clear q323
            obtain ⟨x0_2, x6_2, x7_2, rfl, rfl, rfl, HA, HK2, ⟨m2, rfl⟩⟩ := hrel
            cases gk with
            | zero => exact absurd HA.out (by simp [spec_l2Reg.l1])
            | succ k2 =>
              have H := HA.out
              clear HA
              simp only [spec_l2Reg.l1] at H
              by_cases c5 : x7_2 < 8
              · rw [if_pos c5] at H
                have c5b0 : decide (x7_2 < 8) = true := decide_eq_true c5
                clear c5
                replace H := Option.bind_eq_some_iff.mp H
                obtain ⟨t324, A60, H⟩ := H
                replace H : (spec_l2Reg.l1 k2 t324 l1 x5_1 (wrap64 (Int.tdiv x6_2 2)) (wrap64 (x7_2 + 1))) = some r := H
                have A6 := Aside0.mk A60
                clear A60
                have H' := Aside0.mk H
                clear H
                go_wp2_with (first | ((with_reducible refine gate_callee (f := 77) rfl ?_); refine Rgn.gl (some 26) Try.func77 #[.int .i64 x0_2, .int .i64 (Int.tmod x6_2 2)] ?_; (with_reducible refine (spec_l2Step.calls x0_2 (Int.tmod x6_2 2) t324 _ A6.out).mono ?_); rintro e w' ⟨rfl, ⟨nd, rfl⟩⟩; refine ⟨_, rfl, ?_⟩))
                go_roundg k2
                case measure => have := HK1.out; have := HK2.out; omega
                case rel => exact ⟨(t324), (wrap64 (Int.tdiv x6_2 2)), (wrap64 (x7_2 + 1)), (by first | rfl | (simp; done) | (simp [*]; done)), (by first | rfl | (simp; done) | (simp [*]; done)), (by first | rfl | (simp; done) | (simp [*]; done)), H', ⟨by have := HK1.out; have := HK2.out; omega⟩, by repeat (first | exact Drawn0.refl _ | apply Drawn0.step)⟩
              · rw [if_neg c5] at H
                have c5b0 : decide (x7_2 < 8) = false := decide_eq_false c5
                clear c5
                have H' := Aside0.mk H
                clear H
                go_wp2
                go_roundg k2
                case measure => have := HK1.out; have := HK2.out; omega
                case rel => exact ⟨(x0_2), (wrap64 (x5_1 + 1)), (by first | rfl | (simp; done) | (simp [*]; done)), (by first | rfl | (simp; done) | (simp [*]; done)), H', ⟨by have := HK1.out; have := HK2.out; omega⟩, by repeat (first | exact Drawn0.refl _ | apply Drawn0.step)⟩
        · rw [if_neg c4] at H
          exact absurd H (by simp)
      · rw [if_neg c3] at H
        have c3b0 : decide (x5_1 < (l1.length : Int)) = false := decide_eq_false c3
        clear c3
        obtain rfl := Option.some.inj H
        go_wp2
        go_ret
        exact ⟨by first | rfl | (simp; done) | (simp [*]; done), by repeat (first | exact Drawn0.refl _ | apply Drawn0.step)⟩

/-! ### spec_Crc: function 56 -/
def spec_Crc.f (k : Nat) (l0 : List Int) : Option (Int) := (spec_l2Reg.f k 4294967295 l0).bind fun t325 => (some (wrap64 (4294967295 - t325)))
theorem spec_Crc.mono : ∀ a0 k, LeO (spec_Crc.f k a0) (spec_Crc.f (k + 1) a0) := by
  intro a0 k
  unfold spec_Crc.f
  repeat' first
      | (with_reducible exact spec_l2Reg.mono _ _ _)
      | (with_reducible exact LeO.refl _)
      | (with_reducible exact LeO.none _)
      | (with_reducible refine LeO.ite ?_ ?_)
      | (with_reducible refine LeO.bind ?_ (fun _ => ?_))
      | exact spec_l2Reg.mono _ _ _
      | exact LeO.none _
      | refine LeO.ite ?_ ?_
      | refine LeO.bind ?_ (fun _ => ?_)
set_option maxHeartbeats 8000000 in
set_option maxRecDepth 100000 in
theorem spec_Crc.calls (k : Nat) (A0 : Option Addr) (c0 : Nat) (l0 : List Int) (r : Int) (w : World) (hr0 : Kd.C (Kd.int .u8) w A0 l0.length l0) (hc0 : l0.length ≤ c0) (h : spec_Crc.f k l0 = some r) :
    Calls Try.prog 56 #[.slice A0 l0.length c0] w fun e w' => e = .returned (.int .i64 r) ∧ Drawn0 w w' := by
  have HR0 := Aside0.mk hr0
  have HC0 := Aside0.mk hc0
  clear hr0 hc0
  have H : ((spec_l2Reg.f k 4294967295 l0).bind fun t325 => (some (wrap64 (4294967295 - t325)))) = some r := h
  clear h
  replace H := Option.bind_eq_some_iff.mp H
  obtain ⟨t325, A20, H⟩ := H
  replace H : (some (wrap64 (4294967295 - t325))) = some r := H
  have A2 := Aside0.mk A20
  clear A20
  obtain rfl := Option.some.inj H
  go_enter Try.func56, Try.ntmps56
  go_wp2_with (first | ((with_reducible refine gate_callee (f := 68) rfl ?_); refine Rgn.gl (some 4) Try.func68 #[.int .i64 4294967295, .slice A0 l0.length c0] ?_; (with_reducible refine (spec_l2Reg.calls k 4294967295 _ _ l0 t325 _ ?side1 ?side2 A2.out).mono ?_); (case side1 => repeat (first | exact HR0.out | (with_reducible refine Kd.C_alloc ?_ _) | (with_reducible refine Kd.C_drewN ?_ _) | (with_reducible refine Kd.C_drew ?_))); (case side2 => exact HC0.out); rintro e w' ⟨rfl, ⟨nd, rfl⟩⟩; refine ⟨_, rfl, ?_⟩))
  go_ret
  exact ⟨by first | rfl | (simp; done) | (simp [*]; done), by repeat (first | exact Drawn0.refl _ | apply Drawn0.step)⟩

/-! ### spec_EncodeCommit: function 58 -/
def spec_EncodeCommit.j0 : Nat → Bool → Int → Int → Int → Option (List Int)
  | 0, _, _, _, _ => none
  | k + 1, x28, x327000, x327001, x327002 => if x28 = true then (some (([] : List Int))) else ((spec_l3Head.f k 4 x327001 x327000).bind fun t331 => ((spec_PutNumber.f k x327002 4).bind fun t334 => ((spec_l2Join.f t331 t334).bind fun t337 => ((spec_l3Pad.f t337).bind fun t340 => (some t340)))))
def spec_EncodeCommit.f (k : Nat) (a0_0 : Int) (a0_1 : Int) (a0_2 : Int) : Option (List Int) := (spec_l3GoodSeq.f a0_0).bind fun t327 => (if t327 = true then (if a0_1 < 1 then (spec_EncodeCommit.j0 k true a0_0 a0_1 a0_2) else (if a0_1 ≥ 512 then (spec_EncodeCommit.j0 k true a0_0 a0_1 a0_2) else (if a0_2 < 0 then (spec_EncodeCommit.j0 k true a0_0 a0_1 a0_2) else (spec_EncodeCommit.j0 k (decide (a0_2 > 4294967295)) a0_0 a0_1 a0_2)))) else (spec_EncodeCommit.j0 k true a0_0 a0_1 a0_2))
theorem spec_EncodeCommit.mono_l : ∀ k, (∀ y0 y1 y2 y3, LeO (spec_EncodeCommit.j0 k y0 y1 y2 y3) (spec_EncodeCommit.j0 (k + 1) y0 y1 y2 y3))
  | 0 => fun _ _ _ _ r h => by simp [spec_EncodeCommit.j0] at h
  | k + 1 => by
    have ih0 := spec_EncodeCommit.mono_l k
    · intro y0 y1 y2 y3
      unfold spec_EncodeCommit.j0
      repeat' first
      | (with_reducible exact ih0 _ _ _ _)
      | (with_reducible exact spec_PutNumber.mono _ _ _)
      | (with_reducible exact spec_l3Head.mono _ _ _ _)
      | (with_reducible exact LeO.refl _)
      | (with_reducible exact LeO.none _)
      | (with_reducible refine LeO.ite ?_ ?_)
      | (with_reducible refine LeO.bind ?_ (fun _ => ?_))
      | exact ih0 _ _ _ _
      | exact spec_PutNumber.mono _ _ _
      | exact spec_l3Head.mono _ _ _ _
      | exact LeO.none _
      | refine LeO.ite ?_ ?_
      | refine LeO.bind ?_ (fun _ => ?_)
theorem spec_EncodeCommit.mono : ∀ a0 a1 a2 k, LeO (spec_EncodeCommit.f k a0 a1 a2) (spec_EncodeCommit.f (k + 1) a0 a1 a2) := by
  intro a0 a1 a2 k
  have ih0 := spec_EncodeCommit.mono_l k
  unfold spec_EncodeCommit.f
  repeat' first
      | (with_reducible exact ih0 _ _ _ _)
      | (with_reducible exact spec_PutNumber.mono _ _ _)
      | (with_reducible exact spec_l3Head.mono _ _ _ _)
      | (with_reducible exact LeO.refl _)
      | (with_reducible exact LeO.none _)
      | (with_reducible refine LeO.ite ?_ ?_)
      | (with_reducible refine LeO.bind ?_ (fun _ => ?_))
      | exact ih0 _ _ _ _
      | exact spec_PutNumber.mono _ _ _
      | exact spec_l3Head.mono _ _ _ _
      | exact LeO.none _
      | refine LeO.ite ?_ ?_
      | refine LeO.bind ?_ (fun _ => ?_)
def spec_EncodeCommit.T4 : Bool × List (List Nat × List Nat) := (true, [([], []), ([0], [0]), ([], []), ([2], [2]), ([1, 3], [1, 3]), ([], []), ([5], [5]), ([6, 4], [6]), ([4, 7, 7], [4, 7]), ([8, 8], [8]), ([9, 9, 0, 1, 2, 3, 4, 5, 6, 7, 8, 9], [9])])
def spec_EncodeCommit.B4 : List Nat := [0, 1, 0, 4, 15, 0, 32, 127, 255, 511, 1023]
theorem spec_EncodeCommit.tab4 : rtab .any (opsOf Try.f58 4) = spec_EncodeCommit.T4 := by kernel_rfl
theorem spec_EncodeCommit.bits4 : waitsOk spec_EncodeCommit.T4.2 spec_EncodeCommit.B4 = true := by kernel_rfl
set_option maxHeartbeats 8000000 in
set_option maxRecDepth 100000 in
theorem spec_EncodeCommit.calls (k : Nat) (a0_0 : Int) (a0_1 : Int) (a0_2 : Int) (r : List Int) (w : World) (h : spec_EncodeCommit.f k a0_0 a0_1 a0_2 = some r) :
    Calls Try.prog 58 #[.agg #[.int .i64 a0_0, .int .i64 a0_1, .int .i64 a0_2]] w fun e w' => ∃ v0_ : Value, e = .returned (v0_) ∧ Kd.R (Kd.int .u8) 5 w' w.heap.size (fun _ => True) v0_ r ∧ Below w.heap.size w w' := by
  have hu83 := Try.underlying83
  have HB := Aside0.mk (Below.refl w.heap.size w)
  have H : ((spec_l3GoodSeq.f a0_0).bind fun t327 => (if t327 = true then (if a0_1 < 1 then (spec_EncodeCommit.j0 k true a0_0 a0_1 a0_2) else (if a0_1 ≥ 512 then (spec_EncodeCommit.j0 k true a0_0 a0_1 a0_2) else (if a0_2 < 0 then (spec_EncodeCommit.j0 k true a0_0 a0_1 a0_2) else (spec_EncodeCommit.j0 k (decide (a0_2 > 4294967295)) a0_0 a0_1 a0_2)))) else (spec_EncodeCommit.j0 k true a0_0 a0_1 a0_2))) = some r := h
  clear h
  replace H := Option.bind_eq_some_iff.mp H
  obtain ⟨t327, A20, H⟩ := H
  replace H : (if t327 = true then (if a0_1 < 1 then (spec_EncodeCommit.j0 k true a0_0 a0_1 a0_2) else (if a0_1 ≥ 512 then (spec_EncodeCommit.j0 k true a0_0 a0_1 a0_2) else (if a0_2 < 0 then (spec_EncodeCommit.j0 k true a0_0 a0_1 a0_2) else (spec_EncodeCommit.j0 k (decide (a0_2 > 4294967295)) a0_0 a0_1 a0_2)))) else (spec_EncodeCommit.j0 k true a0_0 a0_1 a0_2)) = some r := H
  have A2 := Aside0.mk A20
  clear A20
  have HC3 := Aside0.mk H
  clear H
  go_enter Try.func58, Try.ntmps58
  go_upto_region 2 with (first | ((with_reducible refine gate_dst (N := 1) rfl ?_); refine box_event ?hg (N := 1) ?hd (cs := #[.int .i64 a0_0, .int .i64 a0_1, .int .i64 a0_2]) (t := 83) ?hr ?_; (case hd => rfl); (case hg => rfl); (case hr => first | (go_simp; done) | (go_simp; rfl)); intro gb326 hg w4 hbox hb; have n0_ := Aside0.mk (below_step (Rgn.bq HB.out) hb); have n1_ := Aside0.mk (hbox); have n2_ := Aside0.mk ((by rw [hg]; exact (below_size (Rgn.bq HB.out)) : w.heap.size ≤ gb326)); have n3_ := Aside0.mk ((by rw [hg]; exact (below_size (Rgn.bq HB.out)) : w.heap.size ≤ gb326)); clear HB; have HB := n0_; have BK326 := n1_; have GW326 := n2_; have GE326 := n3_; clear n0_ n1_ n2_ n3_; clear hb hbox hg; have hcz5_0 : w4.cell? ⟨gb326, 0, none⟩ = some (.int .i64 a0_0) := (blk_cell BK326.out 0).trans rfl; have hcz5_1 : w4.cell? ⟨gb326, 1, none⟩ = some (.int .i64 a0_1) := (blk_cell BK326.out 1).trans rfl; have hcz5_2 : w4.cell? ⟨gb326, 2, none⟩ = some (.int .i64 a0_2) := (blk_cell BK326.out 2).trans rfl; have hfz5_0 := blk_frozen BK326.out 0; have hfz5_1 := blk_frozen BK326.out 1; have hfz5_2 := blk_frozen BK326.out 2) | ((with_reducible refine gate_callee (f := 51) rfl ?_); refine Rgn.gl (some 6) Try.func51 #[.int .i64 a0_0] ?_; (with_reducible refine (spec_l3GoodSeq.calls a0_0 t327 _ A2.out).mono ?_); rintro e w' ⟨rfl, ⟨nd, rfl⟩⟩; refine ⟨_, rfl, ?_⟩))
  (try simp only [Act.put, List.setIfInBounds_toArray, List.set_cons_zero, List.set_cons_succ])
  go_cut [28] (fun v28 wc => ∃ (kq : Nat) (x28_2 : Bool), v28 = .bool x28_2 ∧ Aside0 (spec_EncodeCommit.j0 kq x28_2 a0_0 a0_1 a0_2 = some r) ∧ Aside0 (kq ≤ k) ∧ Aside0 (wc.heap[gb326]? = some (.cells #[.int .i64 a0_0, .int .i64 a0_1, .int .i64 a0_2] 83 (0, 0))) ∧ Aside0 (Below w.heap.size w wc))
  case first =>
    have H := HC3.out
    clear HC3
    by_cases c6 : t327 = true
    · subst c6
      have H1 : (if a0_1 < 1 then (spec_EncodeCommit.j0 k true a0_0 a0_1 a0_2) else (if a0_1 ≥ 512 then (spec_EncodeCommit.j0 k true a0_0 a0_1 a0_2) else (if a0_2 < 0 then (spec_EncodeCommit.j0 k true a0_0 a0_1 a0_2) else (spec_EncodeCommit.j0 k (decide (a0_2 > 4294967295)) a0_0 a0_1 a0_2)))) = some r := by rw [if_pos rfl] at H; exact H
      clear H
      have H := H1
      clear H1
      by_cases c7 : a0_1 < 1
      · rw [if_pos c7] at H
        have c7b0 : decide (a0_1 < 1) = true := decide_eq_true c7
        clear c7
        (first | rw [c7b0] | (simp only [i64_w, i32_w]; rw [c7b0]) | skip)
        have H' := Aside0.mk H
        clear H
        have hcz8_0 : w4.cell? ⟨gb326, 0, none⟩ = some (.int .i64 a0_0) := (blk_cell BK326.out 0).trans rfl
        have hcz8_1 : w4.cell? ⟨gb326, 1, none⟩ = some (.int .i64 a0_1) := (blk_cell BK326.out 1).trans rfl
        have hcz8_2 : w4.cell? ⟨gb326, 2, none⟩ = some (.int .i64 a0_2) := (blk_cell BK326.out 2).trans rfl
        have hfz8_0 := blk_frozen BK326.out 0
        have hfz8_1 := blk_frozen BK326.out 1
        have hfz8_2 := blk_frozen BK326.out 2
        go_wp2
        go_meet
        case rel => exact ⟨_, (true), (by first | rfl | (simp; done) | (simp [*]; done)), H', ⟨by first | omega | exact Nat.le_refl _⟩, ⟨Rgn.kb BK326.out⟩, ⟨Rgn.bq HB.out⟩⟩
      · rw [if_neg c7] at H
        have c7b0 : decide (a0_1 < 1) = false := decide_eq_false c7
        clear c7
        (first | rw [c7b0] | (simp only [i64_w, i32_w]; rw [c7b0]) | skip)
        by_cases c9 : a0_1 ≥ 512
        · rw [if_pos c9] at H
          have c9b0 : decide (512 ≤ a0_1) = true := decide_eq_true c9
          clear c9
          have H' := Aside0.mk H
          clear H
          have hcz10_0 : w4.cell? ⟨gb326, 0, none⟩ = some (.int .i64 a0_0) := (blk_cell BK326.out 0).trans rfl
          have hcz10_1 : w4.cell? ⟨gb326, 1, none⟩ = some (.int .i64 a0_1) := (blk_cell BK326.out 1).trans rfl
          have hcz10_2 : w4.cell? ⟨gb326, 2, none⟩ = some (.int .i64 a0_2) := (blk_cell BK326.out 2).trans rfl
          have hfz10_0 := blk_frozen BK326.out 0
          have hfz10_1 := blk_frozen BK326.out 1
          have hfz10_2 := blk_frozen BK326.out 2
          go_wp2
          go_meet
          case rel => exact ⟨_, (true), (by first | rfl | (simp; done) | (simp [*]; done)), H', ⟨by first | omega | exact Nat.le_refl _⟩, ⟨Rgn.kb BK326.out⟩, ⟨Rgn.bq HB.out⟩⟩
        · rw [if_neg c9] at H
          have c9b0 : decide (512 ≤ a0_1) = false := decide_eq_false c9
          clear c9
          by_cases c11 : a0_2 < 0
          · rw [if_pos c11] at H
            have c11b0 : decide (a0_2 < 0) = true := decide_eq_true c11
            clear c11
            have H' := Aside0.mk H
            clear H
            have hcz12_0 : w4.cell? ⟨gb326, 0, none⟩ = some (.int .i64 a0_0) := (blk_cell BK326.out 0).trans rfl
            have hcz12_1 : w4.cell? ⟨gb326, 1, none⟩ = some (.int .i64 a0_1) := (blk_cell BK326.out 1).trans rfl
            have hcz12_2 : w4.cell? ⟨gb326, 2, none⟩ = some (.int .i64 a0_2) := (blk_cell BK326.out 2).trans rfl
            have hfz12_0 := blk_frozen BK326.out 0
            have hfz12_1 := blk_frozen BK326.out 1
            have hfz12_2 := blk_frozen BK326.out 2
            go_wp2
            go_meet
            case rel => exact ⟨_, (true), (by first | rfl | (simp; done) | (simp [*]; done)), H', ⟨by first | omega | exact Nat.le_refl _⟩, ⟨Rgn.kb BK326.out⟩, ⟨Rgn.bq HB.out⟩⟩
          · rw [if_neg c11] at H
            have c11b0 : decide (a0_2 < 0) = false := decide_eq_false c11
            clear c11
            have H' := Aside0.mk H
            clear H
            have hcz13_0 : w4.cell? ⟨gb326, 0, none⟩ = some (.int .i64 a0_0) := (blk_cell BK326.out 0).trans rfl
            have hcz13_1 : w4.cell? ⟨gb326, 1, none⟩ = some (.int .i64 a0_1) := (blk_cell BK326.out 1).trans rfl
            have hcz13_2 : w4.cell? ⟨gb326, 2, none⟩ = some (.int .i64 a0_2) := (blk_cell BK326.out 2).trans rfl
            have hfz13_0 := blk_frozen BK326.out 0
            have hfz13_1 := blk_frozen BK326.out 1
            have hfz13_2 := blk_frozen BK326.out 2
            go_wp2
            go_meet
            case rel => exact ⟨_, (decide (a0_2 > 4294967295)), (by first | rfl | (simp; done) | (simp [*]; done)), H', ⟨by first | omega | exact Nat.le_refl _⟩, ⟨Rgn.kb BK326.out⟩, ⟨Rgn.bq HB.out⟩⟩
    · replace c6 := Bool.eq_false_iff.mpr c6
      subst c6
      have H1 : (spec_EncodeCommit.j0 k true a0_0 a0_1 a0_2) = some r := by rw [if_neg (show ¬ (false = true) by decide)] at H; exact H
      clear H
      have H := H1
      clear H1
      have H' := Aside0.mk H
      clear H
      go_wp2
      go_meet
      case rel => exact ⟨_, (true), (by first | rfl | (simp; done) | (simp [*]; done)), H', ⟨by first | omega | exact Nat.le_refl _⟩, ⟨Rgn.kb BK326.out⟩, ⟨Rgn.bq HB.out⟩⟩
  case rest =>
    clear HC3
    try clear c1
    try clear p2
    try clear c5
    try clear c6
    try clear c7
    try clear c7b0
    try clear c9
    try clear c9b0
    try clear c11
    try clear c11b0
    try clear hcz10_0
    try clear hcz10_1
    try clear hcz10_2
    try clear hcz12_0
    try clear hcz12_1
    try clear hcz12_2
    try clear hcz13_0
    try clear hcz13_1
    try clear hcz13_2
    try clear hcz5_0
    try clear hcz5_1
    try clear hcz5_2
    try clear hcz8_0
    try clear hcz8_1
    try clear hcz8_2
    try clear hfz10_0
    try clear hfz10_1
    try clear hfz10_2
    try clear hfz12_0
    try clear hfz12_1
    try clear hfz12_2
    try clear hfz13_0
    try clear hfz13_1
    try clear hfz13_2
    try clear hfz5_0
    try clear hfz5_1
    try clear hfz5_2
    try clear hfz8_0
    try clear hfz8_1
    try clear hfz8_2
    obtain ⟨kq, x28_2, rfl, HA, HJ2, BK326, HB⟩ := hcut
    cases kq with
    | zero => exact absurd HA.out (by simp [spec_EncodeCommit.j0])
    | succ kj2 =>
      have H := HA.out
      clear HA
      simp only [spec_EncodeCommit.j0] at H
      by_cases c14 : x28_2 = true
      · subst c14
        have H1 : (some (([] : List Int))) = some r := by rw [if_pos rfl] at H; exact H
        clear H
        have H := H1
        clear H1
        obtain ⟨y328, hy328⟩ : ∃ y_ : List Int, y_ = (([] : List Int)) := ⟨_, rfl⟩
        replace H : (some y328) = some r := by first | (rw [hy328]; with_reducible exact H) | (have H2_ := (Option.bind_some _ _).symm.trans H; rw [hy328]; with_reducible exact H2_) | (have H2_ := (Option.bind_some _ _).symm.trans H; with_reducible exact H2_) | with_reducible exact H | (rw [hy328]; exact H) | exact H
        have Ny328 := Aside0.mk hy328
        clear hy328
        obtain rfl := Option.some.inj H
        go_wp2_with (first | ((with_reducible refine gate_dst (N := 29) rfl ?_); refine Kd.R_lit (Kd.int .u8) _ 5 ?hg (N := 29) ?hd (xs := ([] : List Int)) (inner := []) (ok := fun _ => True) (okp := fun _ => True) ?hr ?hp (fun _ hk => hk) trivial (Below.refl _ _) (Nat.le_refl _) (by simp) ?_; (case hd => rfl); (case hg => rfl); (case hr => first | (go_simp; done) | (go_simp; rfl)); (case hp => exact (Reps.none _ _)); intro v329 w15 ho16 hb hg_ hnew_; clear hg_ hnew_; (first | rw [← Ny328.out] at ho16 | (simp only [Int.reduceToNat] at ho16; rw [← Ny328.out] at ho16)); have n0_ := Aside0.mk (Kd.R_lower ho16 (below_size (Rgn.bq HB.out))); have n1_ := Aside0.mk (Rgn.bb BK326.out hb); have n2_ := Aside0.mk (below_step (Rgn.bq HB.out) hb); clear BK326; clear HB; have HO330 := n0_; have BK326 := n1_; have HB := n2_; clear n0_ n1_ n2_; clear hb ho16))
        go_ret
        exact ⟨_, by first | rfl | (simp [errW_none, errW_some] <;> rfl) | (simp [*, errW_none, errW_some] <;> rfl), Rgn.rq HO330.out, Rgn.bq HB.out⟩
      · replace c14 := Bool.eq_false_iff.mpr c14
        subst c14
        have H1 : ((spec_l3Head.f kj2 4 a0_1 a0_0).bind fun t331 => ((spec_PutNumber.f kj2 a0_2 4).bind fun t334 => ((spec_l2Join.f t331 t334).bind fun t337 => ((spec_l3Pad.f t337).bind fun t340 => (some t340))))) = some r := by rw [if_neg (show ¬ (false = true) by decide)] at H; exact H
        clear H
        have H := H1
        clear H1
        replace H := Option.bind_eq_some_iff.mp H
        obtain ⟨t331, A170, H⟩ := H
        replace H : ((spec_PutNumber.f kj2 a0_2 4).bind fun t334 => ((spec_l2Join.f t331 t334).bind fun t337 => ((spec_l3Pad.f t337).bind fun t340 => (some t340)))) = some r := H
        have A17 := Aside0.mk A170
        clear A170
        replace H := Option.bind_eq_some_iff.mp H
        obtain ⟨t334, A180, H⟩ := H
        replace H : ((spec_l2Join.f t331 t334).bind fun t337 => ((spec_l3Pad.f t337).bind fun t340 => (some t340))) = some r := H
        have A18 := Aside0.mk A180
        clear A180
        replace H := Option.bind_eq_some_iff.mp H
        obtain ⟨t337, A190, H⟩ := H
        replace H : ((spec_l3Pad.f t337).bind fun t340 => (some t340)) = some r := H
        have A19 := Aside0.mk A190
        clear A190
        replace H := Option.bind_eq_some_iff.mp H
        obtain ⟨t340, A200, H⟩ := H
        replace H : (some t340) = some r := H
        have A20 := Aside0.mk A200
        clear A200
        obtain rfl := Option.some.inj H
        try go_wp2
        have n0_ := Aside0.mk (blk_drew BK326.out)
        have n1_ := Aside0.mk (below_drew1 HB.out)
        clear BK326
        clear HB
        have BK326 := n0_
        have HB := n1_
        clear n0_ n1_
        refine start_ (n := 11) (S := fun w' => w'.cell? ⟨gb326, 0, none⟩ = some (.int .i64 a0_0) ∧ w'.cell? ⟨gb326, 1, none⟩ = some (.int .i64 a0_1) ∧ w'.cell? ⟨gb326, 2, none⟩ = some (.int .i64 a0_2)) (ds := []) #[false, false, false, false, false, false, false, false, false, false, false] (by kernel_rfl) rfl rfl ⟨(blk_cell BK326.out 0).trans rfl, (blk_cell BK326.out 1).trans rfl, (blk_cell BK326.out 2).trans rfl⟩ (fun hHeld => ?_); refine with_tabW spec_EncodeCommit.tab4 spec_EncodeCommit.bits4 (fun HT_ HW_ => ?_)
        generalize wc.drew = w21 at BK326 HB hHeld ⊢
        refine Rgn.pu HT_.out 0 30 ?_
        refine Rgn.pu HT_.out 2 32 ?_
        refine Rgn.pu HT_.out 5 35 ?_
        refine Rgn.tk HT_.out HW_.out 1 31 hHeld ?_
        refine Rgn.tk HT_.out HW_.out 3 33 hHeld ?_
        refine Rgn.tk HT_.out HW_.out 6 36 hHeld ?_
        refine one_ (i := 4) (N := some 34) #[true, true, true, true, true, true, true, false, false, false, false] rfl rfl (one_of HT_.out (by kernel_rfl)) (by decide) (fun K hK => ?_)
        refine Rgn.gs Try.func70 #[.int .i64 4, .int .i64 a0_1, .int .i64 a0_0] ?_
        with_reducible refine (spec_l3Head.calls kj2 4 a0_1 a0_0 t331 _ A17.out).mono ?_
        rintro e w22 ⟨v332, rfl, ho0, hb⟩
        refine ⟨_, rfl, ?_⟩
        have n0_ := Aside0.mk (Kd.R_lower ho0 (below_size (Rgn.bq HB.out)))
        have n1_ := Aside0.mk (Rgn.bb BK326.out hb)
        have n2_ := Aside0.mk (below_step (Rgn.bq HB.out) hb)
        clear BK326
        clear HB
        have HO333 := n0_
        have BK326 := n1_
        have HB := n2_
        clear n0_ n1_ n2_
        (try clear hb)
        (try clear hb2)
        (try clear hk)
        (try clear hi)
        (try clear ho0)
        refine hK.out _ _ ⟨(blk_cell BK326.out 0).trans rfl, (blk_cell BK326.out 1).trans rfl, (blk_cell BK326.out 2).trans rfl⟩ (fun hHeld => ?_)
        clear hK K
        refine norm_ (a' := ?_) ?_ ?_
        rotate_left
        · show Act.put _ (some 34) _ = _
          simp only [Act.put, List.setIfInBounds_toArray, List.set_cons_zero, List.set_cons_succ, i64_w, i32_w]
          rfl
        refine one_ (i := 7) (N := some 37) #[true, true, true, true, true, true, true, true, false, false, false] rfl rfl (one_of HT_.out (by kernel_rfl)) (by decide) (fun K hK => ?_)
        refine Rgn.gs Try.func71 #[.int .i64 a0_2, .int .i64 4] ?_
        with_reducible refine (spec_PutNumber.calls kj2 a0_2 4 t334 _ A18.out).mono ?_
        rintro e w23 ⟨v335, rfl, ho0, hb⟩
        refine ⟨_, rfl, ?_⟩
        have n0_ := Aside0.mk (Kd.R_elder' (Rgn.rq HO333.out) (Kd.R_base ho0) hb)
        have n1_ := Aside0.mk (Kd.R_lower (Kd.R_new' ho0 (Kd.R_lt (Rgn.rq HO333.out))) (below_size (Rgn.bq HB.out)))
        have n2_ := Aside0.mk (Rgn.bb BK326.out hb)
        have n3_ := Aside0.mk (below_step (Rgn.bq HB.out) hb)
        clear HO333
        clear BK326
        clear HB
        have HO333 := n0_
        have HO336 := n1_
        have BK326 := n2_
        have HB := n3_
        clear n0_ n1_ n2_ n3_
        (try clear hb)
        (try clear hb2)
        (try clear hk)
        (try clear hi)
        (try clear ho0)
        obtain ⟨Ao24, co24, eo24⟩ := Kd.R_slice HO333.out
        (first | subst eo24 | (injection eo24 with f1_ f2_ f3_; have f4_ := f1_.symm; have f5_ := f3_.symm; clear f1_ f2_ f3_; subst f4_; subst f5_))
        obtain ⟨Ao25, co25, eo25⟩ := Kd.R_slice HO336.out
        (first | subst eo25 | (injection eo25 with f1_ f2_ f3_; have f4_ := f1_.symm; have f5_ := f3_.symm; clear f1_ f2_ f3_; subst f4_; subst f5_))
        refine hK.out _ _ ⟨(blk_cell BK326.out 0).trans rfl, (blk_cell BK326.out 1).trans rfl, (blk_cell BK326.out 2).trans rfl⟩ (fun hHeld => ?_)
        clear hK K
        refine norm_ (a' := ?_) ?_ ?_
        rotate_left
        · show Act.put _ (some 37) _ = _
          simp only [Act.put, List.setIfInBounds_toArray, List.set_cons_zero, List.set_cons_succ, i64_w, i32_w]
          rfl
        refine one_ (i := 8) (N := some 38) #[true, true, true, true, true, true, true, true, true, false, false] rfl rfl (one_of HT_.out (by kernel_rfl)) (by decide) (fun K hK => ?_)
        refine Rgn.gs Try.func57 #[.slice Ao24 t331.length co24, .slice Ao25 t334.length co25] ?_
        with_reducible refine (spec_l2Join.calls _ _ t331 _ _ t334 t337 _ ?side1 ?side2 ?side3 ?side4 A19.out).mono ?_
        (case side1 => exact Rgn.cq (Kd.R_reads' HO333.out).2.2)
        (case side2 => exact (Kd.R_reads' HO333.out).2.1)
        (case side3 => exact Rgn.cq (Kd.R_reads' HO336.out).2.2)
        (case side4 => exact (Kd.R_reads' HO336.out).2.1)
        rintro e w26 ⟨v338, rfl, ho0, hb⟩
        refine ⟨_, rfl, ?_⟩
        have n0_ := Aside0.mk (Kd.R_elder' (Rgn.rq HO333.out) (Kd.R_base ho0) hb)
        have n1_ := Aside0.mk (Kd.R_elder' (Rgn.rq HO336.out) (Kd.R_base ho0) hb)
        have n2_ := Aside0.mk (Kd.R_lower (Kd.R_new' (Kd.R_new' ho0 (Kd.R_lt (Rgn.rq HO333.out))) (Kd.R_lt (Rgn.rq HO336.out))) (below_size (Rgn.bq HB.out)))
        have n3_ := Aside0.mk (Rgn.bb BK326.out hb)
        have n4_ := Aside0.mk (below_step (Rgn.bq HB.out) hb)
        clear HO333
        clear HO336
        clear BK326
        clear HB
        have HO333 := n0_
        have HO336 := n1_
        have HO339 := n2_
        have BK326 := n3_
        have HB := n4_
        clear n0_ n1_ n2_ n3_ n4_
        (try clear hb)
        (try clear hb2)
        (try clear hk)
        (try clear hi)
        (try clear ho0)
        obtain ⟨Ao27, co27, eo27⟩ := Kd.R_slice HO339.out
        (first | subst eo27 | (injection eo27 with f1_ f2_ f3_; have f4_ := f1_.symm; have f5_ := f3_.symm; clear f1_ f2_ f3_; subst f4_; subst f5_))
        refine hK.out _ _ ⟨(blk_cell BK326.out 0).trans rfl, (blk_cell BK326.out 1).trans rfl, (blk_cell BK326.out 2).trans rfl⟩ (fun hHeld => ?_)
        clear hK K
        refine norm_ (a' := ?_) ?_ ?_
        rotate_left
        · show Act.put _ (some 38) _ = _
          simp only [Act.put, List.setIfInBounds_toArray, List.set_cons_zero, List.set_cons_succ, i64_w, i32_w]
          rfl
        refine one_ (i := 9) (N := some 39) #[true, true, true, true, true, true, true, true, true, true, false] rfl rfl (one_of HT_.out (by kernel_rfl)) (by decide) (fun K hK => ?_)
        refine Rgn.gs Try.func69 #[.slice Ao27 t337.length co27] ?_
        with_reducible refine (spec_l3Pad.calls _ _ t337 t340 _ ?side1 ?side2 A20.out).mono ?_
        (case side1 => exact Rgn.cq (Kd.R_reads' HO339.out).2.2)
        (case side2 => exact (Kd.R_reads' HO339.out).2.1)
        rintro e w28 ⟨v341, rfl, ho0, hb⟩
        refine ⟨_, rfl, ?_⟩
        have n0_ := Aside0.mk (Kd.R_elder' (Rgn.rq HO333.out) (Kd.R_base ho0) hb)
        have n1_ := Aside0.mk (Kd.R_elder' (Rgn.rq HO336.out) (Kd.R_base ho0) hb)
        have n2_ := Aside0.mk (Kd.R_elder' (Rgn.rq HO339.out) (Kd.R_base ho0) hb)
        have n3_ := Aside0.mk (Kd.R_lower (Kd.R_new' (Kd.R_new' (Kd.R_new' ho0 (Kd.R_lt (Rgn.rq HO333.out))) (Kd.R_lt (Rgn.rq HO336.out))) (Kd.R_lt (Rgn.rq HO339.out))) (below_size (Rgn.bq HB.out)))
        have n4_ := Aside0.mk (Rgn.bb BK326.out hb)
        have n5_ := Aside0.mk (below_step (Rgn.bq HB.out) hb)
        clear HO333
        clear HO336
        clear HO339
        clear BK326
        clear HB
        have HO333 := n0_
        have HO336 := n1_
        have HO339 := n2_
        have HO342 := n3_
        have BK326 := n4_
        have HB := n5_
        clear n0_ n1_ n2_ n3_ n4_ n5_
        (try clear hb)
        (try clear hb2)
        (try clear hk)
        (try clear hi)
        (try clear ho0)
        refine hK.out _ _ ⟨(blk_cell BK326.out 0).trans rfl, (blk_cell BK326.out 1).trans rfl, (blk_cell BK326.out 2).trans rfl⟩ (fun hHeld => ?_)
        clear hK K
        refine norm_ (a' := ?_) ?_ ?_
        rotate_left
        · show Act.put _ (some 39) _ = _
          simp only [Act.put, List.setIfInBounds_toArray, List.set_cons_zero, List.set_cons_succ, i64_w, i32_w]
          rfl
        refine Rgn.pu HT_.out 10 2 ?_
        refine done_ (done_of HT_.out (by kernel_rfl)) ?_
        try go_wp2
        go_ret
        exact ⟨_, by first | rfl | (simp [errW_none, errW_some] <;> rfl) | (simp [*, errW_none, errW_some] <;> rfl), by (with_reducible repeat (first | apply Kd.R_alloc | apply Kd.R_drewN | apply Kd.R_drew)); exact Kd.R_mono HO342.out (fun _ hk => trivial), Rgn.bq HB.out⟩

/-! ### spec_TxnBlocks: function 43 -/
def spec_TxnBlocks.f (k : Nat) (a0_0 : Int) (l0_1 : List (S61)) (l0_2 : List Int) : Option (List Int) := (spec_ValidTxn.f k a0_0 l0_1 l0_2).bind fun t344 => (if t344 = true then ((spec_l4Body.f k a0_0 l0_1 l0_2).bind fun t348 => ((spec_Crc.f k t348).bind fun t351 => ((spec_EncodeCommit.f k a0_0 (wrap64 ((t348.length : Int) / 64)) t351).bind fun t353 => ((spec_l2Join.f t348 t353).bind fun t356 => (some t356))))) else (some (([] : List Int))))
theorem spec_TxnBlocks.mono : ∀ a0 a1 a2 k, LeO (spec_TxnBlocks.f k a0 a1 a2) (spec_TxnBlocks.f (k + 1) a0 a1 a2) := by
  intro a0 a1 a2 k
  unfold spec_TxnBlocks.f
  repeat' first
      | (with_reducible exact spec_Crc.mono _ _)
      | (with_reducible exact spec_EncodeCommit.mono _ _ _ _)
      | (with_reducible exact spec_ValidTxn.mono _ _ _ _)
      | (with_reducible exact spec_l4Body.mono _ _ _ _)
      | (with_reducible exact LeO.refl _)
      | (with_reducible exact LeO.none _)
      | (with_reducible refine LeO.ite ?_ ?_)
      | (with_reducible refine LeO.bind ?_ (fun _ => ?_))
      | exact spec_Crc.mono _ _
      | exact spec_EncodeCommit.mono _ _ _ _
      | exact spec_ValidTxn.mono _ _ _ _
      | exact spec_l4Body.mono _ _ _ _
      | exact LeO.none _
      | refine LeO.ite ?_ ?_
      | refine LeO.bind ?_ (fun _ => ?_)
def spec_TxnBlocks.T4 : Bool × List (List Nat × List Nat) := (true, [([], []), ([0], [0]), ([], []), ([2], [2]), ([3], [3]), ([], []), ([5], [5]), ([1, 4, 6], [1, 4, 6]), ([], []), ([8, 7, 6, 0, 1, 2, 3, 4, 5, 6, 7, 8], [7, 8])])
def spec_TxnBlocks.B4 : List Nat := [0, 1, 0, 4, 12, 0, 32, 127, 0, 511]
theorem spec_TxnBlocks.tab4 : rtab .any (opsOf Try.f43 4) = spec_TxnBlocks.T4 := by kernel_rfl
theorem spec_TxnBlocks.bits4 : waitsOk spec_TxnBlocks.T4.2 spec_TxnBlocks.B4 = true := by kernel_rfl
set_option maxHeartbeats 8000000 in
set_option maxRecDepth 100000 in
theorem spec_TxnBlocks.calls (k : Nat) (a0_0 : Int) (A0_1 : Option Addr) (c0_1 : Nat) (l0_1 : List (S61)) (A0_2 : Option Addr) (c0_2 : Nat) (l0_2 : List Int) (r : List Int) (w : World) (hr0_1 : Kd.C k61 w A0_1 l0_1.length l0_1) (hc0_1 : l0_1.length ≤ c0_1) (hr0_2 : Kd.C (Kd.int .i64) w A0_2 l0_2.length l0_2) (hc0_2 : l0_2.length ≤ c0_2) (h : spec_TxnBlocks.f k a0_0 l0_1 l0_2 = some r) :
    Calls Try.prog 43 #[.agg #[.int .i64 a0_0, .slice A0_1 l0_1.length c0_1, .slice A0_2 l0_2.length c0_2]] w fun e w' => ∃ v0_ : Value, e = .returned (v0_) ∧ Kd.R (Kd.int .u8) 5 w' w.heap.size (fun _ => True) v0_ r ∧ Below w.heap.size w w' := by
  have hu34 := Try.underlying34
  have hu83 := Try.underlying83
  have HR0_1 := Aside0.mk hr0_1
  have HC0_1 := Aside0.mk hc0_1
  clear hr0_1 hc0_1
  have HR0_2 := Aside0.mk hr0_2
  have HC0_2 := Aside0.mk hc0_2
  clear hr0_2 hc0_2
  have HB := Aside0.mk (Below.refl w.heap.size w)
  have H : ((spec_ValidTxn.f k a0_0 l0_1 l0_2).bind fun t344 => (if t344 = true then ((spec_l4Body.f k a0_0 l0_1 l0_2).bind fun t348 => ((spec_Crc.f k t348).bind fun t351 => ((spec_EncodeCommit.f k a0_0 (wrap64 ((t348.length : Int) / 64)) t351).bind fun t353 => ((spec_l2Join.f t348 t353).bind fun t356 => (some t356))))) else (some (([] : List Int))))) = some r := h
  clear h
  replace H := Option.bind_eq_some_iff.mp H
  obtain ⟨t344, A20, H⟩ := H
  replace H : (if t344 = true then ((spec_l4Body.f k a0_0 l0_1 l0_2).bind fun t348 => ((spec_Crc.f k t348).bind fun t351 => ((spec_EncodeCommit.f k a0_0 (wrap64 ((t348.length : Int) / 64)) t351).bind fun t353 => ((spec_l2Join.f t348 t353).bind fun t356 => (some t356))))) else (some (([] : List Int)))) = some r := H
  have A2 := Aside0.mk A20
  clear A20
  by_cases c3 : t344 = true
  · subst c3
    have H1 : ((spec_l4Body.f k a0_0 l0_1 l0_2).bind fun t348 => ((spec_Crc.f k t348).bind fun t351 => ((spec_EncodeCommit.f k a0_0 (wrap64 ((t348.length : Int) / 64)) t351).bind fun t353 => ((spec_l2Join.f t348 t353).bind fun t356 => (some t356))))) = some r := by rw [if_pos rfl] at H; exact H
    clear H
    have H := H1
    clear H1
    replace H := Option.bind_eq_some_iff.mp H
    obtain ⟨t348, A40, H⟩ := H
    replace H : ((spec_Crc.f k t348).bind fun t351 => ((spec_EncodeCommit.f k a0_0 (wrap64 ((t348.length : Int) / 64)) t351).bind fun t353 => ((spec_l2Join.f t348 t353).bind fun t356 => (some t356)))) = some r := H
    have A4 := Aside0.mk A40
    clear A40
    replace H := Option.bind_eq_some_iff.mp H
    obtain ⟨t351, A50, H⟩ := H
    replace H : ((spec_EncodeCommit.f k a0_0 (wrap64 ((t348.length : Int) / 64)) t351).bind fun t353 => ((spec_l2Join.f t348 t353).bind fun t356 => (some t356))) = some r := H
    have A5 := Aside0.mk A50
    clear A50
    replace H := Option.bind_eq_some_iff.mp H
    obtain ⟨t353, A60, H⟩ := H
    replace H : ((spec_l2Join.f t348 t353).bind fun t356 => (some t356)) = some r := H
    have A6 := Aside0.mk A60
    clear A60
    replace H := Option.bind_eq_some_iff.mp H
    obtain ⟨t356, A70, H⟩ := H
    replace H : (some t356) = some r := H
    have A7 := Aside0.mk A70
    clear A70
    obtain rfl := Option.some.inj H
    go_enter Try.func43, Try.ntmps43
    try go_wp2_with (first | ((with_reducible refine gate_dst (N := 1) rfl ?_); refine box_event ?hg (N := 1) ?hd (cs := #[.int .i64 a0_0, .slice A0_1 l0_1.length c0_1, .slice A0_2 l0_2.length c0_2]) (t := 34) ?hr ?_; (case hd => rfl); (case hg => rfl); (case hr => first | (go_simp; done) | (go_simp; rfl)); intro gb343 hg w8 hbox hb; have n0_ := Aside0.mk (below_step (Rgn.bq HB.out) hb); have n1_ := Aside0.mk (hbox); have n2_ := Aside0.mk ((by rw [hg]; exact (below_size (Rgn.bq HB.out)) : w.heap.size ≤ gb343)); have n3_ := Aside0.mk ((by rw [hg]; exact (below_size (Rgn.bq HB.out)) : w.heap.size ≤ gb343)); clear HB; have HB := n0_; have BK343 := n1_; have GW343 := n2_; have GE343 := n3_; clear n0_ n1_ n2_ n3_; clear hb hbox hg; have hcz9_0 : w8.cell? ⟨gb343, 0, none⟩ = some (.int .i64 a0_0) := (blk_cell BK343.out 0).trans rfl; have hcz9_1 : w8.cell? ⟨gb343, 1, none⟩ = some (.slice A0_1 l0_1.length c0_1) := (blk_cell BK343.out 1).trans rfl; have hcz9_2 : w8.cell? ⟨gb343, 2, none⟩ = some (.slice A0_2 l0_2.length c0_2) := (blk_cell BK343.out 2).trans rfl; have hfz9_0 := blk_frozen BK343.out 0; have hfz9_1 := blk_frozen BK343.out 1; have hfz9_2 := blk_frozen BK343.out 2) | ((with_reducible refine gate_callee (f := 42) rfl ?_); refine Rgn.gl (some 6) Try.func42 #[.agg #[.int .i64 a0_0, .slice A0_1 l0_1.length c0_1, .slice A0_2 l0_2.length c0_2]] ?_; (with_reducible refine (spec_ValidTxn.calls k a0_0 _ _ l0_1 _ _ l0_2 true _ ?side1 ?side2 ?side3 ?side4 A2.out).mono ?_); (case side1 => exact Rgn.cq (Kd.C_below HR0_1.out HB.out)); (case side2 => exact HC0_1.out); (case side3 => exact Rgn.cq (Kd.C_below HR0_2.out HB.out)); (case side4 => exact HC0_2.out); rintro e w10 ⟨rfl, hb⟩; refine ⟨_, rfl, ?_⟩; have n0_ := Aside0.mk (Rgn.bb BK343.out hb); have n1_ := Aside0.mk (below_step (Rgn.bq HB.out) hb); clear BK343; clear HB; have BK343 := n0_; have HB := n1_; clear n0_ n1_; (try clear hb); (try clear hb2); (try clear hk); (try clear hi); have hcz11_0 : w10.cell? ⟨gb343, 0, none⟩ = some (.int .i64 a0_0) := (blk_cell BK343.out 0).trans rfl; have hcz11_1 : w10.cell? ⟨gb343, 1, none⟩ = some (.slice A0_1 l0_1.length c0_1) := (blk_cell BK343.out 1).trans rfl; have hcz11_2 : w10.cell? ⟨gb343, 2, none⟩ = some (.slice A0_2 l0_2.length c0_2) := (blk_cell BK343.out 2).trans rfl; have hfz11_0 := blk_frozen BK343.out 0; have hfz11_1 := blk_frozen BK343.out 1; have hfz11_2 := blk_frozen BK343.out 2) | ((with_reducible refine gate_callee (f := 55) rfl ?_); refine Rgn.gl (some 10) Try.func55 #[.agg #[.int .i64 a0_0, .slice A0_1 l0_1.length c0_1, .slice A0_2 l0_2.length c0_2]] ?_; (with_reducible refine (spec_l4Body.calls k a0_0 _ _ l0_1 _ _ l0_2 t348 _ ?side1 ?side2 ?side3 ?side4 A4.out).mono ?_); (case side1 => exact Rgn.cq (Kd.C_below HR0_1.out HB.out)); (case side2 => exact HC0_1.out); (case side3 => exact Rgn.cq (Kd.C_below HR0_2.out HB.out)); (case side4 => exact HC0_2.out); rintro e w12 ⟨v349, rfl, ho0, hb⟩; refine ⟨_, rfl, ?_⟩; have n0_ := Aside0.mk (Kd.R_lower ho0 (below_size (Rgn.bq HB.out))); have n1_ := Aside0.mk (Rgn.bb BK343.out hb); have n2_ := Aside0.mk (below_step (Rgn.bq HB.out) hb); clear BK343; clear HB; have HO350 := n0_; have BK343 := n1_; have HB := n2_; clear n0_ n1_ n2_; (try clear hb); (try clear hb2); (try clear hk); (try clear hi); (try clear ho0); obtain ⟨Ao13, co13, eo13⟩ := Kd.R_slice HO350.out; subst eo13))
    have n0_ := Aside0.mk (Kd.R_drew HO350.out)
    have n1_ := Aside0.mk (blk_drew BK343.out)
    have n2_ := Aside0.mk (below_drew1 HB.out)
    clear HO350
    clear BK343
    clear HB
    have HO350 := n0_
    have BK343 := n1_
    have HB := n2_
    clear n0_ n1_ n2_
    refine start_ (n := 10) (S := fun w' => w'.cell? ⟨gb343, 0, none⟩ = some (.int .i64 a0_0) ∧ w'.cell? ⟨gb343, 1, none⟩ = some (.slice A0_1 l0_1.length c0_1) ∧ w'.cell? ⟨gb343, 2, none⟩ = some (.slice A0_2 l0_2.length c0_2)) (ds := []) #[false, false, false, false, false, false, false, false, false, false] (by kernel_rfl) rfl rfl ⟨(blk_cell BK343.out 0).trans rfl, (blk_cell BK343.out 1).trans rfl, (blk_cell BK343.out 2).trans rfl⟩ (fun hHeld => ?_); refine with_tabW spec_TxnBlocks.tab4 spec_TxnBlocks.bits4 (fun HT_ HW_ => ?_)
    generalize w12.drew = w14 at HO350 BK343 HB hHeld ⊢
    refine Rgn.pu HT_.out 0 11 ?_
    refine Rgn.pu HT_.out 2 13 ?_
    refine Rgn.pu HT_.out 3 14 ?_
    refine Rgn.pu HT_.out 4 15 ?_
    refine Rgn.pu HT_.out 5 16 ?_
    refine Rgn.tk HT_.out HW_.out 1 12 hHeld ?_
    refine join_ (σ := Nat) 1 #[true, true, true, true, true, true, true, true, true, false] (fun s_ => [(17, .int .i64 t351), (4, .pointer (some ⟨s_, 0, none⟩)), (18, .agg #[.int .i64 a0_0, .int .i64 (wrap64 ((t348.length : Int) / 64)), .int .i64 t351])]) (fun s_ w' => (w'.cell? ⟨gb343, 0, none⟩ = some (.int .i64 a0_0) ∧ w'.cell? ⟨gb343, 1, none⟩ = some (.slice A0_1 l0_1.length c0_1) ∧ w'.cell? ⟨gb343, 2, none⟩ = some (.slice A0_2 l0_2.length c0_2)) ∧ (Kd.R (Kd.int .u8) 5 w' w.heap.size (fun _ => True) (.slice Ao13 t348.length co13) t348) ∧ (w'.heap[gb343]? = some (.cells #[.int .i64 a0_0, .slice A0_1 l0_1.length c0_1, .slice A0_2 l0_2.length c0_2] 34 (0, 0))) ∧ (w'.heap[s_]? = some (.cells #[.int .i64 0, .int .i64 0, .int .i64 0] 83 (0, 0))) ∧ (w.heap.size ≤ s_) ∧ (w.heap.size ≤ s_) ∧ (gb343 ≠ s_) ∧ (s_ ≠ gb343) ∧ (Below w.heap.size w w')) ?_ ?_
    rotate_left
    · intro hCont
      refine two_ (i := 6) (j := 8) (Ni := some 17) (Nj := some 4) #[true, true, true, true, true, true, true, false, false, false] #[true, true, true, true, true, true, false, false, true, false] rfl rfl rfl rfl (two_of HT_.out (by kernel_rfl)) (by decide) (by decide) (fun K hK => ?_) (fun K hK => ?_)
      · skip
        refine Rgn.gs Try.func56 #[.slice Ao13 t348.length co13] ?_
        with_reducible refine (spec_Crc.calls k _ _ t348 t351 _ ?side1 ?side2 A5.out).mono ?_
        (case side1 => exact Rgn.cq (Kd.R_reads' HO350.out).2.2)
        (case side2 => exact (Kd.R_reads' HO350.out).2.1)
        rintro e w' ⟨rfl, ⟨nd, rfl⟩⟩
        refine ⟨_, rfl, ?_⟩
        refine hK.out _ _ ⟨(blk_cell BK343.out 0).trans rfl, (blk_cell BK343.out 1).trans rfl, (blk_cell BK343.out 2).trans rfl⟩ (fun hHeld => ?_)
        clear hK K
        refine norm_ (a' := ?_) ?_ ?_
        rotate_left
        · show Act.put _ (some 17) _ = _
          simp only [Act.put, List.setIfInBounds_toArray, List.set_cons_zero, List.set_cons_succ, i64_w, i32_w]
          rfl
        refine Rgn.pu HT_.out 7 18 ?_
        refine one_ (i := 8) (N := some 4) #[true, true, true, true, true, true, true, true, true, false] rfl rfl (one_of HT_.out (by kernel_rfl)) (by decide) (fun K hK => ?_)
        refine box_step ?hg (N := 4) ?hd (cs := #[.int .i64 0, .int .i64 0, .int .i64 0]) (t := 83) ?hr ?_; (case hd => rfl); (case hg => rfl); (case hr => first | (go_simp; done) | (go_simp; rfl))
        intro gb352 hg w15 hbox hb
        have n0_ := Aside0.mk (Kd.R_below (Rgn.rq HO350.out) hb)
        have n1_ := Aside0.mk (Rgn.bb BK343.out hb)
        have n2_ := Aside0.mk (below_step (Rgn.bq HB.out) hb)
        have n3_ := Aside0.mk (hbox)
        have n4_ := Aside0.mk ((by rw [hg]; exact (below_size (Rgn.bq HB.out)) : w.heap.size ≤ gb352))
        have n5_ := Aside0.mk ((by rw [hg]; exact (below_size (Rgn.bq HB.out)) : w.heap.size ≤ gb352))
        have n6_ := Aside0.mk ((by rw [hg]; exact Nat.ne_of_lt (blk_lt (g := gb343) (o := .cells #[.int .i64 a0_0, .slice A0_1 l0_1.length c0_1, .slice A0_2 l0_2.length c0_2] 34 (0, 0)) (Rgn.kb BK343.out)) : gb343 ≠ gb352))
        have n7_ := Aside0.mk ((by rw [hg]; exact Nat.ne_of_gt (blk_lt (g := gb343) (o := .cells #[.int .i64 a0_0, .slice A0_1 l0_1.length c0_1, .slice A0_2 l0_2.length c0_2] 34 (0, 0)) (Rgn.kb BK343.out)) : gb352 ≠ gb343))
        clear HO350
        clear BK343
        clear HB
        have HO350 := n0_
        have BK343 := n1_
        have HB := n2_
        have BK352 := n3_
        have GW352 := n4_
        have GE352 := n5_
        have NB343_352 := n6_
        have NB352_343 := n7_
        clear n0_ n1_ n2_ n3_ n4_ n5_ n6_ n7_
        clear hb hbox hg
        refine hK.out _ _ ⟨(blk_cell BK343.out 0).trans rfl, (blk_cell BK343.out 1).trans rfl, (blk_cell BK343.out 2).trans rfl⟩ (fun hHeld => ?_)
        clear hK K
        refine norm_ (a' := ?_) ?_ ?_
        rotate_left
        · show Act.put _ (some 4) _ = _
          simp only [Act.put, List.setIfInBounds_toArray, List.set_cons_zero, List.set_cons_succ, i64_w, i32_w]
          rfl
        exact norm_ (by simp only [putAll, Act.put, List.setIfInBounds_toArray, List.set_cons_zero, List.set_cons_succ]) (hCont (gb352) _ ⟨hHeld, (Rgn.rq HO350.out), (Rgn.kb BK343.out), (Rgn.kb BK352.out), GW352.out, GE352.out, NB343_352.out, NB352_343.out, (Rgn.bq HB.out)⟩)
      · skip
        refine box_step ?hg (N := 4) ?hd (cs := #[.int .i64 0, .int .i64 0, .int .i64 0]) (t := 83) ?hr ?_; (case hd => rfl); (case hg => rfl); (case hr => first | (go_simp; done) | (go_simp; rfl))
        intro gb352 hg w15 hbox hb
        have n0_ := Aside0.mk (Kd.R_below (Rgn.rq HO350.out) hb)
        have n1_ := Aside0.mk (Rgn.bb BK343.out hb)
        have n2_ := Aside0.mk (below_step (Rgn.bq HB.out) hb)
        have n3_ := Aside0.mk (hbox)
        have n4_ := Aside0.mk ((by rw [hg]; exact (below_size (Rgn.bq HB.out)) : w.heap.size ≤ gb352))
        have n5_ := Aside0.mk ((by rw [hg]; exact (below_size (Rgn.bq HB.out)) : w.heap.size ≤ gb352))
        have n6_ := Aside0.mk ((by rw [hg]; exact Nat.ne_of_lt (blk_lt (g := gb343) (o := .cells #[.int .i64 a0_0, .slice A0_1 l0_1.length c0_1, .slice A0_2 l0_2.length c0_2] 34 (0, 0)) (Rgn.kb BK343.out)) : gb343 ≠ gb352))
        have n7_ := Aside0.mk ((by rw [hg]; exact Nat.ne_of_gt (blk_lt (g := gb343) (o := .cells #[.int .i64 a0_0, .slice A0_1 l0_1.length c0_1, .slice A0_2 l0_2.length c0_2] 34 (0, 0)) (Rgn.kb BK343.out)) : gb352 ≠ gb343))
        clear HO350
        clear BK343
        clear HB
        have HO350 := n0_
        have BK343 := n1_
        have HB := n2_
        have BK352 := n3_
        have GW352 := n4_
        have GE352 := n5_
        have NB343_352 := n6_
        have NB352_343 := n7_
        clear n0_ n1_ n2_ n3_ n4_ n5_ n6_ n7_
        clear hb hbox hg
        refine hK.out _ _ ⟨(blk_cell BK343.out 0).trans rfl, (blk_cell BK343.out 1).trans rfl, (blk_cell BK343.out 2).trans rfl⟩ (fun hHeld => ?_)
        clear hK K
        refine norm_ (a' := ?_) ?_ ?_
        rotate_left
        · show Act.put _ (some 4) _ = _
          simp only [Act.put, List.setIfInBounds_toArray, List.set_cons_zero, List.set_cons_succ, i64_w, i32_w]
          rfl
        refine one_ (i := 6) (N := some 17) #[true, true, true, true, true, true, true, false, true, false] rfl rfl (one_of HT_.out (by kernel_rfl)) (by decide) (fun K hK => ?_)
        refine Rgn.gs Try.func56 #[.slice Ao13 t348.length co13] ?_
        with_reducible refine (spec_Crc.calls k _ _ t348 t351 _ ?side1 ?side2 A5.out).mono ?_
        (case side1 => exact Rgn.cq (Kd.R_reads' HO350.out).2.2)
        (case side2 => exact (Kd.R_reads' HO350.out).2.1)
        rintro e w' ⟨rfl, ⟨nd, rfl⟩⟩
        refine ⟨_, rfl, ?_⟩
        refine hK.out _ _ ⟨(blk_cell BK343.out 0).trans rfl, (blk_cell BK343.out 1).trans rfl, (blk_cell BK343.out 2).trans rfl⟩ (fun hHeld => ?_)
        clear hK K
        refine norm_ (a' := ?_) ?_ ?_
        rotate_left
        · show Act.put _ (some 17) _ = _
          simp only [Act.put, List.setIfInBounds_toArray, List.set_cons_zero, List.set_cons_succ, i64_w, i32_w]
          rfl
        refine Rgn.pu HT_.out 7 18 ?_
        exact norm_ (by simp only [putAll, Act.put, List.setIfInBounds_toArray, List.set_cons_zero, List.set_cons_succ]) (hCont (gb352) _ ⟨hHeld, (Rgn.rq HO350.out), (Rgn.kb BK343.out), (Rgn.kb BK352.out), GW352.out, GE352.out, NB343_352.out, NB352_343.out, (Rgn.bq HB.out)⟩)
    rintro gb352 w16 ⟨hS_, h0_, h1_, h2_, h3_, h4_, h5_, h6_, h7_⟩
    have n0_ : Aside0 (Kd.R (Kd.int .u8) 5 w16 w.heap.size (fun _ => True) (.slice Ao13 t348.length co13) t348) := ⟨h0_⟩
    have n1_ : Aside0 (w16.heap[gb343]? = some (.cells #[.int .i64 a0_0, .slice A0_1 l0_1.length c0_1, .slice A0_2 l0_2.length c0_2] 34 (0, 0))) := ⟨h1_⟩
    have n2_ : Aside0 (w16.heap[gb352]? = some (.cells #[.int .i64 0, .int .i64 0, .int .i64 0] 83 (0, 0))) := ⟨h2_⟩
    have n3_ : Aside0 (w.heap.size ≤ gb352) := ⟨h3_⟩
    have n4_ : Aside0 (w.heap.size ≤ gb352) := ⟨h4_⟩
    have n5_ : Aside0 (gb343 ≠ gb352) := ⟨h5_⟩
    have n6_ : Aside0 (gb352 ≠ gb343) := ⟨h6_⟩
    have n7_ : Aside0 (Below w.heap.size w w16) := ⟨h7_⟩
    clear HO350
    clear BK343
    clear HB
    clear h0_ h1_ h2_ h3_ h4_ h5_ h6_ h7_
    have HO350 := n0_
    have BK343 := n1_
    have BK352 := n2_
    have GW352 := n3_
    have GE352 := n4_
    have NB343_352 := n5_
    have NB352_343 := n6_
    have HB := n7_
    clear n0_ n1_ n2_ n3_ n4_ n5_ n6_ n7_
    have hHeld : w16.cell? ⟨gb343, 0, none⟩ = some (.int .i64 a0_0) ∧ w16.cell? ⟨gb343, 1, none⟩ = some (.slice A0_1 l0_1.length c0_1) ∧ w16.cell? ⟨gb343, 2, none⟩ = some (.slice A0_2 l0_2.length c0_2) := hS_
    refine norm_ (a' := ?_) ?_ ?_
    rotate_left
    · simp only [putAll, Act.put, List.setIfInBounds_toArray, List.set_cons_zero, List.set_cons_succ]
      rfl
    refine one_ (i := 9) (N := none) #[true, true, true, true, true, true, true, true, true, true] rfl rfl (one_of HT_.out (by kernel_rfl)) (by decide) (fun K hK => ?_)
    have hs17 : w16.cell? ⟨gb352, 0, none⟩ = some (.int .i64 0) := (blk_cell BK352.out 0).trans rfl
    have hfs17 := blk_frozen BK352.out 0
    have hns17_0 := NB343_352.out
    have hms17_0 := NB352_343.out
    have hs18 : w16.cell? ⟨gb352, 1, none⟩ = some (.int .i64 0) := (blk_cell BK352.out 1).trans rfl
    have hfs18 := blk_frozen BK352.out 1
    have hns18_0 := NB343_352.out
    have hms18_0 := NB352_343.out
    have hs19 : w16.cell? ⟨gb352, 2, none⟩ = some (.int .i64 0) := (blk_cell BK352.out 2).trans rfl
    have hfs19 := blk_frozen BK352.out 2
    have hns19_0 := NB343_352.out
    have hms19_0 := NB352_343.out
    refine skip_ (w1 := ?_) (by rfl) rfl ?_ ?_
    rotate_left
    · go_simp
      rfl
    refine hK.out _ _ ⟨((cell_far (p := ⟨gb352, _, none⟩) NB343_352.out _).trans (((cell_far (p := ⟨gb352, _, none⟩) NB343_352.out _).trans (((cell_far (p := ⟨gb352, _, none⟩) NB343_352.out _).trans (hHeld.1)))))), ((cell_far (p := ⟨gb352, _, none⟩) NB343_352.out _).trans (((cell_far (p := ⟨gb352, _, none⟩) NB343_352.out _).trans (((cell_far (p := ⟨gb352, _, none⟩) NB343_352.out _).trans (hHeld.2.1)))))), ((cell_far (p := ⟨gb352, _, none⟩) NB343_352.out _).trans (((cell_far (p := ⟨gb352, _, none⟩) NB343_352.out _).trans (((cell_far (p := ⟨gb352, _, none⟩) NB343_352.out _).trans (hHeld.2.2))))))⟩ (fun hHeld => ?_)
    clear hK K
    refine done_ (done_of HT_.out (by kernel_rfl)) ?_
    have hnb20 := NB352_343.out
    have hnc20 := NB343_352.out
    have hcz21_0 : w16.cell? ⟨gb352, 0, none⟩ = some (.int .i64 0) := (blk_cell BK352.out 0).trans rfl
    have hcz21_1 : w16.cell? ⟨gb352, 1, none⟩ = some (.int .i64 0) := (blk_cell BK352.out 1).trans rfl
    have hcz21_2 : w16.cell? ⟨gb352, 2, none⟩ = some (.int .i64 0) := (blk_cell BK352.out 2).trans rfl
    have hfz21_0 := blk_frozen BK352.out 0
    have hfz21_1 := blk_frozen BK352.out 1
    have hfz21_2 := blk_frozen BK352.out 2
    try go_wp2_with (first | ((with_reducible refine gate_callee (f := 58) rfl ?_); refine Rgn.gl (some 21) Try.func58 #[.agg #[.int .i64 a0_0, .int .i64 (wrap64 ((t348.length : Int) / 64)), .int .i64 t351]] ?_; (with_reducible refine (spec_EncodeCommit.calls k a0_0 (wrap64 ((t348.length : Int) / 64)) t351 t353 _ A6.out).mono ?_); rintro e w22 ⟨v354, rfl, ho0, hb⟩; refine ⟨_, rfl, ?_⟩; have n0_ := Aside0.mk (Kd.R_elder' (by (with_reducible repeat (first | apply Kd.R_alloc | apply Kd.R_drewN | apply Kd.R_drew)); exact (Kd.R_mono (Kd.R_far (p := ⟨gb352, 2, none⟩) (Kd.R_far (p := ⟨gb352, 1, none⟩) (Kd.R_far (p := ⟨gb352, 0, none⟩) (Kd.R_types HO350.out BK352.out (by decide)) (fun _ hk => hk.2) (.int .i64 a0_0)) (fun _ hk => hk.2) (.int .i64 (wrap64 ((t348.length : Int) / 64)))) (fun _ hk => hk.2) (.int .i64 t351)) (fun _ h_ => h_.1))) (Kd.R_base ho0) hb); have n1_ := Aside0.mk (Kd.R_lower (Kd.R_new' ho0 (Kd.R_lt (by (with_reducible repeat (first | apply Kd.R_alloc | apply Kd.R_drewN | apply Kd.R_drew)); exact (Kd.R_mono (Kd.R_far (p := ⟨gb352, 2, none⟩) (Kd.R_far (p := ⟨gb352, 1, none⟩) (Kd.R_far (p := ⟨gb352, 0, none⟩) (Kd.R_types HO350.out BK352.out (by decide)) (fun _ hk => hk.2) (.int .i64 a0_0)) (fun _ hk => hk.2) (.int .i64 (wrap64 ((t348.length : Int) / 64)))) (fun _ hk => hk.2) (.int .i64 t351)) (fun _ h_ => h_.1))))) (below_size (Rgn.bq HB.out))); have n2_ := Aside0.mk (blk_below (g := gb343) (o := .cells #[.int .i64 a0_0, .slice A0_1 l0_1.length c0_1, .slice A0_2 l0_2.length c0_2] 34 (0, 0)) (by (with_reducible repeat (first | refine blk_drewN ?_ _ | refine blk_drew ?_ | refine blk_alloc ?_ _)); refine blk_far ?_ NB343_352.out _; (with_reducible repeat (first | refine blk_drewN ?_ _ | refine blk_drew ?_ | refine blk_alloc ?_ _)); refine blk_far ?_ NB343_352.out _; (with_reducible repeat (first | refine blk_drewN ?_ _ | refine blk_drew ?_ | refine blk_alloc ?_ _)); refine blk_far ?_ NB343_352.out _; (with_reducible repeat (first | refine blk_drewN ?_ _ | refine blk_drew ?_ | refine blk_alloc ?_ _)); exact BK343.out) hb); have n3_ := Aside0.mk (blk_below (g := gb352) (o := .cells #[.int .i64 a0_0, .int .i64 (wrap64 ((t348.length : Int) / 64)), .int .i64 t351] 83 (0, 0)) (by (with_reducible repeat (first | refine blk_drewN ?_ _ | refine blk_drew ?_ | refine blk_alloc ?_ _)); refine blk_put (cs := #[.int .i64 a0_0, .int .i64 (wrap64 ((t348.length : Int) / 64)), .int .i64 0]) ?_ 2 _ rfl; (with_reducible repeat (first | refine blk_drewN ?_ _ | refine blk_drew ?_ | refine blk_alloc ?_ _)); refine blk_put (cs := #[.int .i64 a0_0, .int .i64 0, .int .i64 0]) ?_ 1 _ rfl; (with_reducible repeat (first | refine blk_drewN ?_ _ | refine blk_drew ?_ | refine blk_alloc ?_ _)); refine blk_put (cs := #[.int .i64 0, .int .i64 0, .int .i64 0]) ?_ 0 _ rfl; (with_reducible repeat (first | refine blk_drewN ?_ _ | refine blk_drew ?_ | refine blk_alloc ?_ _)); exact BK352.out) hb); have n4_ := Aside0.mk (below_step (Rgn.bq HB.out) hb); clear HO350; clear BK343; clear BK352; clear HB; have HO350 := n0_; have HO355 := n1_; have BK343 := n2_; have BK352 := n3_; have HB := n4_; clear n0_ n1_ n2_ n3_ n4_; (try clear hb); (try clear hb2); (try clear hk); (try clear hi); (try clear ho0); obtain ⟨Ao23, co23, eo23⟩ := Kd.R_slice HO355.out; subst eo23) | ((with_reducible refine gate_callee (f := 57) rfl ?_); refine Rgn.gl (some 22) Try.func57 #[.slice Ao13 t348.length co13, .slice Ao23 t353.length co23] ?_; (with_reducible refine (spec_l2Join.calls _ _ t348 _ _ t353 t356 _ ?side1 ?side2 ?side3 ?side4 A7.out).mono ?_); (case side1 => exact Rgn.cq (Kd.R_reads' HO350.out).2.2); (case side2 => exact (Kd.R_reads' HO350.out).2.1); (case side3 => exact Rgn.cq (Kd.R_reads' HO355.out).2.2); (case side4 => exact (Kd.R_reads' HO355.out).2.1); rintro e w24 ⟨v357, rfl, ho0, hb⟩; refine ⟨_, rfl, ?_⟩; have n0_ := Aside0.mk (Kd.R_elder' (Rgn.rq HO350.out) (Kd.R_base ho0) hb); have n1_ := Aside0.mk (Kd.R_elder' (Rgn.rq HO355.out) (Kd.R_base ho0) hb); have n2_ := Aside0.mk (Kd.R_lower (Kd.R_new' (Kd.R_new' ho0 (Kd.R_lt (Rgn.rq HO350.out))) (Kd.R_lt (Rgn.rq HO355.out))) (below_size (Rgn.bq HB.out))); have n3_ := Aside0.mk (Rgn.bb BK343.out hb); have n4_ := Aside0.mk (Rgn.bb BK352.out hb); have n5_ := Aside0.mk (below_step (Rgn.bq HB.out) hb); clear HO350; clear HO355; clear BK343; clear BK352; clear HB; have HO350 := n0_; have HO355 := n1_; have HO358 := n2_; have BK343 := n3_; have BK352 := n4_; have HB := n5_; clear n0_ n1_ n2_ n3_ n4_ n5_; (try clear hb); (try clear hb2); (try clear hk); (try clear hi); (try clear ho0)))
    go_ret
    exact ⟨_, by first | rfl | (simp [errW_none, errW_some] <;> rfl) | (simp [*, errW_none, errW_some] <;> rfl), by (with_reducible repeat (first | apply Kd.R_alloc | apply Kd.R_drewN | apply Kd.R_drew)); exact Kd.R_mono HO358.out (fun _ hk => trivial), Rgn.bq HB.out⟩
  · replace c3 := Bool.eq_false_iff.mpr c3
    subst c3
    have H1 : (some (([] : List Int))) = some r := by rw [if_neg (show ¬ (false = true) by decide)] at H; exact H
    clear H
    have H := H1
    clear H1
    obtain ⟨y345, hy345⟩ : ∃ y_ : List Int, y_ = (([] : List Int)) := ⟨_, rfl⟩
    replace H : (some y345) = some r := by first | (rw [hy345]; with_reducible exact H) | (have H2_ := (Option.bind_some _ _).symm.trans H; rw [hy345]; with_reducible exact H2_) | (have H2_ := (Option.bind_some _ _).symm.trans H; with_reducible exact H2_) | with_reducible exact H | (rw [hy345]; exact H) | exact H
    have Ny345 := Aside0.mk hy345
    clear hy345
    obtain rfl := Option.some.inj H
    go_enter Try.func43, Try.ntmps43
    go_wp2_with (first | ((with_reducible refine gate_dst (N := 1) rfl ?_); refine box_event ?hg (N := 1) ?hd (cs := #[.int .i64 a0_0, .slice A0_1 l0_1.length c0_1, .slice A0_2 l0_2.length c0_2]) (t := 34) ?hr ?_; (case hd => rfl); (case hg => rfl); (case hr => first | (go_simp; done) | (go_simp; rfl)); intro gb343 hg w25 hbox hb; have n0_ := Aside0.mk (below_step (Rgn.bq HB.out) hb); have n1_ := Aside0.mk (hbox); have n2_ := Aside0.mk ((by rw [hg]; exact (below_size (Rgn.bq HB.out)) : w.heap.size ≤ gb343)); have n3_ := Aside0.mk ((by rw [hg]; exact (below_size (Rgn.bq HB.out)) : w.heap.size ≤ gb343)); clear HB; have HB := n0_; have BK343 := n1_; have GW343 := n2_; have GE343 := n3_; clear n0_ n1_ n2_ n3_; clear hb hbox hg; have hcz26_0 : w25.cell? ⟨gb343, 0, none⟩ = some (.int .i64 a0_0) := (blk_cell BK343.out 0).trans rfl; have hcz26_1 : w25.cell? ⟨gb343, 1, none⟩ = some (.slice A0_1 l0_1.length c0_1) := (blk_cell BK343.out 1).trans rfl; have hcz26_2 : w25.cell? ⟨gb343, 2, none⟩ = some (.slice A0_2 l0_2.length c0_2) := (blk_cell BK343.out 2).trans rfl; have hfz26_0 := blk_frozen BK343.out 0; have hfz26_1 := blk_frozen BK343.out 1; have hfz26_2 := blk_frozen BK343.out 2) | ((with_reducible refine gate_callee (f := 42) rfl ?_); refine Rgn.gl (some 6) Try.func42 #[.agg #[.int .i64 a0_0, .slice A0_1 l0_1.length c0_1, .slice A0_2 l0_2.length c0_2]] ?_; (with_reducible refine (spec_ValidTxn.calls k a0_0 _ _ l0_1 _ _ l0_2 false _ ?side1 ?side2 ?side3 ?side4 A2.out).mono ?_); (case side1 => exact Rgn.cq (Kd.C_below HR0_1.out HB.out)); (case side2 => exact HC0_1.out); (case side3 => exact Rgn.cq (Kd.C_below HR0_2.out HB.out)); (case side4 => exact HC0_2.out); rintro e w27 ⟨rfl, hb⟩; refine ⟨_, rfl, ?_⟩; have n0_ := Aside0.mk (Rgn.bb BK343.out hb); have n1_ := Aside0.mk (below_step (Rgn.bq HB.out) hb); clear BK343; clear HB; have BK343 := n0_; have HB := n1_; clear n0_ n1_; (try clear hb); (try clear hb2); (try clear hk); (try clear hi)) | ((with_reducible refine gate_dst (N := 8) rfl ?_); refine Kd.R_lit (Kd.int .u8) _ 5 ?hg (N := 8) ?hd (xs := ([] : List Int)) (inner := []) (ok := fun _ => True) (okp := fun _ => True) ?hr ?hp (fun _ hk => hk) trivial (Below.refl _ _) (Nat.le_refl _) (by simp) ?_; (case hd => rfl); (case hg => rfl); (case hr => first | (go_simp; done) | (go_simp; rfl)); (case hp => exact (Reps.none _ _)); intro v346 w28 ho29 hb hg_ hnew_; clear hg_ hnew_; (first | rw [← Ny345.out] at ho29 | (simp only [Int.reduceToNat] at ho29; rw [← Ny345.out] at ho29)); have n0_ := Aside0.mk (Kd.R_lower ho29 (below_size (Rgn.bq HB.out))); have n1_ := Aside0.mk (Rgn.bb BK343.out hb); have n2_ := Aside0.mk (below_step (Rgn.bq HB.out) hb); clear BK343; clear HB; have HO347 := n0_; have BK343 := n1_; have HB := n2_; clear n0_ n1_ n2_; clear hb ho29))
    go_ret
    exact ⟨_, by first | rfl | (simp [errW_none, errW_some] <;> rfl) | (simp [*, errW_none, errW_some] <;> rfl), Rgn.rq HO347.out, Rgn.bq HB.out⟩

/-! ### spec_TxnLength: function 24 -/
def spec_TxnLength.f (k : Nat) (a0_0 : Int) (l0_1 : List (S61)) (l0_2 : List Int) : Option (Int) := (spec_TxnBlocks.f k a0_0 l0_1 l0_2).bind fun t360 => (some (wrap64 ((t360.length : Int) / 64)))
theorem spec_TxnLength.mono : ∀ a0 a1 a2 k, LeO (spec_TxnLength.f k a0 a1 a2) (spec_TxnLength.f (k + 1) a0 a1 a2) := by
  intro a0 a1 a2 k
  unfold spec_TxnLength.f
  repeat' first
      | (with_reducible exact spec_TxnBlocks.mono _ _ _ _)
      | (with_reducible exact LeO.refl _)
      | (with_reducible exact LeO.none _)
      | (with_reducible refine LeO.ite ?_ ?_)
      | (with_reducible refine LeO.bind ?_ (fun _ => ?_))
      | exact spec_TxnBlocks.mono _ _ _ _
      | exact LeO.none _
      | refine LeO.ite ?_ ?_
      | refine LeO.bind ?_ (fun _ => ?_)
set_option maxHeartbeats 8000000 in
set_option maxRecDepth 100000 in
theorem spec_TxnLength.calls (k : Nat) (a0_0 : Int) (A0_1 : Option Addr) (c0_1 : Nat) (l0_1 : List (S61)) (A0_2 : Option Addr) (c0_2 : Nat) (l0_2 : List Int) (r : Int) (w : World) (hr0_1 : Kd.C k61 w A0_1 l0_1.length l0_1) (hc0_1 : l0_1.length ≤ c0_1) (hr0_2 : Kd.C (Kd.int .i64) w A0_2 l0_2.length l0_2) (hc0_2 : l0_2.length ≤ c0_2) (h : spec_TxnLength.f k a0_0 l0_1 l0_2 = some r) :
    Calls Try.prog 24 #[.agg #[.int .i64 a0_0, .slice A0_1 l0_1.length c0_1, .slice A0_2 l0_2.length c0_2]] w fun e w' => e = .returned (.int .i64 r) ∧ Below w.heap.size w w' := by
  have hu34 := Try.underlying34
  have HR0_1 := Aside0.mk hr0_1
  have HC0_1 := Aside0.mk hc0_1
  clear hr0_1 hc0_1
  have HR0_2 := Aside0.mk hr0_2
  have HC0_2 := Aside0.mk hc0_2
  clear hr0_2 hc0_2
  have HB := Aside0.mk (Below.refl w.heap.size w)
  have H : ((spec_TxnBlocks.f k a0_0 l0_1 l0_2).bind fun t360 => (some (wrap64 ((t360.length : Int) / 64)))) = some r := h
  clear h
  replace H := Option.bind_eq_some_iff.mp H
  obtain ⟨t360, A20, H⟩ := H
  replace H : (some (wrap64 ((t360.length : Int) / 64))) = some r := H
  have A2 := Aside0.mk A20
  clear A20
  obtain rfl := Option.some.inj H
  go_enter Try.func24, Try.ntmps24
  go_wp2_with (first | ((with_reducible refine gate_dst (N := 1) rfl ?_); refine box_event ?hg (N := 1) ?hd (cs := #[.int .i64 a0_0, .slice A0_1 l0_1.length c0_1, .slice A0_2 l0_2.length c0_2]) (t := 34) ?hr ?_; (case hd => rfl); (case hg => rfl); (case hr => first | (go_simp; done) | (go_simp; rfl)); intro gb359 hg w3 hbox hb; have n0_ := Aside0.mk (below_step (Rgn.bq HB.out) hb); have n1_ := Aside0.mk (hbox); have n2_ := Aside0.mk ((by rw [hg]; exact (below_size (Rgn.bq HB.out)) : w.heap.size ≤ gb359)); have n3_ := Aside0.mk ((by rw [hg]; exact (below_size (Rgn.bq HB.out)) : w.heap.size ≤ gb359)); clear HB; have HB := n0_; have BK359 := n1_; have GW359 := n2_; have GE359 := n3_; clear n0_ n1_ n2_ n3_; clear hb hbox hg; have hcz4_0 : w3.cell? ⟨gb359, 0, none⟩ = some (.int .i64 a0_0) := (blk_cell BK359.out 0).trans rfl; have hcz4_1 : w3.cell? ⟨gb359, 1, none⟩ = some (.slice A0_1 l0_1.length c0_1) := (blk_cell BK359.out 1).trans rfl; have hcz4_2 : w3.cell? ⟨gb359, 2, none⟩ = some (.slice A0_2 l0_2.length c0_2) := (blk_cell BK359.out 2).trans rfl; have hfz4_0 := blk_frozen BK359.out 0; have hfz4_1 := blk_frozen BK359.out 1; have hfz4_2 := blk_frozen BK359.out 2) | ((with_reducible refine gate_callee (f := 43) rfl ?_); refine Rgn.gl (some 4) Try.func43 #[.agg #[.int .i64 a0_0, .slice A0_1 l0_1.length c0_1, .slice A0_2 l0_2.length c0_2]] ?_; (with_reducible refine (spec_TxnBlocks.calls k a0_0 _ _ l0_1 _ _ l0_2 t360 _ ?side1 ?side2 ?side3 ?side4 A2.out).mono ?_); (case side1 => exact Rgn.cq (Kd.C_below HR0_1.out HB.out)); (case side2 => exact HC0_1.out); (case side3 => exact Rgn.cq (Kd.C_below HR0_2.out HB.out)); (case side4 => exact HC0_2.out); rintro e w5 ⟨v361, rfl, ho0, hb⟩; refine ⟨_, rfl, ?_⟩; have n0_ := Aside0.mk (Kd.R_lower ho0 (below_size (Rgn.bq HB.out))); have n1_ := Aside0.mk (Rgn.bb BK359.out hb); have n2_ := Aside0.mk (below_step (Rgn.bq HB.out) hb); clear BK359; clear HB; have HO362 := n0_; have BK359 := n1_; have HB := n2_; clear n0_ n1_ n2_; (try clear hb); (try clear hb2); (try clear hk); (try clear hi); (try clear ho0); obtain ⟨Ao6, co6, eo6⟩ := Kd.R_slice HO362.out; subst eo6))
  go_ret
  exact ⟨by first | rfl | (simp [errW_none, errW_some] <;> rfl) | (simp [*, errW_none, errW_some] <;> rfl), Rgn.bq HB.out⟩

end Go.Proofs.Ytkehfdadplpaeaa.PFnExactLogNext
