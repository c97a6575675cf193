-- written by a program of this session (wip/src/print2.py)
import Derived.Test.YtkehfdadplpaeaaPFnExactSurvivorsx0
namespace Go.Proofs.Ytkehfdadplpaeaa.PFnExactSurvivors
open Go.RowKit Go.Proofs.YtkehfdadplpaeaaW.PrintWords Go.Proofs.YtkehfdadplpaeaaW.PrintLast Go.Proofs.YtkehfdadplpaeaaW.PrintMore
attribute [local go_sem] max2_int min2_int max_two min_two max_three min_three max_four min_four   -- for this text's walks alone
set_option linter.unusedVariables false
set_option linter.unusedSimpArgs false

/-! ### laws_szByteS: function 50 -/
def laws_szByteS.f (l0 : List Int) (a1 : Int) : Option (Int) := if (wrap64 (a1 - (l0.length : Int))) < 0 then (some (-1)) else (some (wrap64 (a1 - (l0.length : Int))))
set_option maxHeartbeats 8000000 in
set_option maxRecDepth 100000 in
theorem laws_szByteS.calls (A0 : Option Addr) (c0 : Nat) (l0 : List Int) (a1 : Int) (r : Int) (w : World) (hr0 : Kd.C (Kd.int .u8) w A0 l0.length l0) (hc0 : l0.length ≤ c0) (h : laws_szByteS.f l0 a1 = some r) :
  Calls Try.prog 50 #[.slice A0 l0.length c0, .int .i64 a1] w fun e w' => e = .returned (.int .i64 r) ∧ Drawn0 w w' := by
 have HR0 := Aside0.mk hr0
 have HC0 := Aside0.mk hc0
 clear hr0 hc0
 have H : (if (wrap64 (a1 - (l0.length : Int))) < 0 then (some (-1)) else (some (wrap64 (a1 - (l0.length : Int))))) = some r := h
 clear h
 by_cases c3 : (wrap64 (a1 - (l0.length : Int))) < 0
 ·
  rw [if_pos c3] at H
  have c3b0 : decide ((wrap64 (a1 - (l0.length : Int))) < 0) = true := decide_eq_true c3
  clear c3
  obtain rfl := Option.some.inj H
  go_enter Try.func50, Try.ntmps50
  go_wp2
  go_ret
  exact ⟨by first | rfl | (simp; done) | (simp [*]; done), by repeat (first | exact Drawn0.refl _ | apply Drawn0.step)⟩
 ·
  rw [if_neg c3] at H
  have c3b0 : decide ((wrap64 (a1 - (l0.length : Int))) < 0) = false := decide_eq_false c3
  clear c3
  obtain rfl := Option.some.inj H
  go_enter Try.func50, Try.ntmps50
  go_wp2
  go_ret
  exact ⟨by first | rfl | (simp; done) | (simp [*]; done), by repeat (first | exact Drawn0.refl _ | apply Drawn0.step)⟩

/-! ### laws_szHome: function 40 -/
def laws_szHome.f (a0_0 : Int) (l0_1 : List Int) (a1 : Int) : Option (Int) := (laws_szByteS.f l0_1 a1).bind fun t102 => (if t102 < 0 then (some (-1)) else (some t102))
set_option maxHeartbeats 8000000 in
set_option maxRecDepth 100000 in
theorem laws_szHome.calls (a0_0 : Int) (A0_1 : Option Addr) (c0_1 : Nat) (l0_1 : List Int) (a1 : Int) (r : Int) (w : World) (hr0_1 : Kd.C (Kd.int .u8) w A0_1 l0_1.length l0_1) (hc0_1 : l0_1.length ≤ c0_1) (h : laws_szHome.f a0_0 l0_1 a1 = some r) :
  Calls Try.prog 40 #[.agg #[.int .i64 a0_0, .slice A0_1 l0_1.length c0_1], .int .i64 a1] w fun e w' => e = .returned (.int .i64 r) ∧ Below w.heap.size w w' := by
 have hu68 := Try.underlying68
 have HR0_1 := Aside0.mk hr0_1
 have HC0_1 := Aside0.mk hc0_1
 clear hr0_1 hc0_1
 have HB := Aside0.mk (Below.refl w.heap.size w)
 have H : ((laws_szByteS.f l0_1 a1).bind fun t102 => (if t102 < 0 then (some (-1)) else (some t102))) = some r := h
 clear h
 replace H := Option.bind_eq_some_iff.mp H
 obtain ⟨t102, A30, H⟩ := H
 replace H : (if t102 < 0 then (some (-1)) else (some t102)) = some r := H
 have A3 := Aside0.mk A30
 clear A30
 by_cases c4 : t102 < 0
 ·
  rw [if_pos c4] at H
  have c4b0 : decide (t102 < 0) = true := decide_eq_true c4
  clear c4
  obtain rfl := Option.some.inj H
  go_enter Try.func40, Try.ntmps40
  go_wp2_with (first | ((with_reducible refine gate_dst (N := 2) rfl ?_); refine Rgn.bx 2 #[.int .i64 a0_0, .slice A0_1 l0_1.length c0_1] 68 ?_; intro gb101 hg w5 hbox hb; have BK101 := Aside0.mk (hbox); have GW101 := Aside0.mk (Rgn.ge hg HB.out); have GE101 := Aside0.mk (Rgn.ge hg HB.out); replace HB := Aside0.mk (below_step (Rgn.bq HB.out) hb); clear hb hbox hg; obtain ⟨hcz6_0, hcz6_1, hfz6_0, hfz6_1⟩ := Rgn.c2 BK101.out) | ((with_reducible refine gate_callee (f := 50) rfl ?_); refine Rgn.gl (some 8) Try.func50 #[.slice A0_1 l0_1.length c0_1, .int .i64 a1] ?_; (with_reducible refine (laws_szByteS.calls _ _ l0_1 a1 t102 _ ?side1 ?side2 A3.out).mono ?_); (case side1 => exact Rgn.cq (Kd.C_below HR0_1.out HB.out)); (case side2 => exact HC0_1.out); rintro e w' ⟨rfl, ⟨nd, rfl⟩⟩; refine ⟨_, rfl, ?_⟩))
  go_ret
  exact ⟨by first | rfl | (simp [errW_none, errW_some] <;> rfl) | (simp [*, errW_none, errW_some] <;> rfl), Rgn.bq HB.out⟩
 ·
  rw [if_neg c4] at H
  have c4b0 : decide (t102 < 0) = false := decide_eq_false c4
  clear c4
  obtain rfl := Option.some.inj H
  go_enter Try.func40, Try.ntmps40
  go_wp2_with (first | ((with_reducible refine gate_dst (N := 2) rfl ?_); refine Rgn.bx 2 #[.int .i64 a0_0, .slice A0_1 l0_1.length c0_1] 68 ?_; intro gb101 hg w7 hbox hb; have BK101 := Aside0.mk (hbox); have GW101 := Aside0.mk (Rgn.ge hg HB.out); have GE101 := Aside0.mk (Rgn.ge hg HB.out); replace HB := Aside0.mk (below_step (Rgn.bq HB.out) hb); clear hb hbox hg; obtain ⟨hcz8_0, hcz8_1, hfz8_0, hfz8_1⟩ := Rgn.c2 BK101.out) | ((with_reducible refine gate_callee (f := 50) rfl ?_); refine Rgn.gl (some 8) Try.func50 #[.slice A0_1 l0_1.length c0_1, .int .i64 a1] ?_; (with_reducible refine (laws_szByteS.calls _ _ l0_1 a1 t102 _ ?side1 ?side2 A3.out).mono ?_); (case side1 => exact Rgn.cq (Kd.C_below HR0_1.out HB.out)); (case side2 => exact HC0_1.out); rintro e w' ⟨rfl, ⟨nd, rfl⟩⟩; refine ⟨_, rfl, ?_⟩))
  go_ret
  exact ⟨by first | rfl | (simp [errW_none, errW_some] <;> rfl) | (simp [*, errW_none, errW_some] <;> rfl), Rgn.bq HB.out⟩

/-! ### laws_szHomeS: function 21 -/
def laws_szHomeS.l0 : Nat → List (S68) → Int → Int → Option (Int)
 | 0, _, _, _ => none
 | k + 1, x0, x1, x5 => if x5 < (x0.length : Int) then (if 0 ≤ x5 then ((laws_szHome.f ((rd_T68 x0 x5).f0) ((rd_T68 x0 x5).f1) x1).bind fun t104 => (if t104 < 0 then (some (-1)) else (laws_szHomeS.l0 k x0 t104 (wrap64 (x5 + 1))))) else (none)) else (some x1)
def laws_szHomeS.f (k : Nat) (l0 : List (S68)) (a1 : Int) : Option (Int) := if (wrap64 (a1 - (l0.length : Int))) < 0 then (some (-1)) else (laws_szHomeS.l0 k l0 (wrap64 (a1 - (l0.length : Int))) 0)
set_option maxHeartbeats 8000000 in
set_option maxRecDepth 100000 in
theorem laws_szHomeS.calls (k : Nat) (A0 : Option Addr) (c0 : Nat) (l0 : List (S68)) (a1 : Int) (r : Int) (w : World) (hr0 : Kd.C k68 w A0 l0.length l0) (hc0 : l0.length ≤ c0) (h : laws_szHomeS.f k l0 a1 = some r) :
  Calls Try.prog 21 #[.slice A0 l0.length c0, .int .i64 a1] w fun e w' => e = .returned (.int .i64 r) ∧ Below w.heap.size w w' := by
 have hu68 := Try.underlying68
 have HR0 := Aside0.mk hr0
 have HC0 := Aside0.mk hc0
 clear hr0 hc0
 have HB := Aside0.mk (Below.refl w.heap.size w)
 have H : (if (wrap64 (a1 - (l0.length : Int))) < 0 then (some (-1)) else (laws_szHomeS.l0 k l0 (wrap64 (a1 - (l0.length : Int))) 0)) = some r := h
 clear h
 by_cases c3 : (wrap64 (a1 - (l0.length : Int))) < 0
 ·
  rw [if_pos c3] at H
  have c3b0 : decide ((wrap64 (a1 - (l0.length : Int))) < 0) = true := decide_eq_true c3
  clear c3
  obtain rfl := Option.some.inj H
  go_enter Try.func21, Try.ntmps21
  go_wp2
  go_ret
  exact ⟨by first | rfl | (simp [errW_none, errW_some] <;> rfl) | (simp [*, errW_none, errW_some] <;> rfl), Rgn.bq HB.out⟩
 ·
  rw [if_neg c3] at H
  have c3b0 : decide ((wrap64 (a1 - (l0.length : Int))) < 0) = false := decide_eq_false c3
  clear c3
  have H' := Aside0.mk H
  clear H
  go_enter Try.func21, Try.ntmps21
  go_wp2
  go_loopg [1, 5] k (fun kq v1 v5 w' => ∃ (x1_1 : Int) (x5_1 : Int), v1 = .int .i64 x1_1 ∧ v5 = .int .i64 x5_1 ∧ Aside0 (laws_szHomeS.l0 kq l0 x1_1 x5_1 = some r) ∧ Aside0 (kq ≤ k) ∧ Aside0 (Below w.heap.size w w'))
  case atStart => exact ⟨(wrap64 (a1 - (l0.length : Int))), (0), (by first | rfl | (simp; done) | (simp [*]; done)), (by first | rfl | (simp; done) | (simp [*]; done)), H', ⟨Nat.le_refl _⟩, ⟨Rgn.bq HB.out⟩⟩
  case round =>
   clear H'
   try clear c2
   try clear p2
   try clear c3
   try clear c3b0
   obtain ⟨x1_1, x5_1, rfl, rfl, HA, HK1, HB⟩ := hrel
   cases gk with
   | zero => exact absurd HA.out (by simp [laws_szHomeS.l0])
   | succ k1 =>
    have H := HA.out
    clear HA
    simp only [laws_szHomeS.l0] at H
    by_cases c4 : x5_1 < (l0.length : Int)
    ·
     rw [if_pos c4] at H
     have c4b0 : decide (x5_1 < (l0.length : Int)) = true := decide_eq_true c4
     clear c4
     by_cases c5 : 0 ≤ x5_1
     ·
      rw [if_pos c5] at H
      have c5b0 : decide (0 ≤ x5_1) = true := decide_eq_true c5
      clear c5
      replace H := Option.bind_eq_some_iff.mp H
      obtain ⟨t104, A60, H⟩ := H
      replace H : (if t104 < 0 then (some (-1)) else (laws_szHomeS.l0 k1 l0 t104 (wrap64 (x5_1 + 1)))) = some r := H
      have A6 := Aside0.mk A60
      clear A60
      by_cases c7 : t104 < 0
      ·
       rw [if_pos c7] at H
       have c7b0 : decide (t104 < 0) = true := decide_eq_true c7
       clear c7
       obtain rfl := Option.some.inj H
       have p103 : 0 ≤ (x5_1 : Int) := of_decide_eq_true (by first | (with_reducible assumption) | assumption)
       have q103 : x5_1 < (l0.length : Int) := of_decide_eq_true (by first | (with_reducible assumption) | assumption)
       obtain ⟨ad103, A103_1, c103_1, e103, hx103_0, hx103_1, hl103_1, hi103_1⟩ := at_T68 HR0.out x5_1 p103 q103
       cases e103
       replace hx103_0 := Rgn.hx HB.out hx103_0
       replace hx103_1 := Rgn.hx HB.out hx103_1
       have HR103_1 := Aside0.mk hi103_1
       have HC103_1 := Aside0.mk hl103_1
       clear hi103_1 hl103_1
       replace p103 := eq_true p103
       replace q103 := eq_true q103
       go_wp2_with (first | ((with_reducible refine gate_callee (f := 40) rfl ?_); refine Rgn.gl (some 23) Try.func40 #[.agg #[.int .i64 ((rd_T68 l0 x5_1).f0), .slice A103_1 ((rd_T68 l0 x5_1).f1).length c103_1], .int .i64 x1_1] ?_; (with_reducible refine (laws_szHome.calls ((rd_T68 l0 x5_1).f0) _ _ ((rd_T68 l0 x5_1).f1) x1_1 t104 _ ?side1 ?side2 A6.out).mono ?_); (case side1 => exact Rgn.cq (Kd.C_below HR103_1.out HB.out)); (case side2 => exact HC103_1.out); rintro e w8 ⟨rfl, hb⟩; refine ⟨_, rfl, ?_⟩; replace HB := Aside0.mk (below_step (Rgn.bq HB.out) hb); (try clear hb)))
       go_ret
       exact ⟨by first | rfl | (simp [errW_none, errW_some] <;> rfl) | (simp [*, errW_none, errW_some] <;> rfl), Rgn.bq HB.out⟩
      ·
       rw [if_neg c7] at H
       have c7b0 : decide (t104 < 0) = false := decide_eq_false c7
       clear c7
       have H' := Aside0.mk H
       clear H
       have p103 : 0 ≤ (x5_1 : Int) := of_decide_eq_true (by first | (with_reducible assumption) | assumption)
       have q103 : x5_1 < (l0.length : Int) := of_decide_eq_true (by first | (with_reducible assumption) | assumption)
       obtain ⟨ad103, A103_1, c103_1, e103, hx103_0, hx103_1, hl103_1, hi103_1⟩ := at_T68 HR0.out x5_1 p103 q103
       cases e103
       replace hx103_0 := Rgn.hx HB.out hx103_0
       replace hx103_1 := Rgn.hx HB.out hx103_1
       have HR103_1 := Aside0.mk hi103_1
       have HC103_1 := Aside0.mk hl103_1
       clear hi103_1 hl103_1
       replace p103 := eq_true p103
       replace q103 := eq_true q103
       go_wp2_with (first | ((with_reducible refine gate_callee (f := 40) rfl ?_); refine Rgn.gl (some 23) Try.func40 #[.agg #[.int .i64 ((rd_T68 l0 x5_1).f0), .slice A103_1 ((rd_T68 l0 x5_1).f1).length c103_1], .int .i64 x1_1] ?_; (with_reducible refine (laws_szHome.calls ((rd_T68 l0 x5_1).f0) _ _ ((rd_T68 l0 x5_1).f1) x1_1 t104 _ ?side1 ?side2 A6.out).mono ?_); (case side1 => exact Rgn.cq (Kd.C_below HR103_1.out HB.out)); (case side2 => exact HC103_1.out); rintro e w9 ⟨rfl, hb⟩; refine ⟨_, rfl, ?_⟩; replace HB := Aside0.mk (below_step (Rgn.bq HB.out) hb); (try clear hb)))
       go_roundg k1
       case measure => have := HK1.out; omega
       case rel => exact ⟨(t104), (wrap64 (x5_1 + 1)), (by first | rfl | (simp; done) | (simp [*]; done)), (by first | rfl | (simp; done) | (simp [*]; done)), H', ⟨by have := HK1.out; omega⟩, ⟨Rgn.bq HB.out⟩⟩
     ·
      rw [if_neg c5] at H
      exact absurd H (by simp)
    ·
     rw [if_neg c4] at H
     have c4b0 : decide (x5_1 < (l0.length : Int)) = false := decide_eq_false c4
     clear c4
     obtain rfl := Option.some.inj H
     go_wp2
     go_ret
     exact ⟨by first | rfl | (simp [errW_none, errW_some] <;> rfl) | (simp [*, errW_none, errW_some] <;> rfl), Rgn.bq HB.out⟩

/-! ### laws_szInt64S: function 22 -/
def laws_szInt64S.f (l0 : List Int) (a1 : Int) : Option (Int) := if (wrap64 (a1 - (l0.length : Int))) < 0 then (some (-1)) else (some (wrap64 (a1 - (l0.length : Int))))
set_option maxHeartbeats 8000000 in
set_option maxRecDepth 100000 in
theorem laws_szInt64S.calls (A0 : Option Addr) (c0 : Nat) (l0 : List Int) (a1 : Int) (r : Int) (w : World) (hr0 : Kd.C (Kd.int .i64) w A0 l0.length l0) (hc0 : l0.length ≤ c0) (h : laws_szInt64S.f l0 a1 = some r) :
  Calls Try.prog 22 #[.slice A0 l0.length c0, .int .i64 a1] w fun e w' => e = .returned (.int .i64 r) ∧ Drawn0 w w' := by
 have HR0 := Aside0.mk hr0
 have HC0 := Aside0.mk hc0
 clear hr0 hc0
 have H : (if (wrap64 (a1 - (l0.length : Int))) < 0 then (some (-1)) else (some (wrap64 (a1 - (l0.length : Int))))) = some r := h
 clear h
 by_cases c3 : (wrap64 (a1 - (l0.length : Int))) < 0
 ·
  rw [if_pos c3] at H
  have c3b0 : decide ((wrap64 (a1 - (l0.length : Int))) < 0) = true := decide_eq_true c3
  clear c3
  obtain rfl := Option.some.inj H
  go_enter Try.func22, Try.ntmps22
  go_wp2
  go_ret
  exact ⟨by first | rfl | (simp; done) | (simp [*]; done), by repeat (first | exact Drawn0.refl _ | apply Drawn0.step)⟩
 ·
  rw [if_neg c3] at H
  have c3b0 : decide ((wrap64 (a1 - (l0.length : Int))) < 0) = false := decide_eq_false c3
  clear c3
  obtain rfl := Option.some.inj H
  go_enter Try.func22, Try.ntmps22
  go_wp2
  go_ret
  exact ⟨by first | rfl | (simp; done) | (simp [*]; done), by repeat (first | exact Drawn0.refl _ | apply Drawn0.step)⟩

/-! ### laws_szTxn: function 5 -/
def laws_szTxn.f (k : Nat) (a0_0 : Int) (l0_1 : List (S68)) (l0_2 : List Int) (a1 : Int) : Option (Int) := (laws_szHomeS.f k l0_1 a1).bind fun t106 => (if t106 < 0 then (some (-1)) else ((laws_szInt64S.f l0_2 t106).bind fun t107 => (if t107 < 0 then (some (-1)) else (some t107))))
set_option maxHeartbeats 8000000 in
set_option maxRecDepth 100000 in
theorem laws_szTxn.calls (k : Nat) (a0_0 : Int) (A0_1 : Option Addr) (c0_1 : Nat) (l0_1 : List (S68)) (A0_2 : Option Addr) (c0_2 : Nat) (l0_2 : List Int) (a1 : Int) (r : Int) (w : World) (hr0_1 : Kd.C k68 w A0_1 l0_1.length l0_1) (hc0_1 : l0_1.length ≤ c0_1) (hr0_2 : Kd.C (Kd.int .i64) w A0_2 l0_2.length l0_2) (hc0_2 : l0_2.length ≤ c0_2) (h : laws_szTxn.f k a0_0 l0_1 l0_2 a1 = some r) :
  Calls Try.prog 5 #[.agg #[.int .i64 a0_0, .slice A0_1 l0_1.length c0_1, .slice A0_2 l0_2.length c0_2], .int .i64 a1] w fun e w' => e = .returned (.int .i64 r) ∧ Below w.heap.size w w' := by
 have hu27 := Try.underlying27
 have HR0_1 := Aside0.mk hr0_1
 have HC0_1 := Aside0.mk hc0_1
 clear hr0_1 hc0_1
 have HR0_2 := Aside0.mk hr0_2
 have HC0_2 := Aside0.mk hc0_2
 clear hr0_2 hc0_2
 have HB := Aside0.mk (Below.refl w.heap.size w)
 have H : ((laws_szHomeS.f k l0_1 a1).bind fun t106 => (if t106 < 0 then (some (-1)) else ((laws_szInt64S.f l0_2 t106).bind fun t107 => (if t107 < 0 then (some (-1)) else (some t107))))) = some r := h
 clear h
 replace H := Option.bind_eq_some_iff.mp H
 obtain ⟨t106, A30, H⟩ := H
 replace H : (if t106 < 0 then (some (-1)) else ((laws_szInt64S.f l0_2 t106).bind fun t107 => (if t107 < 0 then (some (-1)) else (some t107)))) = some r := H
 have A3 := Aside0.mk A30
 clear A30
 by_cases c4 : t106 < 0
 ·
  rw [if_pos c4] at H
  have c4b0 : decide (t106 < 0) = true := decide_eq_true c4
  clear c4
  obtain rfl := Option.some.inj H
  go_enter Try.func5, Try.ntmps5
  go_wp2_with (first | ((with_reducible refine gate_dst (N := 2) rfl ?_); refine Rgn.bx 2 #[.int .i64 a0_0, .slice A0_1 l0_1.length c0_1, .slice A0_2 l0_2.length c0_2] 27 ?_; intro gb105 hg w5 hbox hb; have BK105 := Aside0.mk (hbox); have GW105 := Aside0.mk (Rgn.ge hg HB.out); have GE105 := Aside0.mk (Rgn.ge hg HB.out); replace HB := Aside0.mk (below_step (Rgn.bq HB.out) hb); clear hb hbox hg; obtain ⟨hcz6_0, hcz6_1, hcz6_2, hfz6_0, hfz6_1, hfz6_2⟩ := Rgn.c3 BK105.out) | ((with_reducible refine gate_callee (f := 21) rfl ?_); refine Rgn.gl (some 8) Try.func21 #[.slice A0_1 l0_1.length c0_1, .int .i64 a1] ?_; (with_reducible refine (laws_szHomeS.calls k _ _ l0_1 a1 t106 _ ?side1 ?side2 A3.out).mono ?_); (case side1 => exact Rgn.cq (Kd.C_below HR0_1.out HB.out)); (case side2 => exact HC0_1.out); rintro e w7 ⟨rfl, hb⟩; refine ⟨_, rfl, ?_⟩; replace BK105 := Aside0.mk (Rgn.bb BK105.out hb); replace HB := Aside0.mk (below_step (Rgn.bq HB.out) hb); (try clear hb)))
  go_ret
  exact ⟨by first | rfl | (simp [errW_none, errW_some] <;> rfl) | (simp [*, errW_none, errW_some] <;> rfl), Rgn.bq HB.out⟩
 ·
  rw [if_neg c4] at H
  have c4b0 : decide (t106 < 0) = false := decide_eq_false c4
  clear c4
  replace H := Option.bind_eq_some_iff.mp H
  obtain ⟨t107, A80, H⟩ := H
  replace H : (if t107 < 0 then (some (-1)) else (some t107)) = some r := H
  have A8 := Aside0.mk A80
  clear A80
  by_cases c9 : t107 < 0
  ·
   rw [if_pos c9] at H
   have c9b0 : decide (t107 < 0) = true := decide_eq_true c9
   clear c9
   obtain rfl := Option.some.inj H
   go_enter Try.func5, Try.ntmps5
   go_wp2_with (first | ((with_reducible refine gate_dst (N := 2) rfl ?_); refine Rgn.bx 2 #[.int .i64 a0_0, .slice A0_1 l0_1.length c0_1, .slice A0_2 l0_2.length c0_2] 27 ?_; intro gb105 hg w10 hbox hb; have BK105 := Aside0.mk (hbox); have GW105 := Aside0.mk (Rgn.ge hg HB.out); have GE105 := Aside0.mk (Rgn.ge hg HB.out); replace HB := Aside0.mk (below_step (Rgn.bq HB.out) hb); clear hb hbox hg; obtain ⟨hcz11_0, hcz11_1, hcz11_2, hfz11_0, hfz11_1, hfz11_2⟩ := Rgn.c3 BK105.out) | ((with_reducible refine gate_callee (f := 21) rfl ?_); refine Rgn.gl (some 8) Try.func21 #[.slice A0_1 l0_1.length c0_1, .int .i64 a1] ?_; (with_reducible refine (laws_szHomeS.calls k _ _ l0_1 a1 t106 _ ?side1 ?side2 A3.out).mono ?_); (case side1 => exact Rgn.cq (Kd.C_below HR0_1.out HB.out)); (case side2 => exact HC0_1.out); rintro e w12 ⟨rfl, hb⟩; refine ⟨_, rfl, ?_⟩; replace BK105 := Aside0.mk (Rgn.bb BK105.out hb); replace HB := Aside0.mk (below_step (Rgn.bq HB.out) hb); (try clear hb); obtain ⟨hcz13_0, hcz13_1, hcz13_2, hfz13_0, hfz13_1, hfz13_2⟩ := Rgn.c3 BK105.out) | ((with_reducible refine gate_callee (f := 22) rfl ?_); refine Rgn.gl (some 14) Try.func22 #[.slice A0_2 l0_2.length c0_2, .int .i64 t106] ?_; (with_reducible refine (laws_szInt64S.calls _ _ l0_2 t106 t107 _ ?side1 ?side2 A8.out).mono ?_); (case side1 => exact Rgn.cq (Kd.C_below HR0_2.out HB.out)); (case side2 => exact HC0_2.out); rintro e w' ⟨rfl, ⟨nd, rfl⟩⟩; refine ⟨_, rfl, ?_⟩))
   go_ret
   exact ⟨by first | rfl | (simp [errW_none, errW_some] <;> rfl) | (simp [*, errW_none, errW_some] <;> rfl), Rgn.bq HB.out⟩
  ·
   rw [if_neg c9] at H
   have c9b0 : decide (t107 < 0) = false := decide_eq_false c9
   clear c9
   obtain rfl := Option.some.inj H
   go_enter Try.func5, Try.ntmps5
   go_wp2_with (first | ((with_reducible refine gate_dst (N := 2) rfl ?_); refine Rgn.bx 2 #[.int .i64 a0_0, .slice A0_1 l0_1.length c0_1, .slice A0_2 l0_2.length c0_2] 27 ?_; intro gb105 hg w14 hbox hb; have BK105 := Aside0.mk (hbox); have GW105 := Aside0.mk (Rgn.ge hg HB.out); have GE105 := Aside0.mk (Rgn.ge hg HB.out); replace HB := Aside0.mk (below_step (Rgn.bq HB.out) hb); clear hb hbox hg; obtain ⟨hcz15_0, hcz15_1, hcz15_2, hfz15_0, hfz15_1, hfz15_2⟩ := Rgn.c3 BK105.out) | ((with_reducible refine gate_callee (f := 21) rfl ?_); refine Rgn.gl (some 8) Try.func21 #[.slice A0_1 l0_1.length c0_1, .int .i64 a1] ?_; (with_reducible refine (laws_szHomeS.calls k _ _ l0_1 a1 t106 _ ?side1 ?side2 A3.out).mono ?_); (case side1 => exact Rgn.cq (Kd.C_below HR0_1.out HB.out)); (case side2 => exact HC0_1.out); rintro e w16 ⟨rfl, hb⟩; refine ⟨_, rfl, ?_⟩; replace BK105 := Aside0.mk (Rgn.bb BK105.out hb); replace HB := Aside0.mk (below_step (Rgn.bq HB.out) hb); (try clear hb); obtain ⟨hcz17_0, hcz17_1, hcz17_2, hfz17_0, hfz17_1, hfz17_2⟩ := Rgn.c3 BK105.out) | ((with_reducible refine gate_callee (f := 22) rfl ?_); refine Rgn.gl (some 14) Try.func22 #[.slice A0_2 l0_2.length c0_2, .int .i64 t106] ?_; (with_reducible refine (laws_szInt64S.calls _ _ l0_2 t106 t107 _ ?side1 ?side2 A8.out).mono ?_); (case side1 => exact Rgn.cq (Kd.C_below HR0_2.out HB.out)); (case side2 => exact HC0_2.out); rintro e w' ⟨rfl, ⟨nd, rfl⟩⟩; refine ⟨_, rfl, ?_⟩))
   go_ret
   exact ⟨by first | rfl | (simp [errW_none, errW_some] <;> rfl) | (simp [*, errW_none, errW_some] <;> rfl), Rgn.bq HB.out⟩

/-! ### laws_szTxnS: function 12 -/
def laws_szTxnS.l0 : Nat → List (S27) → Int → Int → Option (Int)
 | 0, _, _, _ => none
 | k + 1, x0, x1, x5 => if x5 < (x0.length : Int) then (if 0 ≤ x5 then ((laws_szTxn.f k ((rd_T27 x0 x5).f0) ((rd_T27 x0 x5).f1) ((rd_T27 x0 x5).f2) x1).bind fun t109 => (if t109 < 0 then (some (-1)) else (laws_szTxnS.l0 k x0 t109 (wrap64 (x5 + 1))))) else (none)) else (some x1)
def laws_szTxnS.f (k : Nat) (l0 : List (S27)) (a1 : Int) : Option (Int) := if (wrap64 (a1 - (l0.length : Int))) < 0 then (some (-1)) else (laws_szTxnS.l0 k l0 (wrap64 (a1 - (l0.length : Int))) 0)
set_option maxHeartbeats 8000000 in
set_option maxRecDepth 100000 in
theorem laws_szTxnS.calls (k : Nat) (A0 : Option Addr) (c0 : Nat) (l0 : List (S27)) (a1 : Int) (r : Int) (w : World) (hr0 : Kd.C k27 w A0 l0.length l0) (hc0 : l0.length ≤ c0) (h : laws_szTxnS.f k l0 a1 = some r) :
  Calls Try.prog 12 #[.slice A0 l0.length c0, .int .i64 a1] w fun e w' => e = .returned (.int .i64 r) ∧ Below w.heap.size w w' := by
 have hu27 := Try.underlying27
 have HR0 := Aside0.mk hr0
 have HC0 := Aside0.mk hc0
 clear hr0 hc0
 have HB := Aside0.mk (Below.refl w.heap.size w)
 have H : (if (wrap64 (a1 - (l0.length : Int))) < 0 then (some (-1)) else (laws_szTxnS.l0 k l0 (wrap64 (a1 - (l0.length : Int))) 0)) = some r := h
 clear h
 by_cases c3 : (wrap64 (a1 - (l0.length : Int))) < 0
 ·
  rw [if_pos c3] at H
  have c3b0 : decide ((wrap64 (a1 - (l0.length : Int))) < 0) = true := decide_eq_true c3
  clear c3
  obtain rfl := Option.some.inj H
  go_enter Try.func12, Try.ntmps12
  go_wp2
  go_ret
  exact ⟨by first | rfl | (simp [errW_none, errW_some] <;> rfl) | (simp [*, errW_none, errW_some] <;> rfl), Rgn.bq HB.out⟩
 ·
  rw [if_neg c3] at H
  have c3b0 : decide ((wrap64 (a1 - (l0.length : Int))) < 0) = false := decide_eq_false c3
  clear c3
  have H' := Aside0.mk H
  clear H
  go_enter Try.func12, Try.ntmps12
  go_wp2
  go_loopg [1, 5] k (fun kq v1 v5 w' => ∃ (x1_1 : Int) (x5_1 : Int), v1 = .int .i64 x1_1 ∧ v5 = .int .i64 x5_1 ∧ Aside0 (laws_szTxnS.l0 kq l0 x1_1 x5_1 = some r) ∧ Aside0 (kq ≤ k) ∧ Aside0 (Below w.heap.size w w'))
  case atStart => exact ⟨(wrap64 (a1 - (l0.length : Int))), (0), (by first | rfl | (simp; done) | (simp [*]; done)), (by first | rfl | (simp; done) | (simp [*]; done)), H', ⟨Nat.le_refl _⟩, ⟨Rgn.bq HB.out⟩⟩
  case round =>
   clear H'
   try clear c1
   try clear p2
   try clear c3
   try clear c3b0
   obtain ⟨x1_1, x5_1, rfl, rfl, HA, HK1, HB⟩ := hrel
   cases gk with
   | zero => exact absurd HA.out (by simp [laws_szTxnS.l0])
   | succ k1 =>
    have H := HA.out
    clear HA
    simp only [laws_szTxnS.l0] at H
    by_cases c4 : x5_1 < (l0.length : Int)
    ·
     rw [if_pos c4] at H
     have c4b0 : decide (x5_1 < (l0.length : Int)) = true := decide_eq_true c4
     clear c4
     by_cases c5 : 0 ≤ x5_1
     ·
      rw [if_pos c5] at H
      have c5b0 : decide (0 ≤ x5_1) = true := decide_eq_true c5
      clear c5
      replace H := Option.bind_eq_some_iff.mp H
      obtain ⟨t109, A60, H⟩ := H
      replace H : (if t109 < 0 then (some (-1)) else (laws_szTxnS.l0 k1 l0 t109 (wrap64 (x5_1 + 1)))) = some r := H
      have A6 := Aside0.mk A60
      clear A60
      by_cases c7 : t109 < 0
      ·
       rw [if_pos c7] at H
       have c7b0 : decide (t109 < 0) = true := decide_eq_true c7
       clear c7
       obtain rfl := Option.some.inj H
       have p108 : 0 ≤ (x5_1 : Int) := of_decide_eq_true (by first | (with_reducible assumption) | assumption)
       have q108 : x5_1 < (l0.length : Int) := of_decide_eq_true (by first | (with_reducible assumption) | assumption)
       obtain ⟨ad108, A108_1, c108_1, A108_2, c108_2, e108, hx108_0, hx108_1, hx108_2, hl108_1, hi108_1, hl108_2, hi108_2⟩ := at_T27 HR0.out x5_1 p108 q108
       cases e108
       replace hx108_0 := Rgn.hx HB.out hx108_0
       replace hx108_1 := Rgn.hx HB.out hx108_1
       replace hx108_2 := Rgn.hx HB.out hx108_2
       have HR108_1 := Aside0.mk hi108_1
       have HC108_1 := Aside0.mk hl108_1
       clear hi108_1 hl108_1
       have HR108_2 := Aside0.mk hi108_2
       have HC108_2 := Aside0.mk hl108_2
       clear hi108_2 hl108_2
       replace p108 := eq_true p108
       replace q108 := eq_true q108
       go_wp2_with (first | ((with_reducible refine gate_callee (f := 5) rfl ?_); refine Rgn.gl (some 23) Try.func5 #[.agg #[.int .i64 ((rd_T27 l0 x5_1).f0), .slice A108_1 ((rd_T27 l0 x5_1).f1).length c108_1, .slice A108_2 ((rd_T27 l0 x5_1).f2).length c108_2], .int .i64 x1_1] ?_; (with_reducible refine (laws_szTxn.calls k1 ((rd_T27 l0 x5_1).f0) _ _ ((rd_T27 l0 x5_1).f1) _ _ ((rd_T27 l0 x5_1).f2) x1_1 t109 _ ?side1 ?side2 ?side3 ?side4 A6.out).mono ?_); (case side1 => exact Rgn.cq (Kd.C_below HR108_1.out HB.out)); (case side2 => exact HC108_1.out); (case side3 => exact Rgn.cq (Kd.C_below HR108_2.out HB.out)); (case side4 => exact HC108_2.out); rintro e w8 ⟨rfl, hb⟩; refine ⟨_, rfl, ?_⟩; replace HB := Aside0.mk (below_step (Rgn.bq HB.out) hb); (try clear hb)))
       go_ret
       exact ⟨by first | rfl | (simp [errW_none, errW_some] <;> rfl) | (simp [*, errW_none, errW_some] <;> rfl), Rgn.bq HB.out⟩
      ·
       rw [if_neg c7] at H
       have c7b0 : decide (t109 < 0) = false := decide_eq_false c7
       clear c7
       have H' := Aside0.mk H
       clear H
       have p108 : 0 ≤ (x5_1 : Int) := of_decide_eq_true (by first | (with_reducible assumption) | assumption)
       have q108 : x5_1 < (l0.length : Int) := of_decide_eq_true (by first | (with_reducible assumption) | assumption)
       obtain ⟨ad108, A108_1, c108_1, A108_2, c108_2, e108, hx108_0, hx108_1, hx108_2, hl108_1, hi108_1, hl108_2, hi108_2⟩ := at_T27 HR0.out x5_1 p108 q108
       cases e108
       replace hx108_0 := Rgn.hx HB.out hx108_0
       replace hx108_1 := Rgn.hx HB.out hx108_1
       replace hx108_2 := Rgn.hx HB.out hx108_2
       have HR108_1 := Aside0.mk hi108_1
       have HC108_1 := Aside0.mk hl108_1
       clear hi108_1 hl108_1
       have HR108_2 := Aside0.mk hi108_2
       have HC108_2 := Aside0.mk hl108_2
       clear hi108_2 hl108_2
       replace p108 := eq_true p108
       replace q108 := eq_true q108
       go_wp2_with (first | ((with_reducible refine gate_callee (f := 5) rfl ?_); refine Rgn.gl (some 23) Try.func5 #[.agg #[.int .i64 ((rd_T27 l0 x5_1).f0), .slice A108_1 ((rd_T27 l0 x5_1).f1).length c108_1, .slice A108_2 ((rd_T27 l0 x5_1).f2).length c108_2], .int .i64 x1_1] ?_; (with_reducible refine (laws_szTxn.calls k1 ((rd_T27 l0 x5_1).f0) _ _ ((rd_T27 l0 x5_1).f1) _ _ ((rd_T27 l0 x5_1).f2) x1_1 t109 _ ?side1 ?side2 ?side3 ?side4 A6.out).mono ?_); (case side1 => exact Rgn.cq (Kd.C_below HR108_1.out HB.out)); (case side2 => exact HC108_1.out); (case side3 => exact Rgn.cq (Kd.C_below HR108_2.out HB.out)); (case side4 => exact HC108_2.out); rintro e w9 ⟨rfl, hb⟩; refine ⟨_, rfl, ?_⟩; replace HB := Aside0.mk (below_step (Rgn.bq HB.out) hb); (try clear hb)))
       go_roundg k1
       case measure => have := HK1.out; omega
       case rel => exact ⟨(t109), (wrap64 (x5_1 + 1)), (by first | rfl | (simp; done) | (simp [*]; done)), (by first | rfl | (simp; done) | (simp [*]; done)), H', ⟨by have := HK1.out; omega⟩, ⟨Rgn.bq HB.out⟩⟩
     ·
      rw [if_neg c5] at H
      exact absurd H (by simp)
    ·
     rw [if_neg c4] at H
     have c4b0 : decide (x5_1 < (l0.length : Int)) = false := decide_eq_false c4
     clear c4
     obtain rfl := Option.some.inj H
     go_wp2
     go_ret
     exact ⟨by first | rfl | (simp [errW_none, errW_some] <;> rfl) | (simp [*, errW_none, errW_some] <;> rfl), Rgn.bq HB.out⟩

/-! ### spec_l5Without: function 32 -/
def spec_l5Without.l0 : Nat → List (S61) → Int → List (S61) → Int → Option ((List (S61)))
 | 0, _, _, _, _ => none
 | k + 1, x0, x1, x5, x6 => if x6 < (x0.length : Int) then (if 0 ≤ x6 then (if ((rd_T61 x0 x6).f0) = x1 then (spec_l5Without.l0 k x0 x1 x5 (wrap64 (x6 + 1))) else (if x5.length < 4398046511104 then (spec_l5Without.l0 k x0 x1 (x5 ++ [(⟨(rd_T61 x0 x6).f0, (rd_T61 x0 x6).f1⟩ : S61)]) (wrap64 (x6 + 1))) else (none))) else (none)) else (some x5)
def spec_l5Without.f (k : Nat) (l0 : List (S61)) (a1 : Int) : Option ((List (S61))) := spec_l5Without.l0 k l0 a1 (([] : List (S61))) 0
set_option maxHeartbeats 8000000 in
set_option maxRecDepth 100000 in
theorem spec_l5Without.calls (k : Nat) (P0_ : Nat → Prop) (A0 : Option Addr) (c0 : Nat) (l0 : List (S61)) (a1 : Int) (r : List (S61)) (w : World) (hs0 : Kd.V k61 61 w w.heap.size (fun k_ => P0_ k_) (.slice A0 l0.length c0) l0) (h : spec_l5Without.f k l0 a1 = some r) :
  Calls Try.prog 32 #[.slice A0 l0.length c0, .int .i64 a1] w fun e w' => ∃ v0_ : Value, e = .returned (v0_) ∧ Kd.N k61 61 w' w.heap.size (fun k_ => (P0_ k_ ∨ w.heap.size ≤ k_)) v0_ r ∧ Below w.heap.size w w' := by
 have hu61 := Try.underlying61
 have HO0 := Aside0.mk (show Kd.V k61 61 w w.heap.size (fun k_ => (P0_ k_ ∨ w.heap.size ≤ k_)) (.slice A0 l0.length c0) l0 from Kd.V_mono hs0 (fun k_ hk => .inl hk))
 have HB := Aside0.mk (Below.refl w.heap.size w)
 have H : (spec_l5Without.l0 k l0 a1 (([] : List (S61))) 0) = some r := h
 clear h
 obtain ⟨y110, hy110⟩ : ∃ y_ : List (S61), y_ = (([] : List (S61))) := ⟨_, rfl⟩
 replace H : (spec_l5Without.l0 k l0 a1 y110 0) = some r := by first | (rw [hy110]; with_reducible exact H) | (have H2_ := (Option.bind_some _ _).symm.trans H; rw [hy110]; with_reducible exact H2_) | (have H2_ := (Option.bind_some _ _).symm.trans H; with_reducible exact H2_) | with_reducible exact H | (rw [hy110]; exact H) | exact H
 have Ny110 := Aside0.mk hy110
 clear hy110
 have H' := Aside0.mk H
 clear H
 go_enter Try.func32, Try.ntmps32
 go_wp2_with (first | ((with_reducible refine gate_dst (N := 7) rfl ?_); refine Kd.N_lit k61 _ 61 ?hg (N' := 7) ?hd (xs := ([] : List (S61))) (inner := []) (ok := (fun k_ => (P0_ k_ ∨ w.heap.size ≤ k_))) (okp := (fun k_ => (P0_ k_ ∨ w.heap.size ≤ k_))) ?hr ?hp (fun _ hk => hk) ((show ∀ k_, w.heap.size ≤ k_ → (fun k_ => (P0_ k_ ∨ w.heap.size ≤ k_)) k_ from fun k_ hk => (.inr (Nat.le_trans (below_size (Rgn.bq HB.out)) hk))) _ (Nat.le_refl _)) (Below.refl _ _) (Nat.le_refl _) (by simp) ?_; (case hd => rfl); (case hg => rfl); (case hr => first | (go_simp; done) | (go_simp; rfl)); (case hp => exact (Reps.none _ _)); intro v111 w3 ho4 hb hg_ hnew_; clear hg_ hnew_; (first | rw [← Ny110.out] at ho4 | (simp only [Int.reduceToNat] at ho4; rw [← Ny110.out] at ho4)); replace HO0 := Aside0.mk (Kd.V_elder' (by (with_reducible repeat (first | apply Kd.V_alloc | apply Kd.V_drewN | apply Kd.V_drew)); exact HO0.out) (Kd.N_base ho4) hb); have HO112 := Aside0.mk (Kd.N_lower ho4 (below_size (Rgn.bq HB.out))); replace HB := Aside0.mk (below_step (Rgn.bq HB.out) hb); clear hb ho4))
 go_loopg [5, 6] k (fun kq v5 v6 w' => ∃ (x5_1 : List (S61)) (x6_1 : Int), v6 = .int .i64 x6_1 ∧ Aside0 (spec_l5Without.l0 kq l0 a1 x5_1 x6_1 = some r) ∧ Aside0 (kq ≤ k) ∧ Aside0 (Kd.V k61 61 w' w.heap.size (fun k_ => (P0_ k_ ∨ w.heap.size ≤ k_) ∧ some k_ ≠ (v5 : Value).ownBlock) (.slice A0 l0.length c0) l0) ∧ Aside0 (Kd.N k61 61 w' w.heap.size (fun k_ => (P0_ k_ ∨ w.heap.size ≤ k_)) v5 x5_1) ∧ Aside0 (Below w.heap.size w w'))
 case atStart => exact ⟨(y110), (0), (by first | rfl | (simp; done) | (simp [*]; done)), H', ⟨Nat.le_refl _⟩, ⟨by (with_reducible repeat (first | apply Kd.V_alloc | apply Kd.V_drewN | apply Kd.V_drew)); exact HO0.out⟩, ⟨by (with_reducible repeat (first | apply Kd.N_alloc | apply Kd.N_drewN | apply Kd.N_drew)); exact HO112.out⟩, ⟨Rgn.bq HB.out⟩⟩
 case round =>
  clear H'
  try clear p2
  try clear c3
  obtain ⟨x5_1, x6_1, rfl, HA, HK1, HO_0, HO_5, HB⟩ := hrel
  cases gk with
  | zero => exact absurd HA.out (by simp [spec_l5Without.l0])
  | succ k1 =>
   have H := HA.out
   clear HA
   simp only [spec_l5Without.l0] at H
   by_cases c5 : x6_1 < (l0.length : Int)
   ·
    rw [if_pos c5] at H
    have c5b0 : decide (x6_1 < (l0.length : Int)) = true := decide_eq_true c5
    clear c5
    by_cases c6 : 0 ≤ x6_1
    ·
     rw [if_pos c6] at H
     have c6b0 : decide (0 ≤ x6_1) = true := decide_eq_true c6
     clear c6
     by_cases c7 : ((rd_T61 l0 x6_1).f0) = a1
     ·
      rw [if_pos c7] at H
      have c7b0 : (((rd_T61 l0 x6_1).f0) == a1) = true := beq_iff_eq.mpr c7
      have c7b1 : (((rd_T61 l0 x6_1).f0) != a1) = false := bne_eq_false_iff_eq.mpr c7
      clear c7
      have H' := Aside0.mk H
      clear H
      have p113 : 0 ≤ (x6_1 : Int) := of_decide_eq_true (by first | (with_reducible assumption) | assumption)
      have q113 : x6_1 < (l0.length : Int) := of_decide_eq_true (by first | (with_reducible assumption) | assumption)
      obtain ⟨ad113, A113_1, c113_1, e113, hx113_0, hx113_1, hl113_1, hi113_1⟩ := at_T61 (Kd.V_reads' HO_0.out).2.2 x6_1 p113 q113
      cases e113
      obtain ⟨ce113, hce113, hMe113, hcc113⟩ := Kd.V_get HO_0.out z61 x6_1 p113 (by first | exact q113 | exact of_decide_eq_true (by first | (with_reducible assumption) | assumption) | (have e_ := (Kd.V_reads' HO_0.out).1; omega))
      obtain ⟨ua113_1, uc113_1, rfl, ul113_1, ge113_1⟩ := k61_openF hMe113
      have hv113_1 := hcc113 1 _ rfl
      rw [add_field _ _ 1 (by omega)] at hv113_1
      replace hv113_1 := Option.some.inj (hv113_1.symm.trans hx113_1)
      injection hv113_1 with hva_ hvn_ hvc_
      rw [hva_] at ge113_1
      rw [hvc_] at ul113_1
      have HL113_1 := Aside0.mk (show Kd.V (Kd.int .u8) 5 _ w.heap.size _ _ ((rd_T61 l0 x6_1).f1) from Kd.V_mk ul113_1 ge113_1)
      clear hva_ hvn_ hvc_ ge113_1 ul113_1
      clear hcc113 hce113
      have HR113_1 := Aside0.mk hi113_1
      have HC113_1 := Aside0.mk hl113_1
      clear hi113_1 hl113_1
      replace p113 := eq_true p113
      replace q113 := eq_true q113
      go_wp2
      go_roundg k1
      case measure => have := HK1.out; omega
      case rel => exact ⟨(x5_1), (wrap64 (x6_1 + 1)), (by first | rfl | (simp; done) | (simp [*]; done)), H', ⟨by have := HK1.out; omega⟩, ⟨by (with_reducible repeat (first | apply Kd.V_alloc | apply Kd.V_drewN | apply Kd.V_drew)); exact HO_0.out⟩, ⟨by (with_reducible repeat (first | apply Kd.N_alloc | apply Kd.N_drewN | apply Kd.N_drew)); exact HO_5.out⟩, ⟨Rgn.bq HB.out⟩⟩
     ·
      rw [if_neg c7] at H
      have c7b0 : (((rd_T61 l0 x6_1).f0) == a1) = false := beq_eq_false_iff_ne.mpr c7
      have c7b1 : (((rd_T61 l0 x6_1).f0) != a1) = true := bne_iff_ne.mpr c7
      by_cases c8 : x5_1.length < 4398046511104
      ·
       rw [if_pos c8] at H
       have LMc8 := Aside0.mk c8
       clear c8
       obtain ⟨y115, hy115⟩ : ∃ y_ : List (S61), y_ = (x5_1 ++ [(⟨(rd_T61 l0 x6_1).f0, (rd_T61 l0 x6_1).f1⟩ : S61)]) := ⟨_, rfl⟩
       replace H : (spec_l5Without.l0 k1 l0 a1 y115 (wrap64 (x6_1 + 1))) = some r := by first | (rw [hy115]; with_reducible exact H) | (have H2_ := (Option.bind_some _ _).symm.trans H; rw [hy115]; with_reducible exact H2_) | (have H2_ := (Option.bind_some _ _).symm.trans H; with_reducible exact H2_) | with_reducible exact H | (rw [hy115]; exact H) | exact H
       have Ny115 := Aside0.mk hy115
       clear hy115
       have H' := Aside0.mk H
       clear H
       have p113 : 0 ≤ (x6_1 : Int) := of_decide_eq_true (by first | (with_reducible assumption) | assumption)
       have q113 : x6_1 < (l0.length : Int) := of_decide_eq_true (by first | (with_reducible assumption) | assumption)
       obtain ⟨ad113, A113_1, c113_1, e113, hx113_0, hx113_1, hl113_1, hi113_1⟩ := at_T61 (Kd.V_reads' HO_0.out).2.2 x6_1 p113 q113
       cases e113
       obtain ⟨ce113, hce113, hMe113, hcc113⟩ := Kd.V_get HO_0.out z61 x6_1 p113 (by first | exact q113 | exact of_decide_eq_true (by first | (with_reducible assumption) | assumption) | (have e_ := (Kd.V_reads' HO_0.out).1; omega))
       obtain ⟨ua113_1, uc113_1, rfl, ul113_1, ge113_1⟩ := k61_openF hMe113
       have hv113_1 := hcc113 1 _ rfl
       rw [add_field _ _ 1 (by omega)] at hv113_1
       replace hv113_1 := Option.some.inj (hv113_1.symm.trans hx113_1)
       injection hv113_1 with hva_ hvn_ hvc_
       rw [hva_] at ge113_1
       rw [hvc_] at ul113_1
       have HL113_1 := Aside0.mk (show Kd.V (Kd.int .u8) 5 _ w.heap.size _ _ ((rd_T61 l0 x6_1).f1) from Kd.V_mk ul113_1 ge113_1)
       clear hva_ hvn_ hvc_ ge113_1 ul113_1
       clear hcc113 hce113
       have HR113_1 := Aside0.mk hi113_1
       have HC113_1 := Aside0.mk hl113_1
       clear hi113_1 hl113_1
       replace p113 := eq_true p113
       replace q113 := eq_true q113
       have p114 : 0 ≤ (x6_1 : Int) := of_decide_eq_true (by first | (with_reducible assumption) | assumption)
       have q114 : x6_1 < (l0.length : Int) := of_decide_eq_true (by first | (with_reducible assumption) | assumption)
       obtain ⟨ad114, A114_1, c114_1, e114, hx114_0, hx114_1, hl114_1, hi114_1⟩ := at_T61 (Kd.V_reads' HO_0.out).2.2 x6_1 p114 q114
       obtain rfl : ad113 = ad114 := (by injection e114)
       obtain ⟨ce114, hce114, hMe114, hcc114⟩ := Kd.V_get HO_0.out z61 x6_1 p114 (by first | exact q114 | exact of_decide_eq_true (by first | (with_reducible assumption) | assumption) | (have e_ := (Kd.V_reads' HO_0.out).1; omega))
       obtain ⟨ua114_1, uc114_1, rfl, ul114_1, ge114_1⟩ := k61_openF hMe114
       have hv114_1 := hcc114 1 _ rfl
       rw [add_field _ _ 1 (by omega)] at hv114_1
       replace hv114_1 := Option.some.inj (hv114_1.symm.trans hx114_1)
       injection hv114_1 with hva_ hvn_ hvc_
       rw [hva_] at ge114_1
       rw [hvc_] at ul114_1
       have HL114_1 := Aside0.mk (show Kd.V (Kd.int .u8) 5 _ w.heap.size _ _ ((rd_T61 l0 x6_1).f1) from Kd.V_mk ul114_1 ge114_1)
       clear hva_ hvn_ hvc_ ge114_1 ul114_1
       clear hcc114 hce114
       have HR114_1 := Aside0.mk hi114_1
       have HC114_1 := Aside0.mk hl114_1
       clear hi114_1 hl114_1
       replace p114 := eq_true p114
       replace q114 := eq_true q114
       have ea_ := Option.some.inj (hx113_1.symm.trans hx114_1)
       injection ea_ with ea_ en_ ec_
       subst ea_
       subst ec_
       clear en_
       go_wp2_with (first | ((with_reducible refine gate_builtin (b := .append) (xs := #[.tmp 21, .tmp 26]) rfl ?_); at_builtin; refine Kd.N_append k61 (w0 := w) w.heap.size rfl (.tmp 21) (.tmp 26) 32 61 (.agg #[(.int .i64 0), (.slice none 0 0)]) 32 rfl Try.underlying32 info61 rfl (by decide) (by omega) u5 x5_1 (⟨(rd_T61 l0 x6_1).f0, (rd_T61 l0 x6_1).f1⟩ : S61) [.int .i64 ((rd_T61 l0 x6_1).f0), .slice A113_1 ((rd_T61 l0 x6_1).f1).length c113_1] (fun k_ => (P0_ k_ ∨ w.heap.size ≤ k_)) (fun k_ => ((fun k_ => (P0_ k_ ∨ w.heap.size ≤ k_))) k_ ∧ some k_ ≠ (u5 : Value).ownBlock) rfl rfl ?aP (fun _ hk => hk) ?aF ?aO ?aB ?aS ?aL ?_; (case aP => exact (k61_mkF _ _ (⟨(rd_T61 l0 x6_1).f0, (rd_T61 l0 x6_1).f1⟩ : S61) (Kd.V_reads' (Kd.V_mono (ok' := (fun k_ => ((fun k_ => (P0_ k_ ∨ w.heap.size ≤ k_))) k_ ∧ some k_ ≠ (u5 : Value).ownBlock)) (HL114_1.out) (fun k_ hk => ⟨hk.1, hk.2⟩))).2.1 (Kd.V_F (Kd.V_mono (ok' := (fun k_ => ((fun k_ => (P0_ k_ ∨ w.heap.size ≤ k_))) k_ ∧ some k_ ≠ (u5 : Value).ownBlock)) (HL114_1.out) (fun k_ hk => ⟨hk.1, hk.2⟩))))); (case aB => exact (Rgn.bq HB.out)); (case aF => exact (fun k_ hk => (.inr (Nat.le_trans (below_size (Rgn.bq HB.out)) hk)))); (case aO => exact (Rgn.nq HO_5.out)); (case aS => exact (below_size (Rgn.bq HB.out))); (case aL => have := LMc8.out; omega); intro v116 w9 ho hb hg hat; rw [← Ny115.out] at ho; replace HO_0 := Aside0.mk (Kd.V_afterv (ok := (fun k_ => (P0_ k_ ∨ w.heap.size ≤ k_))) (by (with_reducible repeat (first | apply Kd.V_alloc | apply Kd.V_drewN | apply Kd.V_drew)); exact HO_0.out) hg hat); replace HL113_1 := Aside0.mk (Kd.V_afterv (ok := (fun k_ => (P0_ k_ ∨ w.heap.size ≤ k_))) (by (with_reducible repeat (first | apply Kd.V_alloc | apply Kd.V_drewN | apply Kd.V_drew)); exact HL113_1.out) hg hat); replace HL114_1 := Aside0.mk (Kd.V_afterv (ok := (fun k_ => (P0_ k_ ∨ w.heap.size ≤ k_))) (by (with_reducible repeat (first | apply Kd.V_alloc | apply Kd.V_drewN | apply Kd.V_drew)); exact HL114_1.out) hg hat); replace HB := Aside0.mk (hb); have HO117 := Aside0.mk (ho); clear HO_5; clear ho hb hg hat))
       go_roundg k1
       case measure => have := HK1.out; omega
       case rel => exact ⟨(y115), (wrap64 (x6_1 + 1)), (by first | rfl | (simp; done) | (simp [*]; done)), H', ⟨by have := HK1.out; omega⟩, ⟨by (with_reducible repeat (first | apply Kd.V_alloc | apply Kd.V_drewN | apply Kd.V_drew)); exact HO_0.out⟩, ⟨by (with_reducible repeat (first | apply Kd.N_alloc | apply Kd.N_drewN | apply Kd.N_drew)); exact HO117.out⟩, ⟨Rgn.bq HB.out⟩⟩
      ·
       rw [if_neg c8] at H
       exact absurd H (by simp)
    ·
     rw [if_neg c6] at H
     exact absurd H (by simp)
   ·
    rw [if_neg c5] at H
    have c5b0 : decide (x6_1 < (l0.length : Int)) = false := decide_eq_false c5
    clear c5
    obtain rfl := Option.some.inj H
    go_wp2
    go_ret
    exact ⟨_, by first | rfl | (simp [errW_none, errW_some] <;> rfl) | (simp [*, errW_none, errW_some] <;> rfl), by (with_reducible repeat (first | apply Kd.N_alloc | apply Kd.N_drewN | apply Kd.N_drew)); exact HO_5.out, Rgn.bq HB.out⟩

/-! ### spec_l1Copy: function 47 -/
def spec_l1Copy.f (l0 : List Int) : Option (List Int) := (some (([] : List Int) : List Int)).bind fun y118 => (if y118.length + l0.length < 140737488355328 then (some (y118 ++ l0)) else (none))
set_option maxHeartbeats 8000000 in
set_option maxRecDepth 100000 in
theorem spec_l1Copy.calls (A0 : Option Addr) (c0 : Nat) (l0 : List Int) (r : List Int) (w : World) (hr0 : Kd.C (Kd.int .u8) w A0 l0.length l0) (hc0 : l0.length ≤ c0) (h : spec_l1Copy.f l0 = some r) :
  Calls Try.prog 47 #[.slice A0 l0.length c0] w fun e w' => ∃ v0_ : Value, e = .returned (v0_) ∧ Kd.R (Kd.int .u8) 5 w' w.heap.size (fun _ => True) v0_ r ∧ Below w.heap.size w w' := by
 have HR0 := Aside0.mk hr0
 have HC0 := Aside0.mk hc0
 clear hr0 hc0
 have HB := Aside0.mk (Below.refl w.heap.size w)
 have H : ((some (([] : List Int) : List Int)).bind fun y118 => (if y118.length + l0.length < 140737488355328 then (some (y118 ++ l0)) else (none))) = some r := h
 clear h
 obtain ⟨y118, hy118⟩ : ∃ y_ : List Int, y_ = (([] : List Int)) := ⟨_, rfl⟩
 replace H : (if y118.length + l0.length < 140737488355328 then (some (y118 ++ l0)) else (none)) = some r := by first | (rw [hy118]; with_reducible exact H) | (have H2_ := (Option.bind_some _ _).symm.trans H; rw [hy118]; with_reducible exact H2_) | (have H2_ := (Option.bind_some _ _).symm.trans H; with_reducible exact H2_) | with_reducible exact H | (rw [hy118]; exact H) | exact H
 have Ny118 := Aside0.mk hy118
 clear hy118
 by_cases c2 : y118.length + l0.length < 140737488355328
 ·
  rw [if_pos c2] at H
  have LMc2 := Aside0.mk c2
  clear c2
  obtain ⟨y121, hy121⟩ : ∃ y_ : List Int, y_ = (y118 ++ l0) := ⟨_, rfl⟩
  replace H : (some y121) = some r := by first | (rw [hy121]; with_reducible exact H) | (have H2_ := (Option.bind_some _ _).symm.trans H; rw [hy121]; with_reducible exact H2_) | (have H2_ := (Option.bind_some _ _).symm.trans H; with_reducible exact H2_) | with_reducible exact H | (rw [hy121]; exact H) | exact H
  have Ny121 := Aside0.mk hy121
  clear hy121
  obtain rfl := Option.some.inj H
  go_enter Try.func47, Try.ntmps47
  go_wp2_with (first | ((with_reducible refine gate_dst (N := 3) rfl ?_); refine Kd.R_lit (Kd.int .u8) _ 5 ?hg (N := 3) ?hd (xs := ([] : List Int)) (inner := []) (ok := fun _ => True) (okp := fun _ => True) ?hr ?hp (fun _ hk => hk) trivial (Below.refl _ _) (Nat.le_refl _) (by simp) ?_; (case hd => rfl); (case hg => rfl); (case hr => first | (go_simp; done) | (go_simp; rfl)); (case hp => exact (Reps.none _ _)); intro v119 w3 ho4 hb hg_ hnew_; clear hg_ hnew_; (first | rw [← Ny118.out] at ho4 | (simp only [Int.reduceToNat] at ho4; rw [← Ny118.out] at ho4)); have HO120 := Aside0.mk (Kd.R_lower ho4 (below_size (Rgn.bq HB.out))); replace HB := Aside0.mk (below_step (Rgn.bq HB.out) hb); clear hb ho4) | ((with_reducible refine gate_builtin (b := .append) (xs := #[.tmp 3, .tmp 4]) rfl ?_); at_builtin; refine Kd.R_append_rows (Kd.int .u8) (w0 := w) w.heap.size rfl (.tmp 3) (.tmp 4) 59 5 (.int .u8 0) 1 rfl Try.underlying59 info5 rfl (by decide) (by omega) v119 y118 l0 _ _ _ (fun _ => True) (fun _ => False) rfl rfl ?aO ?aR (fun _ _ h => h) (fun _ h => h.elim) ?aF ?aB ?aS ?aL ?_; (case aR => exact Rgn.cq (Kd.C_below HR0.out HB.out)); (case aB => exact (Rgn.bq HB.out)); (case aF => exact (fun _ _ => trivial)); (case aO => exact (Rgn.rq HO120.out)); (case aS => exact (below_size (Rgn.bq HB.out))); (case aL => have := LMc2.out; omega); intro v122 w5 ho hb hg hat; rw [← Ny121.out] at ho; replace HB := Aside0.mk (hb); have HO123 := Aside0.mk (ho); clear HO120; clear ho hb hg hat))
  go_ret
  exact ⟨_, by first | rfl | (simp [errW_none, errW_some] <;> rfl) | (simp [*, errW_none, errW_some] <;> rfl), Rgn.rq HO123.out, Rgn.bq HB.out⟩
 ·
  rw [if_neg c2] at H
  exact absurd H (by simp)

end Go.Proofs.Ytkehfdadplpaeaa.PFnExactSurvivors
