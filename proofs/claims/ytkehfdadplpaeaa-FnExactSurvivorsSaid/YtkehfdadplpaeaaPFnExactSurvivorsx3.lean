-- written by a program of this session (wip/src/print2.py)
import Derived.Test.YtkehfdadplpaeaaPFnExactSurvivorsx0
import Derived.Test.YtkehfdadplpaeaaPFnExactSurvivorsx1
import Derived.Test.YtkehfdadplpaeaaPFnExactSurvivorsx2
namespace Go.Proofs.Ytkehfdadplpaeaa.PFnExactSurvivors
open Go.RowKit Go.Proofs.YtkehfdadplpaeaaW.PrintWords Go.Proofs.YtkehfdadplpaeaaW.PrintLast Go.Proofs.YtkehfdadplpaeaaW.PrintMore
attribute [local go_sem] max2_int min2_int max_two min_two max_three min_three max_four min_four   -- for this text's walks alone
set_option linter.unusedVariables false
set_option linter.unusedSimpArgs false

/-! ### spec_Survivors: function 13 -/
mutual
def spec_Survivors.l0 : Nat → List (S34) → Int → Int → Option ((List (S61)))
 | 0, _, _, _ => none
 | k + 1, x0, x3, x4 => if x4 < (x0.length : Int) then (if 0 ≤ x4 then (spec_Survivors.l0 k x0 (wrap64 ((wrap64 (x3 + (((rd_T34 x0 x4).f1).length : Int))) + (((rd_T34 x0 x4).f2).length : Int))) (wrap64 (x4 + 1))) else (none)) else ((some (([] : List (S61)) : List (S61))).bind fun y153 => (if (x0.length : Int) > 512 then (spec_Survivors.j1 k x0 y153 true) else (spec_Survivors.j1 k x0 y153 (decide (x3 > 10000)))))
def spec_Survivors.j1 : Nat → List (S34) → List (S61) → Bool → Option ((List (S61)))
 | 0, _, _, _ => none
 | k + 1, x0, x5, x37 => if x37 = true then (some x5) else (spec_Survivors.l1 k x0 x5 0)
def spec_Survivors.l1 : Nat → List (S34) → List (S61) → Int → Option ((List (S61)))
 | 0, _, _, _ => none
 | k + 1, x0, x5, x6 => if x6 < (x0.length : Int) then (spec_Survivors.l2 k x0 x5 x6 0) else (some x5)
def spec_Survivors.l2 : Nat → List (S34) → List (S61) → Int → Int → Option ((List (S61)))
 | 0, _, _, _, _ => none
 | k + 1, x0, x5, x6, x7 => if 0 ≤ x6 then (if x6 < (x0.length : Int) then (if x7 < (((rd_T34 x0 x6).f2).length : Int) then (if 0 ≤ x7 then ((spec_l5Without.f k x5 (rd ((rd_T34 x0 x6).f2) x7)).bind fun t159 => (spec_Survivors.l2 k x0 t159 x6 (wrap64 (x7 + 1)))) else (none)) else (spec_Survivors.l3 k x0 x5 x6 0)) else (none)) else (none)
def spec_Survivors.l3 : Nat → List (S34) → List (S61) → Int → Int → Option ((List (S61)))
 | 0, _, _, _, _ => none
 | k + 1, x0, x5, x6, x8 => if 0 ≤ x6 then (if x6 < (x0.length : Int) then (if x8 < (((rd_T34 x0 x6).f1).length : Int) then (if 0 ≤ x8 then ((spec_l5With.f k x5 ((rd_T61 ((rd_T34 x0 x6).f1) x8).f0) ((rd_T61 ((rd_T34 x0 x6).f1) x8).f1)).bind fun t165 => (spec_Survivors.l3 k x0 t165 x6 (wrap64 (x8 + 1)))) else (none)) else (spec_Survivors.l1 k x0 x5 (wrap64 (x6 + 1)))) else (none)) else (none)
end
def spec_Survivors.f (k : Nat) (l0 : List (S34)) : Option ((List (S61))) := spec_Survivors.l0 k l0 0 0
set_option maxHeartbeats 8000000 in
set_option maxRecDepth 100000 in
theorem spec_Survivors.calls (k : Nat) (A0 : Option Addr) (c0 : Nat) (l0 : List (S34)) (r : List (S61)) (w : World) (hr0 : Kd.C k34 w A0 l0.length l0) (hc0 : l0.length ≤ c0) (h : spec_Survivors.f k l0 = some r) :
  Calls Try.prog 13 #[.slice A0 l0.length c0] w fun e w' => ∃ v0_ : Value, e = .returned (v0_) ∧ Kd.N k61 61 w' w.heap.size (fun k_ => (w.heap.size ≤ k_)) v0_ r ∧ Below w.heap.size w w' := by
 have hu61 := Try.underlying61
 have HR0 := Aside0.mk hr0
 have HC0 := Aside0.mk hc0
 clear hr0 hc0
 have HB := Aside0.mk (Below.refl w.heap.size w)
 have H : (spec_Survivors.l0 k l0 0 0) = some r := h
 clear h
 have H' := Aside0.mk H
 clear H
 go_enter Try.func13, Try.ntmps13
 go_wp2
 repeat (go_quiet (fail); try go_wp2)
 go_loopg [3, 4] k (fun kq v3 v4 w' => ∃ (x3_1 : Int) (x4_1 : Int), v3 = .int .i64 x3_1 ∧ v4 = .int .i64 x4_1 ∧ Aside0 (spec_Survivors.l0 kq l0 x3_1 x4_1 = some r) ∧ Aside0 (kq ≤ k) ∧ Aside0 (Below w.heap.size w w'))
 case atStart => exact ⟨(0), (0), (by first | rfl | (simp; done) | (simp [*]; done)), (by first | rfl | (simp; done) | (simp [*]; done)), H', ⟨Nat.le_refl _⟩, ⟨Rgn.bq HB.out⟩⟩
 case round =>
  clear H'
  try clear c1
  obtain ⟨x3_1, x4_1, rfl, rfl, HA, HK1, HB⟩ := hrel
  cases gk with
  | zero => exact absurd HA.out (by simp [spec_Survivors.l0])
  | succ k1 =>
   have H := HA.out
   clear HA
   simp only [spec_Survivors.l0] at H
   by_cases c2 : x4_1 < (l0.length : Int)
   ·
    rw [if_pos c2] at H
    have c2b0 : decide (x4_1 < (l0.length : Int)) = true := decide_eq_true c2
    clear c2
    by_cases c3 : 0 ≤ x4_1
    ·
     rw [if_pos c3] at H
     have c3b0 : decide (0 ≤ x4_1) = true := decide_eq_true c3
     clear c3
     have H' := Aside0.mk H
     clear H
     have p151 : 0 ≤ (x4_1 : Int) := of_decide_eq_true (by first | (with_reducible assumption) | assumption)
     have q151 : x4_1 < (l0.length : Int) := of_decide_eq_true (by first | (with_reducible assumption) | assumption)
     obtain ⟨ad151, A151_1, c151_1, A151_2, c151_2, e151, hx151_0, hx151_1, hx151_2, hl151_1, hi151_1, hl151_2, hi151_2⟩ := at_T34 HR0.out x4_1 p151 q151
     cases e151
     replace hx151_0 := Rgn.hx HB.out hx151_0
     replace hx151_1 := Rgn.hx HB.out hx151_1
     replace hx151_2 := Rgn.hx HB.out hx151_2
     have HR151_1 := Aside0.mk hi151_1
     have HC151_1 := Aside0.mk hl151_1
     clear hi151_1 hl151_1
     have HR151_2 := Aside0.mk hi151_2
     have HC151_2 := Aside0.mk hl151_2
     clear hi151_2 hl151_2
     replace p151 := eq_true p151
     replace q151 := eq_true q151
     have p152 : 0 ≤ (x4_1 : Int) := of_decide_eq_true (by first | (with_reducible assumption) | assumption)
     have q152 : x4_1 < (l0.length : Int) := of_decide_eq_true (by first | (with_reducible assumption) | assumption)
     obtain ⟨ad152, A152_1, c152_1, A152_2, c152_2, e152, hx152_0, hx152_1, hx152_2, hl152_1, hi152_1, hl152_2, hi152_2⟩ := at_T34 HR0.out x4_1 p152 q152
     obtain rfl : ad151 = ad152 := (by injection e152)
     replace hx152_0 := Rgn.hx HB.out hx152_0
     replace hx152_1 := Rgn.hx HB.out hx152_1
     replace hx152_2 := Rgn.hx HB.out hx152_2
     have HR152_1 := Aside0.mk hi152_1
     have HC152_1 := Aside0.mk hl152_1
     clear hi152_1 hl152_1
     have HR152_2 := Aside0.mk hi152_2
     have HC152_2 := Aside0.mk hl152_2
     clear hi152_2 hl152_2
     replace p152 := eq_true p152
     replace q152 := eq_true q152
     have ea_ := Option.some.inj (hx151_1.symm.trans hx152_1)
     injection ea_ with ea_ en_ ec_
     subst ea_
     subst ec_
     clear en_
     have ea_ := Option.some.inj (hx151_2.symm.trans hx152_2)
     injection ea_ with ea_ en_ ec_
     subst ea_
     subst ec_
     clear en_
     go_wp2
     repeat (go_quiet (fail); try go_wp2)
     go_roundg k1
     case measure => have := HK1.out; omega
     case rel => exact ⟨(wrap64 ((wrap64 (x3_1 + (((rd_T34 l0 x4_1).f1).length : Int))) + (((rd_T34 l0 x4_1).f2).length : Int))), (wrap64 (x4_1 + 1)), (by first | rfl | (simp; done) | (simp [*]; done)), (by first | rfl | (simp; done) | (simp [*]; done)), H', ⟨by have := HK1.out; omega⟩, ⟨Rgn.bq HB.out⟩⟩
    ·
     rw [if_neg c3] at H
     exact absurd H (by simp)
   ·
    rw [if_neg c2] at H
    have c2b0 : decide (x4_1 < (l0.length : Int)) = false := decide_eq_false c2
    clear c2
    obtain ⟨y153, hy153⟩ : ∃ y_ : List (S61), y_ = (([] : List (S61))) := ⟨_, rfl⟩
    replace H : (if (l0.length : Int) > 512 then (spec_Survivors.j1 k1 l0 y153 true) else (spec_Survivors.j1 k1 l0 y153 (decide (x3_1 > 10000)))) = some r := by first | (rw [hy153]; with_reducible exact H) | (have H2_ := (Option.bind_some _ _).symm.trans H; rw [hy153]; with_reducible exact H2_) | (have H2_ := (Option.bind_some _ _).symm.trans H; with_reducible exact H2_) | with_reducible exact H | (rw [hy153]; exact H) | exact H
    have Ny153 := Aside0.mk hy153
    clear hy153
    have HC4 := Aside0.mk H
    clear H
    go_upto_region 7 with (first | ((with_reducible refine gate_dst (N := 30) rfl ?_); refine Kd.N_lit k61 _ 61 ?hg (N' := 30) ?hd (xs := ([] : List (S61))) (inner := []) (ok := (fun k_ => (w.heap.size ≤ k_))) (okp := (fun k_ => (w.heap.size ≤ k_))) ?hr ?hp (fun _ hk => hk) ((show ∀ k_, wr.heap.size ≤ k_ → (fun k_ => (w.heap.size ≤ k_)) k_ from fun k_ hk => (Nat.le_trans (below_size (Rgn.bq HB.out)) hk)) _ (Nat.le_refl _)) (Below.refl _ _) (Nat.le_refl _) (by simp) ?_; (case hd => rfl); (case hg => rfl); (case hr => first | (go_simp; done) | (go_simp; rfl)); (case hp => exact (Reps.none _ _)); intro v154 w5 ho6 hb hg_ hnew_; clear hg_ hnew_; (first | rw [← Ny153.out] at ho6 | (simp only [Int.reduceToNat] at ho6; rw [← Ny153.out] at ho6)); have HO155 := Aside0.mk (Kd.N_lower ho6 (below_size (Rgn.bq HB.out))); replace HB := Aside0.mk (below_step (Rgn.bq HB.out) hb); clear hb ho6))
    repeat (go_quiet (first | ((with_reducible refine gate_dst (N := 30) rfl ?_); refine Kd.N_lit k61 _ 61 ?hg (N' := 30) ?hd (xs := ([] : List (S61))) (inner := []) (ok := (fun k_ => (w.heap.size ≤ k_))) (okp := (fun k_ => (w.heap.size ≤ k_))) ?hr ?hp (fun _ hk => hk) ((show ∀ k_, wr.heap.size ≤ k_ → (fun k_ => (w.heap.size ≤ k_)) k_ from fun k_ hk => (Nat.le_trans (below_size (Rgn.bq HB.out)) hk)) _ (Nat.le_refl _)) (Below.refl _ _) (Nat.le_refl _) (by simp) ?_; (case hd => rfl); (case hg => rfl); (case hr => first | (go_simp; done) | (go_simp; rfl)); (case hp => exact (Reps.none _ _)); intro v154 w5 ho6 hb hg_ hnew_; clear hg_ hnew_; (first | rw [← Ny153.out] at ho6 | (simp only [Int.reduceToNat] at ho6; rw [← Ny153.out] at ho6)); have HO155 := Aside0.mk (Kd.N_lower ho6 (below_size (Rgn.bq HB.out))); replace HB := Aside0.mk (below_step (Rgn.bq HB.out) hb); clear hb ho6)); go_upto_region 7 with (first | ((with_reducible refine gate_dst (N := 30) rfl ?_); refine Kd.N_lit k61 _ 61 ?hg (N' := 30) ?hd (xs := ([] : List (S61))) (inner := []) (ok := (fun k_ => (w.heap.size ≤ k_))) (okp := (fun k_ => (w.heap.size ≤ k_))) ?hr ?hp (fun _ hk => hk) ((show ∀ k_, wr.heap.size ≤ k_ → (fun k_ => (w.heap.size ≤ k_)) k_ from fun k_ hk => (Nat.le_trans (below_size (Rgn.bq HB.out)) hk)) _ (Nat.le_refl _)) (Below.refl _ _) (Nat.le_refl _) (by simp) ?_; (case hd => rfl); (case hg => rfl); (case hr => first | (go_simp; done) | (go_simp; rfl)); (case hp => exact (Reps.none _ _)); intro v154 w5 ho6 hb hg_ hnew_; clear hg_ hnew_; (first | rw [← Ny153.out] at ho6 | (simp only [Int.reduceToNat] at ho6; rw [← Ny153.out] at ho6)); have HO155 := Aside0.mk (Kd.N_lower ho6 (below_size (Rgn.bq HB.out))); replace HB := Aside0.mk (below_step (Rgn.bq HB.out) hb); clear hb ho6)))
    (try simp only [Act.put, List.setIfInBounds_toArray, List.set_cons_zero, List.set_cons_succ])
    go_cut [37] (fun v37 wc => ∃ (kq : Nat) (x37_3 : Bool), v37 = .bool x37_3 ∧ Aside0 (spec_Survivors.j1 kq l0 y153 x37_3 = some r) ∧ Aside0 (kq ≤ k1) ∧ Aside0 (Kd.N k61 61 wc w.heap.size (fun k_ => (w.heap.size ≤ k_)) v154 y153) ∧ Aside0 (Below w.heap.size w wc))
    case first =>
     have H := HC4.out
     clear HC4
     by_cases c7 : (l0.length : Int) > 512
     ·
      rw [if_pos c7] at H
      have c7b0 : decide (512 < (l0.length : Int)) = true := decide_eq_true c7
      have c7b1 : decide (512 < l0.length) = true := decide_eq_true (by omega)
      clear c7
      (first | rw [c7b0] | (simp only [i64_w, i32_w]; rw [c7b0]) | skip)
      have H' := Aside0.mk H
      clear H
      go_wp2
      repeat (go_quiet (fail); try go_wp2)
      go_meet
      case rel => exact ⟨_, (true), (by first | rfl | (simp; done) | (simp [*]; done)), H', ⟨by have := HK1.out; first | omega | exact Nat.le_refl _⟩, ⟨by (with_reducible repeat (first | apply Kd.N_alloc | apply Kd.N_drewN | apply Kd.N_drew)); exact HO155.out⟩, ⟨Rgn.bq HB.out⟩⟩
     ·
      rw [if_neg c7] at H
      have c7b0 : decide (512 < (l0.length : Int)) = false := decide_eq_false c7
      have c7b1 : decide (512 < l0.length) = false := decide_eq_false (by omega)
      clear c7
      (first | rw [c7b0] | (simp only [i64_w, i32_w]; rw [c7b0]) | skip)
      have H' := Aside0.mk H
      clear H
      go_wp2
      repeat (go_quiet (fail); try go_wp2)
      go_meet
      case rel => exact ⟨_, (decide (x3_1 > 10000)), (by first | rfl | (simp; done) | (simp [*]; done)), H', ⟨by have := HK1.out; first | omega | exact Nat.le_refl _⟩, ⟨by (with_reducible repeat (first | apply Kd.N_alloc | apply Kd.N_drewN | apply Kd.N_drew)); exact HO155.out⟩, ⟨Rgn.bq HB.out⟩⟩
    case rest =>
     clear HC4
     try clear c1
     try clear p1
     try clear q1
     try clear hx1
     try clear c2
     try clear c2b0
     try clear p2
     try clear c3
     try clear c3b0
     try clear p6
     try clear c7
     try clear c7b0
     try clear c7b1
     try clear hx151_0
     try clear hx151_1
     try clear hx151_2
     try clear hx152_0
     try clear hx152_1
     try clear hx152_2
     try clear p151
     try clear p152
     try clear q151
     try clear q152
     obtain ⟨kq, x37_3, rfl, HA, HJ3, HO_5, HB⟩ := hcut
     cases kq with
     | zero => exact absurd HA.out (by simp [spec_Survivors.j1])
     | succ kj3 =>
      have H := HA.out
      clear HA
      simp only [spec_Survivors.j1] at H
      by_cases c8 : x37_3 = true
      ·
       subst c8
       have H1 : (some y153) = some r := by rw [if_pos rfl] at H; exact H
       clear H
       have H := H1
       clear H1
       obtain rfl := Option.some.inj H
       go_wp2
       repeat (go_quiet (fail); try go_wp2)
       go_ret
       exact ⟨_, by first | rfl | (simp [errW_none, errW_some] <;> rfl) | (simp [*, errW_none, errW_some] <;> rfl), by (with_reducible repeat (first | apply Kd.N_alloc | apply Kd.N_drewN | apply Kd.N_drew)); exact HO_5.out, Rgn.bq HB.out⟩
      ·
       replace c8 := Bool.eq_false_iff.mpr c8
       subst c8
       have H1 : (spec_Survivors.l1 kj3 l0 y153 0) = some r := by rw [if_neg (show ¬ (false = true) by decide)] at H; exact H
       clear H
       have H := H1
       clear H1
       have H' := Aside0.mk H
       clear H
       go_wp2
       repeat (go_quiet (fail); try go_wp2)
       go_loopg [5, 6] kj3 (fun kq v5 v6 w' => ∃ (x5_3 : List (S61)) (x6_3 : Int), v6 = .int .i64 x6_3 ∧ Aside0 (spec_Survivors.l1 kq l0 x5_3 x6_3 = some r) ∧ Aside0 (kq ≤ kj3) ∧ Aside0 (Kd.N k61 61 w' w.heap.size (fun k_ => (w.heap.size ≤ k_)) v5 x5_3) ∧ Aside0 (Below w.heap.size w w'))
       case atStart => exact ⟨(y153), (0), (by first | rfl | (simp; done) | (simp [*]; done)), H', ⟨Nat.le_refl _⟩, ⟨by (with_reducible repeat (first | apply Kd.N_alloc | apply Kd.N_drewN | apply Kd.N_drew)); exact HO_5.out⟩, ⟨Rgn.bq HB.out⟩⟩
       case round =>
        clear H'
        try clear c1
        try clear p1
        try clear q1
        try clear hx1
        try clear c2
        try clear c2b0
        try clear p2
        try clear c3
        try clear c3b0
        try clear p6
        try clear c7
        try clear c7b0
        try clear c7b1
        try clear c8
        try clear hx151_0
        try clear hx151_1
        try clear hx151_2
        try clear hx152_0
        try clear hx152_1
        try clear hx152_2
        try clear p1
        try clear p151
        try clear p152
        try clear p2
        try clear p6
        try clear q1
        try clear q151
        try clear q152
        obtain ⟨x5_3, x6_3, rfl, HA, HK3, HO_5, HB⟩ := hrel
        cases gk with
        | zero => exact absurd HA.out (by simp [spec_Survivors.l1])
        | succ k3 =>
         have H := HA.out
         clear HA
         simp only [spec_Survivors.l1] at H
         by_cases c9 : x6_3 < (l0.length : Int)
         ·
          rw [if_pos c9] at H
          have c9b0 : decide (x6_3 < (l0.length : Int)) = true := decide_eq_true c9
          clear c9
          have H' := Aside0.mk H
          clear H
          go_wp2
          repeat (go_quiet (fail); try go_wp2)
          go_loopg [5, 7] k3 (fun kq v5 v7 w' => ∃ (x5_4 : List (S61)) (x7_4 : Int), v7 = .int .i64 x7_4 ∧ Aside0 (spec_Survivors.l2 kq l0 x5_4 x6_3 x7_4 = some r) ∧ Aside0 (kq ≤ k3) ∧ Aside0 (Kd.N k61 61 w' w.heap.size (fun k_ => (w.heap.size ≤ k_)) v5 x5_4) ∧ Aside0 (Below w.heap.size w w'))
          case atStart => exact ⟨(x5_3), (0), (by first | rfl | (simp; done) | (simp [*]; done)), H', ⟨Nat.le_refl _⟩, ⟨by (with_reducible repeat (first | apply Kd.N_alloc | apply Kd.N_drewN | apply Kd.N_drew)); exact HO_5.out⟩, ⟨Rgn.bq HB.out⟩⟩
          case round =>
           clear H'
           try clear c1
           try clear p1
           try clear q1
           try clear hx1
           try clear c2
           try clear c2b0
           try clear p2
           try clear c3
           try clear c3b0
           try clear p6
           try clear c7
           try clear c7b0
           try clear c7b1
           try clear c8
           try clear c9
           try clear c9b0
           try clear hx151_0
           try clear hx151_1
           try clear hx151_2
           try clear hx152_0
           try clear hx152_1
           try clear hx152_2
           try clear p1
           try clear p151
           try clear p152
           try clear p2
           try clear p6
           try clear q1
           try clear q151
           try clear q152
           obtain ⟨x5_4, x7_4, rfl, HA, HK4, HO_5, HB⟩ := hrel
           cases gk with
           | zero => exact absurd HA.out (by simp [spec_Survivors.l2])
           | succ k4 =>
            have H := HA.out
            clear HA
            simp only [spec_Survivors.l2] at H
            by_cases c10 : 0 ≤ x6_3
            ·
             rw [if_pos c10] at H
             have c10b0 : decide (0 ≤ x6_3) = true := decide_eq_true c10
             clear c10
             by_cases c11 : x6_3 < (l0.length : Int)
             ·
              rw [if_pos c11] at H
              have c11b0 : decide (x6_3 < (l0.length : Int)) = true := decide_eq_true c11
              clear c11
              by_cases c12 : x7_4 < (((rd_T34 l0 x6_3).f2).length : Int)
              ·
               rw [if_pos c12] at H
               have c12b0 : decide (x7_4 < (((rd_T34 l0 x6_3).f2).length : Int)) = true := decide_eq_true c12
               clear c12
               by_cases c13 : 0 ≤ x7_4
               ·
                rw [if_pos c13] at H
                have c13b0 : decide (0 ≤ x7_4) = true := decide_eq_true c13
                clear c13
                replace H := Option.bind_eq_some_iff.mp H
                obtain ⟨t159, A140, H⟩ := H
                replace H : (spec_Survivors.l2 k4 l0 t159 x6_3 (wrap64 (x7_4 + 1))) = some r := H
                have A14 := Aside0.mk A140
                clear A140
                have H' := Aside0.mk H
                clear H
                have p156 : 0 ≤ (x6_3 : Int) := of_decide_eq_true (by first | (with_reducible assumption) | assumption)
                have q156 : x6_3 < (l0.length : Int) := of_decide_eq_true (by first | (with_reducible assumption) | assumption)
                obtain ⟨ad156, A156_1, c156_1, A156_2, c156_2, e156, hx156_0, hx156_1, hx156_2, hl156_1, hi156_1, hl156_2, hi156_2⟩ := at_T34 HR0.out x6_3 p156 q156
                cases e156
                replace hx156_0 := Rgn.hx HB.out hx156_0
                replace hx156_1 := Rgn.hx HB.out hx156_1
                replace hx156_2 := Rgn.hx HB.out hx156_2
                have HR156_1 := Aside0.mk hi156_1
                have HC156_1 := Aside0.mk hl156_1
                clear hi156_1 hl156_1
                have HR156_2 := Aside0.mk hi156_2
                have HC156_2 := Aside0.mk hl156_2
                clear hi156_2 hl156_2
                replace p156 := eq_true p156
                replace q156 := eq_true q156
                have p157 : 0 ≤ (x6_3 : Int) := of_decide_eq_true (by first | (with_reducible assumption) | assumption)
                have q157 : x6_3 < (l0.length : Int) := of_decide_eq_true (by first | (with_reducible assumption) | assumption)
                obtain ⟨ad157, A157_1, c157_1, A157_2, c157_2, e157, hx157_0, hx157_1, hx157_2, hl157_1, hi157_1, hl157_2, hi157_2⟩ := at_T34 HR0.out x6_3 p157 q157
                obtain rfl : ad156 = ad157 := (by injection e157)
                replace hx157_0 := Rgn.hx HB.out hx157_0
                replace hx157_1 := Rgn.hx HB.out hx157_1
                replace hx157_2 := Rgn.hx HB.out hx157_2
                have HR157_1 := Aside0.mk hi157_1
                have HC157_1 := Aside0.mk hl157_1
                clear hi157_1 hl157_1
                have HR157_2 := Aside0.mk hi157_2
                have HC157_2 := Aside0.mk hl157_2
                clear hi157_2 hl157_2
                replace p157 := eq_true p157
                replace q157 := eq_true q157
                have ea_ := Option.some.inj (hx156_1.symm.trans hx157_1)
                injection ea_ with ea_ en_ ec_
                subst ea_
                subst ec_
                clear en_
                have ea_ := Option.some.inj (hx156_2.symm.trans hx157_2)
                injection ea_ with ea_ en_ ec_
                subst ea_
                subst ec_
                clear en_
                have p158 : 0 ≤ (x7_4 : Int) := of_decide_eq_true (by first | (with_reducible assumption) | assumption)
                have q158 : x7_4 < (((rd_T34 l0 x6_3).f2).length : Int) := of_decide_eq_true (by first | (with_reducible assumption) | assumption)
                obtain ⟨ad158, e158, hx158_0⟩ := Kd.at_int HR157_2.out x7_4 p158 q158
                cases e158
                replace hx158_0 := Rgn.hx HB.out hx158_0
                replace p158 := eq_true p158
                replace q158 := eq_true q158
                obtain ⟨Ao15, co15, eo15⟩ := Kd.N_slice HO_5.out
                subst eo15
                go_wp2_with (first | (go_at_call 32; (with_reducible refine (spec_l5Without.calls k4 (fun k_ => (w.heap.size ≤ k_)) _ _ x5_4 (rd ((rd_T34 l0 x6_3).f2) x7_4) t159 _ ?side1 A14.out).mono ?_); (case side1 => exact Kd.N_V (HO_5.out)); rintro e w16 ⟨v160, rfl, ho0, hb⟩; replace HO_5 := Aside0.mk (Kd.N_elder' (Rgn.nq HO_5.out) (Kd.N_base ho0) hb); have HO161 := Aside0.mk (Kd.N_lower (Kd.N_mono (ok' := fun k_ => (w.heap.size ≤ k_)) ho0 (fun k_ hk_ => Or.elim hk_ (fun hs_ => hs_) (fun hn_ => (Nat.le_trans (below_size (Rgn.bq HB.out)) hn_)))) (below_size (Rgn.bq HB.out))); replace HB := Aside0.mk (below_step (Rgn.bq HB.out) hb); (try clear hb); (try clear ho0)))
                repeat (go_quiet (first | (go_at_call 32; (with_reducible refine (spec_l5Without.calls k4 (fun k_ => (w.heap.size ≤ k_)) _ _ x5_4 (rd ((rd_T34 l0 x6_3).f2) x7_4) t159 _ ?side1 A14.out).mono ?_); (case side1 => exact Kd.N_V (HO_5.out)); rintro e w16 ⟨v160, rfl, ho0, hb⟩; replace HO_5 := Aside0.mk (Kd.N_elder' (Rgn.nq HO_5.out) (Kd.N_base ho0) hb); have HO161 := Aside0.mk (Kd.N_lower (Kd.N_mono (ok' := fun k_ => (w.heap.size ≤ k_)) ho0 (fun k_ hk_ => Or.elim hk_ (fun hs_ => hs_) (fun hn_ => (Nat.le_trans (below_size (Rgn.bq HB.out)) hn_)))) (below_size (Rgn.bq HB.out))); replace HB := Aside0.mk (below_step (Rgn.bq HB.out) hb); (try clear hb); (try clear ho0))); try go_wp2_with (first | (go_at_call 32; (with_reducible refine (spec_l5Without.calls k4 (fun k_ => (w.heap.size ≤ k_)) _ _ x5_4 (rd ((rd_T34 l0 x6_3).f2) x7_4) t159 _ ?side1 A14.out).mono ?_); (case side1 => exact Kd.N_V (HO_5.out)); rintro e w16 ⟨v160, rfl, ho0, hb⟩; replace HO_5 := Aside0.mk (Kd.N_elder' (Rgn.nq HO_5.out) (Kd.N_base ho0) hb); have HO161 := Aside0.mk (Kd.N_lower (Kd.N_mono (ok' := fun k_ => (w.heap.size ≤ k_)) ho0 (fun k_ hk_ => Or.elim hk_ (fun hs_ => hs_) (fun hn_ => (Nat.le_trans (below_size (Rgn.bq HB.out)) hn_)))) (below_size (Rgn.bq HB.out))); replace HB := Aside0.mk (below_step (Rgn.bq HB.out) hb); (try clear hb); (try clear ho0))))
                go_roundg k4
                case measure => have := HK1.out; have := HJ3.out; have := HK3.out; have := HK4.out; omega
                case rel => exact ⟨(t159), (wrap64 (x7_4 + 1)), (by first | rfl | (simp; done) | (simp [*]; done)), H', ⟨by have := HK1.out; have := HJ3.out; have := HK3.out; have := HK4.out; omega⟩, ⟨by (with_reducible repeat (first | apply Kd.N_alloc | apply Kd.N_drewN | apply Kd.N_drew)); exact HO161.out⟩, ⟨Rgn.bq HB.out⟩⟩
               ·
                rw [if_neg c13] at H
                exact absurd H (by simp)
              ·
               rw [if_neg c12] at H
               have c12b0 : decide (x7_4 < (((rd_T34 l0 x6_3).f2).length : Int)) = false := decide_eq_false c12
               clear c12
               have H' := Aside0.mk H
               clear H
               have p156 : 0 ≤ (x6_3 : Int) := of_decide_eq_true (by first | (with_reducible assumption) | assumption)
               have q156 : x6_3 < (l0.length : Int) := of_decide_eq_true (by first | (with_reducible assumption) | assumption)
               obtain ⟨ad156, A156_1, c156_1, A156_2, c156_2, e156, hx156_0, hx156_1, hx156_2, hl156_1, hi156_1, hl156_2, hi156_2⟩ := at_T34 HR0.out x6_3 p156 q156
               cases e156
               replace hx156_0 := Rgn.hx HB.out hx156_0
               replace hx156_1 := Rgn.hx HB.out hx156_1
               replace hx156_2 := Rgn.hx HB.out hx156_2
               have HR156_1 := Aside0.mk hi156_1
               have HC156_1 := Aside0.mk hl156_1
               clear hi156_1 hl156_1
               have HR156_2 := Aside0.mk hi156_2
               have HC156_2 := Aside0.mk hl156_2
               clear hi156_2 hl156_2
               replace p156 := eq_true p156
               replace q156 := eq_true q156
               go_wp2
               repeat (go_quiet (fail); try go_wp2)
               go_loopg [5, 8] k4 (fun kq v5 v8 w' => ∃ (x5_5 : List (S61)) (x8_5 : Int), v8 = .int .i64 x8_5 ∧ Aside0 (spec_Survivors.l3 kq l0 x5_5 x6_3 x8_5 = some r) ∧ Aside0 (kq ≤ k4) ∧ Aside0 (Kd.N k61 61 w' w.heap.size (fun k_ => (w.heap.size ≤ k_)) v5 x5_5) ∧ Aside0 (Below w.heap.size w w'))
               case atStart => exact ⟨(x5_4), (0), (by first | rfl | (simp; done) | (simp [*]; done)), H', ⟨Nat.le_refl _⟩, ⟨by (with_reducible repeat (first | apply Kd.N_alloc | apply Kd.N_drewN | apply Kd.N_drew)); exact HO_5.out⟩, ⟨Rgn.bq HB.out⟩⟩
               case round =>
                clear H'
                try clear c1
                try clear p1
                try clear q1
                try clear hx1
                try clear c2
                try clear c2b0
                try clear p2
                try clear c3
                try clear c3b0
                try clear p6
                try clear c7
                try clear c7b0
                try clear c7b1
                try clear c8
                try clear c9
                try clear c9b0
                try clear c10
                try clear c10b0
                try clear c11
                try clear c11b0
                try clear c12
                try clear c12b0
                try clear c13
                try clear c13b0
                try clear c15
                try clear p15
                try clear q15
                try clear hx15
                try clear hx151_0
                try clear hx151_1
                try clear hx151_2
                try clear hx152_0
                try clear hx152_1
                try clear hx152_2
                try clear hx156_0
                try clear hx156_1
                try clear hx156_2
                try clear hx157_0
                try clear hx157_1
                try clear hx157_2
                try clear hx158_0
                try clear p1
                try clear p151
                try clear p152
                try clear p156
                try clear p157
                try clear p158
                try clear p2
                try clear p6
                try clear q1
                try clear q151
                try clear q152
                try clear q156
                try clear q157
                try clear q158
                obtain ⟨x5_5, x8_5, rfl, HA, HK5, HO_5, HB⟩ := hrel
                cases gk with
                | zero => exact absurd HA.out (by simp [spec_Survivors.l3])
                | succ k5 =>
                 have H := HA.out
                 clear HA
                 simp only [spec_Survivors.l3] at H
                 by_cases c17 : 0 ≤ x6_3
                 ·
                  rw [if_pos c17] at H
                  have c17b0 : decide (0 ≤ x6_3) = true := decide_eq_true c17
                  clear c17
                  by_cases c18 : x6_3 < (l0.length : Int)
                  ·
                   rw [if_pos c18] at H
                   have c18b0 : decide (x6_3 < (l0.length : Int)) = true := decide_eq_true c18
                   clear c18
                   by_cases c19 : x8_5 < (((rd_T34 l0 x6_3).f1).length : Int)
                   ·
                    rw [if_pos c19] at H
                    have c19b0 : decide (x8_5 < (((rd_T34 l0 x6_3).f1).length : Int)) = true := decide_eq_true c19
                    clear c19
                    by_cases c20 : 0 ≤ x8_5
                    ·
                     rw [if_pos c20] at H
                     have c20b0 : decide (0 ≤ x8_5) = true := decide_eq_true c20
                     clear c20
                     replace H := Option.bind_eq_some_iff.mp H
                     obtain ⟨t165, A210, H⟩ := H
                     replace H : (spec_Survivors.l3 k5 l0 t165 x6_3 (wrap64 (x8_5 + 1))) = some r := H
                     have A21 := Aside0.mk A210
                     clear A210
                     have H' := Aside0.mk H
                     clear H
                     have p162 : 0 ≤ (x6_3 : Int) := of_decide_eq_true (by first | (with_reducible assumption) | assumption)
                     have q162 : x6_3 < (l0.length : Int) := of_decide_eq_true (by first | (with_reducible assumption) | assumption)
                     obtain ⟨ad162, A162_1, c162_1, A162_2, c162_2, e162, hx162_0, hx162_1, hx162_2, hl162_1, hi162_1, hl162_2, hi162_2⟩ := at_T34 HR0.out x6_3 p162 q162
                     obtain rfl : ad156 = ad162 := (by injection e162)
                     replace hx162_0 := Rgn.hx HB.out hx162_0
                     replace hx162_1 := Rgn.hx HB.out hx162_1
                     replace hx162_2 := Rgn.hx HB.out hx162_2
                     have HR162_1 := Aside0.mk hi162_1
                     have HC162_1 := Aside0.mk hl162_1
                     clear hi162_1 hl162_1
                     have HR162_2 := Aside0.mk hi162_2
                     have HC162_2 := Aside0.mk hl162_2
                     clear hi162_2 hl162_2
                     replace p162 := eq_true p162
                     replace q162 := eq_true q162
                     have p163 : 0 ≤ (x6_3 : Int) := of_decide_eq_true (by first | (with_reducible assumption) | assumption)
                     have q163 : x6_3 < (l0.length : Int) := of_decide_eq_true (by first | (with_reducible assumption) | assumption)
                     obtain ⟨ad163, A163_1, c163_1, A163_2, c163_2, e163, hx163_0, hx163_1, hx163_2, hl163_1, hi163_1, hl163_2, hi163_2⟩ := at_T34 HR0.out x6_3 p163 q163
                     obtain rfl : ad156 = ad163 := (by injection e163)
                     replace hx163_0 := Rgn.hx HB.out hx163_0
                     replace hx163_1 := Rgn.hx HB.out hx163_1
                     replace hx163_2 := Rgn.hx HB.out hx163_2
                     have HR163_1 := Aside0.mk hi163_1
                     have HC163_1 := Aside0.mk hl163_1
                     clear hi163_1 hl163_1
                     have HR163_2 := Aside0.mk hi163_2
                     have HC163_2 := Aside0.mk hl163_2
                     clear hi163_2 hl163_2
                     replace p163 := eq_true p163
                     replace q163 := eq_true q163
                     have ea_ := Option.some.inj (hx162_1.symm.trans hx163_1)
                     injection ea_ with ea_ en_ ec_
                     subst ea_
                     subst ec_
                     clear en_
                     have ea_ := Option.some.inj (hx162_2.symm.trans hx163_2)
                     injection ea_ with ea_ en_ ec_
                     subst ea_
                     subst ec_
                     clear en_
                     have p164 : 0 ≤ (x8_5 : Int) := of_decide_eq_true (by first | (with_reducible assumption) | assumption)
                     have q164 : x8_5 < (((rd_T34 l0 x6_3).f1).length : Int) := of_decide_eq_true (by first | (with_reducible assumption) | assumption)
                     obtain ⟨ad164, A164_1, c164_1, e164, hx164_0, hx164_1, hl164_1, hi164_1⟩ := at_T61 HR163_1.out x8_5 p164 q164
                     cases e164
                     replace hx164_0 := Rgn.hx HB.out hx164_0
                     replace hx164_1 := Rgn.hx HB.out hx164_1
                     have HR164_1 := Aside0.mk hi164_1
                     have HC164_1 := Aside0.mk hl164_1
                     clear hi164_1 hl164_1
                     replace p164 := eq_true p164
                     replace q164 := eq_true q164
                     obtain ⟨Ao22, co22, eo22⟩ := Kd.N_slice HO_5.out
                     subst eo22
                     go_wp2_with (first | (go_at_call 33; (with_reducible refine (spec_l5With.calls k5 (fun k_ => (w.heap.size ≤ k_)) _ _ x5_5 ((rd_T61 ((rd_T34 l0 x6_3).f1) x8_5).f0) _ _ ((rd_T61 ((rd_T34 l0 x6_3).f1) x8_5).f1) t165 _ ?side1 ?side2 ?side3 A21.out).mono ?_); (case side1 => exact Kd.N_V (HO_5.out)); (case side2 => exact Rgn.cq (Kd.C_below HR164_1.out HB.out)); (case side3 => exact HC164_1.out); rintro e w23 ⟨v166, rfl, ho0, hb⟩; replace HO_5 := Aside0.mk (Kd.N_elder' (Rgn.nq HO_5.out) (Kd.N_base ho0) hb); have HO167 := Aside0.mk (Kd.N_lower (Kd.N_mono (ok' := fun k_ => (w.heap.size ≤ k_)) ho0 (fun k_ hk_ => Or.elim hk_ (fun hs_ => hs_) (fun hn_ => (Nat.le_trans (below_size (Rgn.bq HB.out)) hn_)))) (below_size (Rgn.bq HB.out))); replace HB := Aside0.mk (below_step (Rgn.bq HB.out) hb); (try clear hb); (try clear ho0)))
                     repeat (go_quiet (first | (go_at_call 33; (with_reducible refine (spec_l5With.calls k5 (fun k_ => (w.heap.size ≤ k_)) _ _ x5_5 ((rd_T61 ((rd_T34 l0 x6_3).f1) x8_5).f0) _ _ ((rd_T61 ((rd_T34 l0 x6_3).f1) x8_5).f1) t165 _ ?side1 ?side2 ?side3 A21.out).mono ?_); (case side1 => exact Kd.N_V (HO_5.out)); (case side2 => exact Rgn.cq (Kd.C_below HR164_1.out HB.out)); (case side3 => exact HC164_1.out); rintro e w23 ⟨v166, rfl, ho0, hb⟩; replace HO_5 := Aside0.mk (Kd.N_elder' (Rgn.nq HO_5.out) (Kd.N_base ho0) hb); have HO167 := Aside0.mk (Kd.N_lower (Kd.N_mono (ok' := fun k_ => (w.heap.size ≤ k_)) ho0 (fun k_ hk_ => Or.elim hk_ (fun hs_ => hs_) (fun hn_ => (Nat.le_trans (below_size (Rgn.bq HB.out)) hn_)))) (below_size (Rgn.bq HB.out))); replace HB := Aside0.mk (below_step (Rgn.bq HB.out) hb); (try clear hb); (try clear ho0))); try go_wp2_with (first | (go_at_call 33; (with_reducible refine (spec_l5With.calls k5 (fun k_ => (w.heap.size ≤ k_)) _ _ x5_5 ((rd_T61 ((rd_T34 l0 x6_3).f1) x8_5).f0) _ _ ((rd_T61 ((rd_T34 l0 x6_3).f1) x8_5).f1) t165 _ ?side1 ?side2 ?side3 A21.out).mono ?_); (case side1 => exact Kd.N_V (HO_5.out)); (case side2 => exact Rgn.cq (Kd.C_below HR164_1.out HB.out)); (case side3 => exact HC164_1.out); rintro e w23 ⟨v166, rfl, ho0, hb⟩; replace HO_5 := Aside0.mk (Kd.N_elder' (Rgn.nq HO_5.out) (Kd.N_base ho0) hb); have HO167 := Aside0.mk (Kd.N_lower (Kd.N_mono (ok' := fun k_ => (w.heap.size ≤ k_)) ho0 (fun k_ hk_ => Or.elim hk_ (fun hs_ => hs_) (fun hn_ => (Nat.le_trans (below_size (Rgn.bq HB.out)) hn_)))) (below_size (Rgn.bq HB.out))); replace HB := Aside0.mk (below_step (Rgn.bq HB.out) hb); (try clear hb); (try clear ho0))))
                     go_roundg k5
                     case measure => have := HK1.out; have := HJ3.out; have := HK3.out; have := HK4.out; have := HK5.out; omega
                     case rel => exact ⟨(t165), (wrap64 (x8_5 + 1)), (by first | rfl | (simp; done) | (simp [*]; done)), H', ⟨by have := HK1.out; have := HJ3.out; have := HK3.out; have := HK4.out; have := HK5.out; omega⟩, ⟨by (with_reducible repeat (first | apply Kd.N_alloc | apply Kd.N_drewN | apply Kd.N_drew)); exact HO167.out⟩, ⟨Rgn.bq HB.out⟩⟩
                    ·
                     rw [if_neg c20] at H
                     exact absurd H (by simp)
                   ·
                    rw [if_neg c19] at H
                    have c19b0 : decide (x8_5 < (((rd_T34 l0 x6_3).f1).length : Int)) = false := decide_eq_false c19
                    clear c19
                    have H' := Aside0.mk H
                    clear H
                    have p162 : 0 ≤ (x6_3 : Int) := of_decide_eq_true (by first | (with_reducible assumption) | assumption)
                    have q162 : x6_3 < (l0.length : Int) := of_decide_eq_true (by first | (with_reducible assumption) | assumption)
                    obtain ⟨ad162, A162_1, c162_1, A162_2, c162_2, e162, hx162_0, hx162_1, hx162_2, hl162_1, hi162_1, hl162_2, hi162_2⟩ := at_T34 HR0.out x6_3 p162 q162
                    obtain rfl : ad156 = ad162 := (by injection e162)
                    replace hx162_0 := Rgn.hx HB.out hx162_0
                    replace hx162_1 := Rgn.hx HB.out hx162_1
                    replace hx162_2 := Rgn.hx HB.out hx162_2
                    have HR162_1 := Aside0.mk hi162_1
                    have HC162_1 := Aside0.mk hl162_1
                    clear hi162_1 hl162_1
                    have HR162_2 := Aside0.mk hi162_2
                    have HC162_2 := Aside0.mk hl162_2
                    clear hi162_2 hl162_2
                    replace p162 := eq_true p162
                    replace q162 := eq_true q162
                    go_wp2
                    repeat (go_quiet (fail); try go_wp2)
                    go_roundg k5
                    case measure => have := HK1.out; have := HJ3.out; have := HK3.out; have := HK4.out; have := HK5.out; omega
                    case rel => exact ⟨(x5_5), (wrap64 (x6_3 + 1)), (by first | rfl | (simp; done) | (simp [*]; done)), H', ⟨by have := HK1.out; have := HJ3.out; have := HK3.out; have := HK4.out; have := HK5.out; omega⟩, ⟨by (with_reducible repeat (first | apply Kd.N_alloc | apply Kd.N_drewN | apply Kd.N_drew)); exact HO_5.out⟩, ⟨Rgn.bq HB.out⟩⟩
                  ·
                   rw [if_neg c18] at H
                   exact absurd H (by simp)
                 ·
                  rw [if_neg c17] at H
                  exact absurd H (by simp)
             ·
              rw [if_neg c11] at H
              exact absurd H (by simp)
            ·
             rw [if_neg c10] at H
             exact absurd H (by simp)
         ·
          rw [if_neg c9] at H
          have c9b0 : decide (x6_3 < (l0.length : Int)) = false := decide_eq_false c9
          clear c9
          obtain rfl := Option.some.inj H
          go_wp2
          repeat (go_quiet (fail); try go_wp2)
          go_ret
          exact ⟨_, by first | rfl | (simp [errW_none, errW_some] <;> rfl) | (simp [*, errW_none, errW_some] <;> rfl), by (with_reducible repeat (first | apply Kd.N_alloc | apply Kd.N_drewN | apply Kd.N_drew)); exact HO_5.out, Rgn.bq HB.out⟩

end Go.Proofs.Ytkehfdadplpaeaa.PFnExactSurvivors
