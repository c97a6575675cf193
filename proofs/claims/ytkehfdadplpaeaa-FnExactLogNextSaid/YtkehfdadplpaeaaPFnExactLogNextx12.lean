-- written by a program of this session (wip/src/print2.py)
import Derived.Test.YtkehfdadplpaeaaPFnExactLogNextx0
import Derived.Test.YtkehfdadplpaeaaPFnExactLogNextx1
import Derived.Test.YtkehfdadplpaeaaPFnExactLogNextx7
import Derived.Test.YtkehfdadplpaeaaPFnExactLogNextx8
import Derived.Test.YtkehfdadplpaeaaPFnExactLogNextx10
import Derived.Test.YtkehfdadplpaeaaPFnExactLogNextx11
namespace Go.Proofs.Ytkehfdadplpaeaa.PFnExactLogNext
open Go.RowKit Go.Proofs.YtkehfdadplpaeaaW.PrintWords Go.Proofs.YtkehfdadplpaeaaW.PrintLast Go.Proofs.YtkehfdadplpaeaaW.PrintMore
attribute [local go_sem] max2_int min2_int max_two min_two max_three min_three max_four min_four   -- for this text's walks alone
set_option linter.unusedVariables false
set_option linter.unusedSimpArgs false

/-! ### laws_FnExactLogNext: function 3 -/
def laws_FnExactLogNext.f (k : Nat) (a0_0 : Int) (a0_1 : Int) (a0_2 : Int) (a0_3 : Int) (a0_4 : Int) (a1_0 : Int) (l1_1 : List (S68)) (l1_2 : List Int) : Option (Bool) := (laws_szTxn.f k a1_0 l1_1 l1_2 1048576).bind fun t462 => (if t462 < 0 then (some true) else ((laws_toLog.f a0_0 a0_1 a0_2 a0_3 a0_4).bind fun bt463 => ((laws_toTxn.f k a1_0 l1_1 l1_2).bind fun bt468 => ((spec_LogNext.f k bt463.1 bt463.2.1 bt463.2.2.1 bt463.2.2.2.1 bt463.2.2.2.2 bt468.1 bt468.2.1 bt468.2.2).bind fun bt475 => ((laws_toTxn.f k a1_0 l1_1 l1_2).bind fun bt481 => ((laws_toLog.f a0_0 a0_1 a0_2 a0_3 a0_4).bind fun bt489 => ((impl_LogNext.f k bt489.1 bt489.2.1 bt489.2.2.1 bt489.2.2.2.1 bt489.2.2.2.2 bt481.1 bt481.2.1 bt481.2.2).bind fun bt494 => ((laws_eqLog.f bt494.1 bt494.2.1 bt494.2.2.1 bt494.2.2.2.1 bt494.2.2.2.2 bt475.1 bt475.2.1 bt475.2.2.1 bt475.2.2.2.1 bt475.2.2.2.2).bind fun t500 => (if t500 = true then ((laws_toTxn.f k a1_0 l1_1 l1_2).bind fun bt501 => ((laws_eqTxn.f k bt481.1 bt481.2.1 bt481.2.2 bt501.1 bt501.2.1 bt501.2.2).bind fun t508 => (if t508 = true then (some true) else (some false)))) else (some false))))))))))
theorem laws_FnExactLogNext.mono : ∀ a0 a1 a2 a3 a4 a5 a6 a7 k, LeO (laws_FnExactLogNext.f k a0 a1 a2 a3 a4 a5 a6 a7) (laws_FnExactLogNext.f (k + 1) a0 a1 a2 a3 a4 a5 a6 a7) := by
  intro a0 a1 a2 a3 a4 a5 a6 a7 k
  unfold laws_FnExactLogNext.f
  repeat' first
      | (with_reducible exact impl_LogNext.mono _ _ _ _ _ _ _ _ _)
      | (with_reducible exact laws_eqTxn.mono _ _ _ _ _ _ _)
      | (with_reducible exact laws_szTxn.mono _ _ _ _ _)
      | (with_reducible exact laws_toTxn.mono _ _ _ _)
      | (with_reducible exact spec_LogNext.mono _ _ _ _ _ _ _ _ _)
      | (with_reducible exact LeO.refl _)
      | (with_reducible exact LeO.none _)
      | (with_reducible refine LeO.ite ?_ ?_)
      | (with_reducible refine LeO.bind ?_ (fun _ => ?_))
      | exact impl_LogNext.mono _ _ _ _ _ _ _ _ _
      | exact laws_eqTxn.mono _ _ _ _ _ _ _
      | exact laws_szTxn.mono _ _ _ _ _
      | exact laws_toTxn.mono _ _ _ _
      | exact spec_LogNext.mono _ _ _ _ _ _ _ _ _
      | exact LeO.none _
      | refine LeO.ite ?_ ?_
      | refine LeO.bind ?_ (fun _ => ?_)
set_option maxHeartbeats 8000000 in
set_option maxRecDepth 100000 in
theorem laws_FnExactLogNext.calls (k : Nat) (a0_0 : Int) (a0_1 : Int) (a0_2 : Int) (a0_3 : Int) (a0_4 : Int) (a1_0 : Int) (A1_1 : Option Addr) (c1_1 : Nat) (l1_1 : List (S68)) (A1_2 : Option Addr) (c1_2 : Nat) (l1_2 : List Int) (r : Bool) (w : World) (hr1_1 : Kd.C k68 w A1_1 l1_1.length l1_1) (hc1_1 : l1_1.length ≤ c1_1) (hr1_2 : Kd.C (Kd.int .i64) w A1_2 l1_2.length l1_2) (hc1_2 : l1_2.length ≤ c1_2) (h : laws_FnExactLogNext.f k a0_0 a0_1 a0_2 a0_3 a0_4 a1_0 l1_1 l1_2 = some r) (hrt : Aside0 (r = true)) :
    Calls Try.prog 3 #[.agg #[.int .i64 a0_0, .int .i64 a0_1, .int .i64 a0_2, .int .i64 a0_3, .int .i64 a0_4], .agg #[.int .i64 a1_0, .slice A1_1 l1_1.length c1_1, .slice A1_2 l1_2.length c1_2]] w fun e w' => e = .returned (.bool r) ∧ Below w.heap.size w w' := by
  have hu23 := Try.underlying23
  have hu27 := Try.underlying27
  have hu29 := Try.underlying29
  have hu34 := Try.underlying34
  have HR1_1 := Aside0.mk hr1_1
  have HC1_1 := Aside0.mk hc1_1
  clear hr1_1 hc1_1
  have HR1_2 := Aside0.mk hr1_2
  have HC1_2 := Aside0.mk hc1_2
  clear hr1_2 hc1_2
  have HB := Aside0.mk (Below.refl w.heap.size w)
  have H : ((laws_szTxn.f k a1_0 l1_1 l1_2 1048576).bind fun t462 => (if t462 < 0 then (some true) else ((laws_toLog.f a0_0 a0_1 a0_2 a0_3 a0_4).bind fun bt463 => ((laws_toTxn.f k a1_0 l1_1 l1_2).bind fun bt468 => ((spec_LogNext.f k bt463.1 bt463.2.1 bt463.2.2.1 bt463.2.2.2.1 bt463.2.2.2.2 bt468.1 bt468.2.1 bt468.2.2).bind fun bt475 => ((laws_toTxn.f k a1_0 l1_1 l1_2).bind fun bt481 => ((laws_toLog.f a0_0 a0_1 a0_2 a0_3 a0_4).bind fun bt489 => ((impl_LogNext.f k bt489.1 bt489.2.1 bt489.2.2.1 bt489.2.2.2.1 bt489.2.2.2.2 bt481.1 bt481.2.1 bt481.2.2).bind fun bt494 => ((laws_eqLog.f bt494.1 bt494.2.1 bt494.2.2.1 bt494.2.2.2.1 bt494.2.2.2.2 bt475.1 bt475.2.1 bt475.2.2.1 bt475.2.2.2.1 bt475.2.2.2.2).bind fun t500 => (if t500 = true then ((laws_toTxn.f k a1_0 l1_1 l1_2).bind fun bt501 => ((laws_eqTxn.f k bt481.1 bt481.2.1 bt481.2.2 bt501.1 bt501.2.1 bt501.2.2).bind fun t508 => (if t508 = true then (some true) else (some false)))) else (some false))))))))))) = some r := h
  clear h
  replace H := Option.bind_eq_some_iff.mp H
  obtain ⟨t462, A30, H⟩ := H
  replace H : (if t462 < 0 then (some true) else ((laws_toLog.f a0_0 a0_1 a0_2 a0_3 a0_4).bind fun bt463 => ((laws_toTxn.f k a1_0 l1_1 l1_2).bind fun bt468 => ((spec_LogNext.f k bt463.1 bt463.2.1 bt463.2.2.1 bt463.2.2.2.1 bt463.2.2.2.2 bt468.1 bt468.2.1 bt468.2.2).bind fun bt475 => ((laws_toTxn.f k a1_0 l1_1 l1_2).bind fun bt481 => ((laws_toLog.f a0_0 a0_1 a0_2 a0_3 a0_4).bind fun bt489 => ((impl_LogNext.f k bt489.1 bt489.2.1 bt489.2.2.1 bt489.2.2.2.1 bt489.2.2.2.2 bt481.1 bt481.2.1 bt481.2.2).bind fun bt494 => ((laws_eqLog.f bt494.1 bt494.2.1 bt494.2.2.1 bt494.2.2.2.1 bt494.2.2.2.2 bt475.1 bt475.2.1 bt475.2.2.1 bt475.2.2.2.1 bt475.2.2.2.2).bind fun t500 => (if t500 = true then ((laws_toTxn.f k a1_0 l1_1 l1_2).bind fun bt501 => ((laws_eqTxn.f k bt481.1 bt481.2.1 bt481.2.2 bt501.1 bt501.2.1 bt501.2.2).bind fun t508 => (if t508 = true then (some true) else (some false)))) else (some false)))))))))) = some r := H
  have A3 := Aside0.mk A30
  clear A30
  by_cases c4 : t462 < 0
  · rw [if_pos c4] at H
    have c4b0 : decide (t462 < 0) = true := decide_eq_true c4
    clear c4
    obtain rfl := Option.some.inj H
    go_enter Try.func3, Try.ntmps3
    go_wp2_with (first | ((with_reducible refine gate_dst (N := 2) rfl ?_); refine box_event ?hg (N := 2) ?hd (cs := #[.int .i64 a0_0, .int .i64 a0_1, .int .i64 a0_2, .int .i64 a0_3, .int .i64 a0_4]) (t := 23) ?hr ?_; (case hd => rfl); (case hg => rfl); (case hr => first | (go_simp; done) | (go_simp; rfl)); intro gb460 hg w5 hbox hb; have n0_ := Aside0.mk (below_step (Rgn.bq HB.out) hb); have n1_ := Aside0.mk (hbox); have n2_ := Aside0.mk ((by rw [hg]; exact (below_size (Rgn.bq HB.out)) : w.heap.size ≤ gb460)); have n3_ := Aside0.mk ((by rw [hg]; exact (below_size (Rgn.bq HB.out)) : w.heap.size ≤ gb460)); clear HB; have HB := n0_; have BK460 := n1_; have GW460 := n2_; have GE460 := n3_; clear n0_ n1_ n2_ n3_; clear hb hbox hg) | ((with_reducible refine gate_dst (N := 3) rfl ?_); refine box_event ?hg (N := 3) ?hd (cs := #[.int .i64 a1_0, .slice A1_1 l1_1.length c1_1, .slice A1_2 l1_2.length c1_2]) (t := 27) ?hr ?_; (case hd => rfl); (case hg => rfl); (case hr => first | (go_simp; done) | (go_simp; rfl)); intro gb461 hg w6 hbox hb; have n0_ := Aside0.mk (Rgn.bb BK460.out hb); have n1_ := Aside0.mk (below_step (Rgn.bq HB.out) hb); have n2_ := Aside0.mk (hbox); have n3_ := Aside0.mk ((by rw [hg]; exact (below_size (Rgn.bq HB.out)) : w.heap.size ≤ gb461)); have n4_ := Aside0.mk ((by rw [hg]; exact (below_size (Rgn.bq HB.out)) : w.heap.size ≤ gb461)); have n5_ := Aside0.mk ((by rw [hg]; exact Nat.ne_of_lt (blk_lt (g := gb460) (o := .cells #[.int .i64 a0_0, .int .i64 a0_1, .int .i64 a0_2, .int .i64 a0_3, .int .i64 a0_4] 23 (0, 0)) (Rgn.kb BK460.out)) : gb460 ≠ gb461)); have n6_ := Aside0.mk ((by rw [hg]; exact Nat.ne_of_gt (blk_lt (g := gb460) (o := .cells #[.int .i64 a0_0, .int .i64 a0_1, .int .i64 a0_2, .int .i64 a0_3, .int .i64 a0_4] 23 (0, 0)) (Rgn.kb BK460.out)) : gb461 ≠ gb460)); clear BK460; clear HB; have BK460 := n0_; have HB := n1_; have BK461 := n2_; have GW461 := n3_; have GE461 := n4_; have NB460_461 := n5_; have NB461_460 := n6_; clear n0_ n1_ n2_ n3_ n4_ n5_ n6_; clear hb hbox hg; have hnb7 := NB461_460.out; have hnc7 := NB460_461.out; have hcz8_0 : w6.cell? ⟨gb461, 0, none⟩ = some (.int .i64 a1_0) := (blk_cell BK461.out 0).trans rfl; have hcz8_1 : w6.cell? ⟨gb461, 1, none⟩ = some (.slice A1_1 l1_1.length c1_1) := (blk_cell BK461.out 1).trans rfl; have hcz8_2 : w6.cell? ⟨gb461, 2, none⟩ = some (.slice A1_2 l1_2.length c1_2) := (blk_cell BK461.out 2).trans rfl; have hfz8_0 := blk_frozen BK461.out 0; have hfz8_1 := blk_frozen BK461.out 1; have hfz8_2 := blk_frozen BK461.out 2) | ((with_reducible refine gate_callee (f := 5) rfl ?_); refine Rgn.gl (some 11) Try.func5 #[.agg #[.int .i64 a1_0, .slice A1_1 l1_1.length c1_1, .slice A1_2 l1_2.length c1_2], .int .i64 1048576] ?_; (with_reducible refine (laws_szTxn.calls k a1_0 _ _ l1_1 _ _ l1_2 1048576 t462 _ ?side1 ?side2 ?side3 ?side4 A3.out).mono ?_); (case side1 => exact Rgn.cq (Kd.C_below HR1_1.out HB.out)); (case side2 => exact HC1_1.out); (case side3 => exact Rgn.cq (Kd.C_below HR1_2.out HB.out)); (case side4 => exact HC1_2.out); rintro e w9 ⟨rfl, hb⟩; refine ⟨_, rfl, ?_⟩; have n0_ := Aside0.mk (Rgn.bb BK460.out hb); have n1_ := Aside0.mk (Rgn.bb BK461.out hb); have n2_ := Aside0.mk (below_step (Rgn.bq HB.out) hb); clear BK460; clear BK461; clear HB; have BK460 := n0_; have BK461 := n1_; have HB := n2_; clear n0_ n1_ n2_; (try clear hb); (try clear hb2); (try clear hk); (try clear hi)))
    go_ret
    exact ⟨by first | rfl | (simp [errW_none, errW_some] <;> rfl) | (simp [*, errW_none, errW_some] <;> rfl), Rgn.bq HB.out⟩
  · rw [if_neg c4] at H
    have c4b0 : decide (t462 < 0) = false := decide_eq_false c4
    clear c4
    replace H := Option.bind_eq_some_iff.mp H
    obtain ⟨⟨t463, t464, t465, t466, t467⟩, A100, H⟩ := H
    replace H : ((laws_toTxn.f k a1_0 l1_1 l1_2).bind fun bt468 => ((spec_LogNext.f k t463 t464 t465 t466 t467 bt468.1 bt468.2.1 bt468.2.2).bind fun bt475 => ((laws_toTxn.f k a1_0 l1_1 l1_2).bind fun bt481 => ((laws_toLog.f a0_0 a0_1 a0_2 a0_3 a0_4).bind fun bt489 => ((impl_LogNext.f k bt489.1 bt489.2.1 bt489.2.2.1 bt489.2.2.2.1 bt489.2.2.2.2 bt481.1 bt481.2.1 bt481.2.2).bind fun bt494 => ((laws_eqLog.f bt494.1 bt494.2.1 bt494.2.2.1 bt494.2.2.2.1 bt494.2.2.2.2 bt475.1 bt475.2.1 bt475.2.2.1 bt475.2.2.2.1 bt475.2.2.2.2).bind fun t500 => (if t500 = true then ((laws_toTxn.f k a1_0 l1_1 l1_2).bind fun bt501 => ((laws_eqTxn.f k bt481.1 bt481.2.1 bt481.2.2 bt501.1 bt501.2.1 bt501.2.2).bind fun t508 => (if t508 = true then (some true) else (some false)))) else (some false)))))))) = some r := H
    have A10 := Aside0.mk A100
    clear A100
    replace H := Option.bind_eq_some_iff.mp H
    obtain ⟨⟨t468, t469, t472⟩, A110, H⟩ := H
    replace H : ((spec_LogNext.f k t463 t464 t465 t466 t467 t468 t469 t472).bind fun bt475 => ((laws_toTxn.f k a1_0 l1_1 l1_2).bind fun bt481 => ((laws_toLog.f a0_0 a0_1 a0_2 a0_3 a0_4).bind fun bt489 => ((impl_LogNext.f k bt489.1 bt489.2.1 bt489.2.2.1 bt489.2.2.2.1 bt489.2.2.2.2 bt481.1 bt481.2.1 bt481.2.2).bind fun bt494 => ((laws_eqLog.f bt494.1 bt494.2.1 bt494.2.2.1 bt494.2.2.2.1 bt494.2.2.2.2 bt475.1 bt475.2.1 bt475.2.2.1 bt475.2.2.2.1 bt475.2.2.2.2).bind fun t500 => (if t500 = true then ((laws_toTxn.f k a1_0 l1_1 l1_2).bind fun bt501 => ((laws_eqTxn.f k bt481.1 bt481.2.1 bt481.2.2 bt501.1 bt501.2.1 bt501.2.2).bind fun t508 => (if t508 = true then (some true) else (some false)))) else (some false))))))) = some r := H
    have A11 := Aside0.mk A110
    clear A110
    replace H := Option.bind_eq_some_iff.mp H
    obtain ⟨⟨t475, t476, t477, t478, t479⟩, A120, H⟩ := H
    replace H : ((laws_toTxn.f k a1_0 l1_1 l1_2).bind fun bt481 => ((laws_toLog.f a0_0 a0_1 a0_2 a0_3 a0_4).bind fun bt489 => ((impl_LogNext.f k bt489.1 bt489.2.1 bt489.2.2.1 bt489.2.2.2.1 bt489.2.2.2.2 bt481.1 bt481.2.1 bt481.2.2).bind fun bt494 => ((laws_eqLog.f bt494.1 bt494.2.1 bt494.2.2.1 bt494.2.2.2.1 bt494.2.2.2.2 t475 t476 t477 t478 t479).bind fun t500 => (if t500 = true then ((laws_toTxn.f k a1_0 l1_1 l1_2).bind fun bt501 => ((laws_eqTxn.f k bt481.1 bt481.2.1 bt481.2.2 bt501.1 bt501.2.1 bt501.2.2).bind fun t508 => (if t508 = true then (some true) else (some false)))) else (some false)))))) = some r := H
    have A12 := Aside0.mk A120
    clear A120
    replace H := Option.bind_eq_some_iff.mp H
    obtain ⟨⟨t481, t482, t485⟩, A130, H⟩ := H
    replace H : ((laws_toLog.f a0_0 a0_1 a0_2 a0_3 a0_4).bind fun bt489 => ((impl_LogNext.f k bt489.1 bt489.2.1 bt489.2.2.1 bt489.2.2.2.1 bt489.2.2.2.2 t481 t482 t485).bind fun bt494 => ((laws_eqLog.f bt494.1 bt494.2.1 bt494.2.2.1 bt494.2.2.2.1 bt494.2.2.2.2 t475 t476 t477 t478 t479).bind fun t500 => (if t500 = true then ((laws_toTxn.f k a1_0 l1_1 l1_2).bind fun bt501 => ((laws_eqTxn.f k t481 t482 t485 bt501.1 bt501.2.1 bt501.2.2).bind fun t508 => (if t508 = true then (some true) else (some false)))) else (some false))))) = some r := H
    have A13 := Aside0.mk A130
    clear A130
    replace H := Option.bind_eq_some_iff.mp H
    obtain ⟨⟨t489, t490, t491, t492, t493⟩, A140, H⟩ := H
    replace H : ((impl_LogNext.f k t489 t490 t491 t492 t493 t481 t482 t485).bind fun bt494 => ((laws_eqLog.f bt494.1 bt494.2.1 bt494.2.2.1 bt494.2.2.2.1 bt494.2.2.2.2 t475 t476 t477 t478 t479).bind fun t500 => (if t500 = true then ((laws_toTxn.f k a1_0 l1_1 l1_2).bind fun bt501 => ((laws_eqTxn.f k t481 t482 t485 bt501.1 bt501.2.1 bt501.2.2).bind fun t508 => (if t508 = true then (some true) else (some false)))) else (some false)))) = some r := H
    have A14 := Aside0.mk A140
    clear A140
    replace H := Option.bind_eq_some_iff.mp H
    obtain ⟨⟨t494, t495, t496, t497, t498⟩, A150, H⟩ := H
    replace H : ((laws_eqLog.f t494 t495 t496 t497 t498 t475 t476 t477 t478 t479).bind fun t500 => (if t500 = true then ((laws_toTxn.f k a1_0 l1_1 l1_2).bind fun bt501 => ((laws_eqTxn.f k t481 t482 t485 bt501.1 bt501.2.1 bt501.2.2).bind fun t508 => (if t508 = true then (some true) else (some false)))) else (some false))) = some r := H
    have A15 := Aside0.mk A150
    clear A150
    replace H := Option.bind_eq_some_iff.mp H
    obtain ⟨t500, A160, H⟩ := H
    replace H : (if t500 = true then ((laws_toTxn.f k a1_0 l1_1 l1_2).bind fun bt501 => ((laws_eqTxn.f k t481 t482 t485 bt501.1 bt501.2.1 bt501.2.2).bind fun t508 => (if t508 = true then (some true) else (some false)))) else (some false)) = some r := H
    have A16 := Aside0.mk A160
    clear A160
    by_cases c17 : t500 = true
    · subst c17
      have H1 : ((laws_toTxn.f k a1_0 l1_1 l1_2).bind fun bt501 => ((laws_eqTxn.f k t481 t482 t485 bt501.1 bt501.2.1 bt501.2.2).bind fun t508 => (if t508 = true then (some true) else (some false)))) = some r := by rw [if_pos rfl] at H; exact H
      clear H
      have H := H1
      clear H1
      replace H := Option.bind_eq_some_iff.mp H
      obtain ⟨⟨t501, t502, t505⟩, A180, H⟩ := H
      replace H : ((laws_eqTxn.f k t481 t482 t485 t501 t502 t505).bind fun t508 => (if t508 = true then (some true) else (some false))) = some r := H
      have A18 := Aside0.mk A180
      clear A180
      replace H := Option.bind_eq_some_iff.mp H
      obtain ⟨t508, A190, H⟩ := H
      replace H : (if t508 = true then (some true) else (some false)) = some r := H
      have A19 := Aside0.mk A190
      clear A190
      by_cases c20 : t508 = true
      · subst c20
        have H1 : (some true) = some r := by rw [if_pos rfl] at H; exact H
        clear H
        have H := H1
        clear H1
        obtain rfl := Option.some.inj H
        go_enter Try.func3, Try.ntmps3
        try go_wp2_with (first | ((with_reducible refine gate_dst (N := 2) rfl ?_); refine box_event ?hg (N := 2) ?hd (cs := #[.int .i64 a0_0, .int .i64 a0_1, .int .i64 a0_2, .int .i64 a0_3, .int .i64 a0_4]) (t := 23) ?hr ?_; (case hd => rfl); (case hg => rfl); (case hr => first | (go_simp; done) | (go_simp; rfl)); intro gb460 hg w21 hbox hb; have n0_ := Aside0.mk (below_step (Rgn.bq HB.out) hb); have n1_ := Aside0.mk (hbox); have n2_ := Aside0.mk ((by rw [hg]; exact (below_size (Rgn.bq HB.out)) : w.heap.size ≤ gb460)); have n3_ := Aside0.mk ((by rw [hg]; exact (below_size (Rgn.bq HB.out)) : w.heap.size ≤ gb460)); clear HB; have HB := n0_; have BK460 := n1_; have GW460 := n2_; have GE460 := n3_; clear n0_ n1_ n2_ n3_; clear hb hbox hg) | ((with_reducible refine gate_dst (N := 3) rfl ?_); refine box_event ?hg (N := 3) ?hd (cs := #[.int .i64 a1_0, .slice A1_1 l1_1.length c1_1, .slice A1_2 l1_2.length c1_2]) (t := 27) ?hr ?_; (case hd => rfl); (case hg => rfl); (case hr => first | (go_simp; done) | (go_simp; rfl)); intro gb461 hg w22 hbox hb; have n0_ := Aside0.mk (Rgn.bb BK460.out hb); have n1_ := Aside0.mk (below_step (Rgn.bq HB.out) hb); have n2_ := Aside0.mk (hbox); have n3_ := Aside0.mk ((by rw [hg]; exact (below_size (Rgn.bq HB.out)) : w.heap.size ≤ gb461)); have n4_ := Aside0.mk ((by rw [hg]; exact (below_size (Rgn.bq HB.out)) : w.heap.size ≤ gb461)); have n5_ := Aside0.mk ((by rw [hg]; exact Nat.ne_of_lt (blk_lt (g := gb460) (o := .cells #[.int .i64 a0_0, .int .i64 a0_1, .int .i64 a0_2, .int .i64 a0_3, .int .i64 a0_4] 23 (0, 0)) (Rgn.kb BK460.out)) : gb460 ≠ gb461)); have n6_ := Aside0.mk ((by rw [hg]; exact Nat.ne_of_gt (blk_lt (g := gb460) (o := .cells #[.int .i64 a0_0, .int .i64 a0_1, .int .i64 a0_2, .int .i64 a0_3, .int .i64 a0_4] 23 (0, 0)) (Rgn.kb BK460.out)) : gb461 ≠ gb460)); clear BK460; clear HB; have BK460 := n0_; have HB := n1_; have BK461 := n2_; have GW461 := n3_; have GE461 := n4_; have NB460_461 := n5_; have NB461_460 := n6_; clear n0_ n1_ n2_ n3_ n4_ n5_ n6_; clear hb hbox hg; have hnb23 := NB461_460.out; have hnc23 := NB460_461.out; have hcz24_0 : w22.cell? ⟨gb461, 0, none⟩ = some (.int .i64 a1_0) := (blk_cell BK461.out 0).trans rfl; have hcz24_1 : w22.cell? ⟨gb461, 1, none⟩ = some (.slice A1_1 l1_1.length c1_1) := (blk_cell BK461.out 1).trans rfl; have hcz24_2 : w22.cell? ⟨gb461, 2, none⟩ = some (.slice A1_2 l1_2.length c1_2) := (blk_cell BK461.out 2).trans rfl; have hfz24_0 := blk_frozen BK461.out 0; have hfz24_1 := blk_frozen BK461.out 1; have hfz24_2 := blk_frozen BK461.out 2) | ((with_reducible refine gate_callee (f := 5) rfl ?_); refine Rgn.gl (some 11) Try.func5 #[.agg #[.int .i64 a1_0, .slice A1_1 l1_1.length c1_1, .slice A1_2 l1_2.length c1_2], .int .i64 1048576] ?_; (with_reducible refine (laws_szTxn.calls k a1_0 _ _ l1_1 _ _ l1_2 1048576 t462 _ ?side1 ?side2 ?side3 ?side4 A3.out).mono ?_); (case side1 => exact Rgn.cq (Kd.C_below HR1_1.out HB.out)); (case side2 => exact HC1_1.out); (case side3 => exact Rgn.cq (Kd.C_below HR1_2.out HB.out)); (case side4 => exact HC1_2.out); rintro e w25 ⟨rfl, hb⟩; refine ⟨_, rfl, ?_⟩; have n0_ := Aside0.mk (Rgn.bb BK460.out hb); have n1_ := Aside0.mk (Rgn.bb BK461.out hb); have n2_ := Aside0.mk (below_step (Rgn.bq HB.out) hb); clear BK460; clear BK461; clear HB; have BK460 := n0_; have BK461 := n1_; have HB := n2_; clear n0_ n1_ n2_; (try clear hb); (try clear hb2); (try clear hk); (try clear hi)))
        have n0_ := Aside0.mk (blk_drew BK460.out)
        have n1_ := Aside0.mk (blk_drew BK461.out)
        have n2_ := Aside0.mk (below_drew1 HB.out)
        clear BK460
        clear BK461
        clear HB
        have BK460 := n0_
        have BK461 := n1_
        have HB := n2_
        clear n0_ n1_ n2_
        refine start_ (n := 7) (S := fun w' => w'.cell? ⟨gb460, 0, none⟩ = some (.int .i64 a0_0) ∧ w'.cell? ⟨gb460, 1, none⟩ = some (.int .i64 a0_1) ∧ w'.cell? ⟨gb460, 2, none⟩ = some (.int .i64 a0_2) ∧ w'.cell? ⟨gb460, 3, none⟩ = some (.int .i64 a0_3) ∧ w'.cell? ⟨gb460, 4, none⟩ = some (.int .i64 a0_4) ∧ w'.cell? ⟨gb461, 0, none⟩ = some (.int .i64 a1_0) ∧ w'.cell? ⟨gb461, 1, none⟩ = some (.slice A1_1 l1_1.length c1_1) ∧ w'.cell? ⟨gb461, 2, none⟩ = some (.slice A1_2 l1_2.length c1_2)) (ds := []) #[false, false, false, false, false, false, false] (by kernel_rfl) rfl rfl ⟨(blk_cell BK460.out 0).trans rfl, (blk_cell BK460.out 1).trans rfl, (blk_cell BK460.out 2).trans rfl, (blk_cell BK460.out 3).trans rfl, (blk_cell BK460.out 4).trans rfl, (blk_cell BK461.out 0).trans rfl, (blk_cell BK461.out 1).trans rfl, (blk_cell BK461.out 2).trans rfl⟩ (fun hHeld => ?_)
        generalize w25.drew = w26 at BK460 BK461 HB hHeld ⊢
        refine take_ (i := 0) (N := some 14) (v := ?_) (a' := ?_) #[true, false, false, false, false, false, false] rfl rfl (by kernel_rfl) (fun _ _ _ h => h) (Or.inl ⟨by rfl, ?_⟩) hHeld ?_ ?_
        rotate_left
        · rintro w' ⟨s0, s1, s2, s3, s4, s5, s6, s7⟩
          go_simp
          with_reducible rfl
        rotate_left
        · simp only [Act.put, List.setIfInBounds_toArray, List.set_cons_zero, List.set_cons_succ, i64_w, i32_w]
          rfl
        refine take_ (i := 2) (N := some 16) (v := ?_) (a' := ?_) #[true, false, true, false, false, false, false] rfl rfl (by kernel_rfl) (fun _ _ _ h => h) (Or.inl ⟨by rfl, ?_⟩) hHeld ?_ ?_
        rotate_left
        · rintro w' ⟨s0, s1, s2, s3, s4, s5, s6, s7⟩
          go_simp
          with_reducible rfl
        rotate_left
        · simp only [Act.put, List.setIfInBounds_toArray, List.set_cons_zero, List.set_cons_succ, i64_w, i32_w]
          rfl
        refine join_ (σ := Value × Value × Nat) 1 #[true, true, true, true, true, true, false] (fun s_ => [(15, .agg #[.int .i64 t463, .int .i64 t464, .int .i64 t465, .int .i64 t466, .int .i64 t467]), (17, .agg #[.int .i64 t468, s_.1, s_.2.1]), (18, .agg #[.int .i64 t475, .int .i64 t476, .int .i64 t477, .int .i64 t478, .int .i64 t479]), (6, .pointer (some ⟨s_.2.2, 0, none⟩))]) (fun s_ w' => (w'.cell? ⟨gb460, 0, none⟩ = some (.int .i64 a0_0) ∧ w'.cell? ⟨gb460, 1, none⟩ = some (.int .i64 a0_1) ∧ w'.cell? ⟨gb460, 2, none⟩ = some (.int .i64 a0_2) ∧ w'.cell? ⟨gb460, 3, none⟩ = some (.int .i64 a0_3) ∧ w'.cell? ⟨gb460, 4, none⟩ = some (.int .i64 a0_4) ∧ w'.cell? ⟨gb461, 0, none⟩ = some (.int .i64 a1_0) ∧ w'.cell? ⟨gb461, 1, none⟩ = some (.slice A1_1 l1_1.length c1_1) ∧ w'.cell? ⟨gb461, 2, none⟩ = some (.slice A1_2 l1_2.length c1_2)) ∧ (Kd.S k61 61 w' w.heap.size (fun _ => True) s_.1 t469) ∧ (Kd.R (Kd.int .i64) 2 w' w.heap.size (fun _ => True) s_.2.1 t472) ∧ (w'.heap[gb460]? = some (.cells #[.int .i64 a0_0, .int .i64 a0_1, .int .i64 a0_2, .int .i64 a0_3, .int .i64 a0_4] 23 (0, 0))) ∧ (w'.heap[gb461]? = some (.cells #[.int .i64 a1_0, .slice A1_1 l1_1.length c1_1, .slice A1_2 l1_2.length c1_2] 27 (0, 0))) ∧ (w'.heap[s_.2.2]? = some (.cells #[.int .i64 0, .int .i64 0, .int .i64 0, .int .i64 0, .int .i64 0] 29 (0, 0))) ∧ (w.heap.size ≤ s_.2.2) ∧ (w.heap.size ≤ s_.2.2) ∧ (gb460 ≠ s_.2.2) ∧ (s_.2.2 ≠ gb460) ∧ (gb461 ≠ s_.2.2) ∧ (s_.2.2 ≠ gb461) ∧ (Below w.heap.size w w')) ?_ ?_
        rotate_left
        · intro hCont
          refine two_ (i := 1) (j := 5) (Ni := some 15) (Nj := some 6) #[true, true, true, false, false, false, false] #[true, false, true, false, false, true, false] rfl rfl rfl rfl (by kernel_rfl) (by decide) (by decide) (fun K hK => ?_) (fun K hK => ?_)
          · skip
            refine Rgn.gs Try.func7 #[.agg #[.int .i64 a0_0, .int .i64 a0_1, .int .i64 a0_2, .int .i64 a0_3, .int .i64 a0_4]] ?_
            with_reducible refine (laws_toLog.calls a0_0 a0_1 a0_2 a0_3 a0_4 t463 t464 t465 t466 t467 _ A10.out).mono ?_
            rintro e w27 ⟨rfl, hb⟩
            refine ⟨_, rfl, ?_⟩
            have n0_ := Aside0.mk (Rgn.bb BK460.out hb)
            have n1_ := Aside0.mk (Rgn.bb BK461.out hb)
            have n2_ := Aside0.mk (below_step (Rgn.bq HB.out) hb)
            clear BK460
            clear BK461
            clear HB
            have BK460 := n0_
            have BK461 := n1_
            have HB := n2_
            clear n0_ n1_ n2_
            (try clear hb)
            (try clear hb2)
            (try clear hk)
            (try clear hi)
            refine hK.out _ _ ⟨(blk_cell BK460.out 0).trans rfl, (blk_cell BK460.out 1).trans rfl, (blk_cell BK460.out 2).trans rfl, (blk_cell BK460.out 3).trans rfl, (blk_cell BK460.out 4).trans rfl, (blk_cell BK461.out 0).trans rfl, (blk_cell BK461.out 1).trans rfl, (blk_cell BK461.out 2).trans rfl⟩ (fun hHeld => ?_)
            clear hK K
            refine norm_ (a' := ?_) ?_ ?_
            rotate_left
            · show Act.put _ (some 15) _ = _
              simp only [Act.put, List.setIfInBounds_toArray, List.set_cons_zero, List.set_cons_succ, i64_w, i32_w]
              rfl
            refine two_ (i := 3) (j := 5) (Ni := some 17) (Nj := some 6) #[true, true, true, true, false, false, false] #[true, true, true, false, false, true, false] rfl rfl rfl rfl (by kernel_rfl) (by decide) (by decide) (fun K hK => ?_) (fun K hK => ?_)
            · skip
              refine Rgn.gs Try.func8 #[.agg #[.int .i64 a1_0, .slice A1_1 l1_1.length c1_1, .slice A1_2 l1_2.length c1_2]] ?_
              with_reducible refine (laws_toTxn.calls k a1_0 _ _ l1_1 _ _ l1_2 t468 t469 t472 _ ?side1 ?side2 ?side3 ?side4 A11.out).mono ?_
              (case side1 => exact Rgn.cq (Kd.C_below HR1_1.out HB.out))
              (case side2 => exact HC1_1.out)
              (case side3 => exact Rgn.cq (Kd.C_below HR1_2.out HB.out))
              (case side4 => exact HC1_2.out)
              rintro e w28 ⟨v470, v473, rfl, ho0, ho1, hb⟩
              refine ⟨_, rfl, ?_⟩
              have n0_ := Aside0.mk (Kd.S_lower ho0 (below_size (Rgn.bq HB.out)))
              have n1_ := Aside0.mk (Kd.R_lower ho1 (below_size (Rgn.bq HB.out)))
              have n2_ := Aside0.mk (Rgn.bb BK460.out hb)
              have n3_ := Aside0.mk (Rgn.bb BK461.out hb)
              have n4_ := Aside0.mk (below_step (Rgn.bq HB.out) hb)
              clear BK460
              clear BK461
              clear HB
              have HO471 := n0_
              have HO474 := n1_
              have BK460 := n2_
              have BK461 := n3_
              have HB := n4_
              clear n0_ n1_ n2_ n3_ n4_
              (try clear hb)
              (try clear hb2)
              (try clear hk)
              (try clear hi)
              (try clear ho0)
              (try clear ho1)
              obtain ⟨Ao29, co29, eo29⟩ := Kd.S_slice HO471.out
              (first | subst eo29 | (injection eo29 with f1_ f2_ f3_; have f4_ := f1_.symm; have f5_ := f3_.symm; clear f1_ f2_ f3_; subst f4_; subst f5_))
              obtain ⟨Ao30, co30, eo30⟩ := Kd.R_slice HO474.out
              (first | subst eo30 | (injection eo30 with f1_ f2_ f3_; have f4_ := f1_.symm; have f5_ := f3_.symm; clear f1_ f2_ f3_; subst f4_; subst f5_))
              refine hK.out _ _ ⟨(blk_cell BK460.out 0).trans rfl, (blk_cell BK460.out 1).trans rfl, (blk_cell BK460.out 2).trans rfl, (blk_cell BK460.out 3).trans rfl, (blk_cell BK460.out 4).trans rfl, (blk_cell BK461.out 0).trans rfl, (blk_cell BK461.out 1).trans rfl, (blk_cell BK461.out 2).trans rfl⟩ (fun hHeld => ?_)
              clear hK K
              refine norm_ (a' := ?_) ?_ ?_
              rotate_left
              · show Act.put _ (some 17) _ = _
                simp only [Act.put, List.setIfInBounds_toArray, List.set_cons_zero, List.set_cons_succ, i64_w, i32_w]
                rfl
              refine two_ (i := 4) (j := 5) (Ni := some 18) (Nj := some 6) #[true, true, true, true, true, false, false] #[true, true, true, true, false, true, false] rfl rfl rfl rfl (by kernel_rfl) (by decide) (by decide) (fun K hK => ?_) (fun K hK => ?_)
              · skip
                refine Rgn.gs Try.func6 #[.agg #[.int .i64 t463, .int .i64 t464, .int .i64 t465, .int .i64 t466, .int .i64 t467], .agg #[.int .i64 t468, .slice Ao29 t469.length co29, .slice Ao30 t472.length co30]] ?_
                with_reducible refine (spec_LogNext.calls k t463 t464 t465 t466 t467 t468 _ _ t469 _ _ t472 t475 t476 t477 t478 t479 _ ?side1 ?side2 ?side3 ?side4 A12.out).mono ?_
                (case side1 => exact Rgn.cq (Kd.S_reads' HO471.out).2.2)
                (case side2 => exact (Kd.S_reads' HO471.out).2.1)
                (case side3 => exact Rgn.cq (Kd.R_reads' HO474.out).2.2)
                (case side4 => exact (Kd.R_reads' HO474.out).2.1)
                rintro e w31 ⟨rfl, hb⟩
                refine ⟨_, rfl, ?_⟩
                have n0_ := Aside0.mk (Kd.S_below (Rgn.sq HO471.out) hb)
                have n1_ := Aside0.mk (Kd.R_below (Rgn.rq HO474.out) hb)
                have n2_ := Aside0.mk (Rgn.bb BK460.out hb)
                have n3_ := Aside0.mk (Rgn.bb BK461.out hb)
                have n4_ := Aside0.mk (below_step (Rgn.bq HB.out) hb)
                clear HO471
                clear HO474
                clear BK460
                clear BK461
                clear HB
                have HO471 := n0_
                have HO474 := n1_
                have BK460 := n2_
                have BK461 := n3_
                have HB := n4_
                clear n0_ n1_ n2_ n3_ n4_
                (try clear hb)
                (try clear hb2)
                (try clear hk)
                (try clear hi)
                refine hK.out _ _ ⟨(blk_cell BK460.out 0).trans rfl, (blk_cell BK460.out 1).trans rfl, (blk_cell BK460.out 2).trans rfl, (blk_cell BK460.out 3).trans rfl, (blk_cell BK460.out 4).trans rfl, (blk_cell BK461.out 0).trans rfl, (blk_cell BK461.out 1).trans rfl, (blk_cell BK461.out 2).trans rfl⟩ (fun hHeld => ?_)
                clear hK K
                refine norm_ (a' := ?_) ?_ ?_
                rotate_left
                · show Act.put _ (some 18) _ = _
                  simp only [Act.put, List.setIfInBounds_toArray, List.set_cons_zero, List.set_cons_succ, i64_w, i32_w]
                  rfl
                refine one_ (i := 5) (N := some 6) #[true, true, true, true, true, true, false] rfl rfl (by kernel_rfl) (by decide) (fun K hK => ?_)
                refine box_step ?hg (N := 6) ?hd (cs := #[.int .i64 0, .int .i64 0, .int .i64 0, .int .i64 0, .int .i64 0]) (t := 29) ?hr ?_; (case hd => rfl); (case hg => rfl); (case hr => first | (go_simp; done) | (go_simp; rfl))
                intro gb480 hg w32 hbox hb
                have n0_ := Aside0.mk (Kd.S_below (Rgn.sq HO471.out) hb)
                have n1_ := Aside0.mk (Kd.R_below (Rgn.rq HO474.out) hb)
                have n2_ := Aside0.mk (Rgn.bb BK460.out hb)
                have n3_ := Aside0.mk (Rgn.bb BK461.out hb)
                have n4_ := Aside0.mk (below_step (Rgn.bq HB.out) hb)
                have n5_ := Aside0.mk (hbox)
                have n6_ := Aside0.mk ((by rw [hg]; exact (below_size (Rgn.bq HB.out)) : w.heap.size ≤ gb480))
                have n7_ := Aside0.mk ((by rw [hg]; exact (below_size (Rgn.bq HB.out)) : w.heap.size ≤ gb480))
                have n8_ := Aside0.mk ((by rw [hg]; exact Nat.ne_of_lt (blk_lt (g := gb460) (o := .cells #[.int .i64 a0_0, .int .i64 a0_1, .int .i64 a0_2, .int .i64 a0_3, .int .i64 a0_4] 23 (0, 0)) (Rgn.kb BK460.out)) : gb460 ≠ gb480))
                have n9_ := Aside0.mk ((by rw [hg]; exact Nat.ne_of_gt (blk_lt (g := gb460) (o := .cells #[.int .i64 a0_0, .int .i64 a0_1, .int .i64 a0_2, .int .i64 a0_3, .int .i64 a0_4] 23 (0, 0)) (Rgn.kb BK460.out)) : gb480 ≠ gb460))
                have n10_ := Aside0.mk ((by rw [hg]; exact Nat.ne_of_lt (blk_lt (g := gb461) (o := .cells #[.int .i64 a1_0, .slice A1_1 l1_1.length c1_1, .slice A1_2 l1_2.length c1_2] 27 (0, 0)) (Rgn.kb BK461.out)) : gb461 ≠ gb480))
                have n11_ := Aside0.mk ((by rw [hg]; exact Nat.ne_of_gt (blk_lt (g := gb461) (o := .cells #[.int .i64 a1_0, .slice A1_1 l1_1.length c1_1, .slice A1_2 l1_2.length c1_2] 27 (0, 0)) (Rgn.kb BK461.out)) : gb480 ≠ gb461))
                clear HO471
                clear HO474
                clear BK460
                clear BK461
                clear HB
                have HO471 := n0_
                have HO474 := n1_
                have BK460 := n2_
                have BK461 := n3_
                have HB := n4_
                have BK480 := n5_
                have GW480 := n6_
                have GE480 := n7_
                have NB460_480 := n8_
                have NB480_460 := n9_
                have NB461_480 := n10_
                have NB480_461 := n11_
                clear n0_ n1_ n2_ n3_ n4_ n5_ n6_ n7_ n8_ n9_ n10_ n11_
                clear hb hbox hg
                refine hK.out _ _ ⟨(blk_cell BK460.out 0).trans rfl, (blk_cell BK460.out 1).trans rfl, (blk_cell BK460.out 2).trans rfl, (blk_cell BK460.out 3).trans rfl, (blk_cell BK460.out 4).trans rfl, (blk_cell BK461.out 0).trans rfl, (blk_cell BK461.out 1).trans rfl, (blk_cell BK461.out 2).trans rfl⟩ (fun hHeld => ?_)
                clear hK K
                refine norm_ (a' := ?_) ?_ ?_
                rotate_left
                · show Act.put _ (some 6) _ = _
                  simp only [Act.put, List.setIfInBounds_toArray, List.set_cons_zero, List.set_cons_succ, i64_w, i32_w]
                  rfl
                exact norm_ (by simp only [putAll, Act.put, List.setIfInBounds_toArray, List.set_cons_zero, List.set_cons_succ]) (hCont (.slice Ao29 t469.length co29, .slice Ao30 t472.length co30, gb480) _ ⟨hHeld, (Rgn.sq HO471.out), (Rgn.rq HO474.out), (Rgn.kb BK460.out), (Rgn.kb BK461.out), (Rgn.kb BK480.out), GW480.out, GE480.out, NB460_480.out, NB480_460.out, NB461_480.out, NB480_461.out, (Rgn.bq HB.out)⟩)
              · skip
                refine box_step ?hg (N := 6) ?hd (cs := #[.int .i64 0, .int .i64 0, .int .i64 0, .int .i64 0, .int .i64 0]) (t := 29) ?hr ?_; (case hd => rfl); (case hg => rfl); (case hr => first | (go_simp; done) | (go_simp; rfl))
                intro gb480 hg w29 hbox hb
                have n0_ := Aside0.mk (Kd.S_below (Rgn.sq HO471.out) hb)
                have n1_ := Aside0.mk (Kd.R_below (Rgn.rq HO474.out) hb)
                have n2_ := Aside0.mk (Rgn.bb BK460.out hb)
                have n3_ := Aside0.mk (Rgn.bb BK461.out hb)
                have n4_ := Aside0.mk (below_step (Rgn.bq HB.out) hb)
                have n5_ := Aside0.mk (hbox)
                have n6_ := Aside0.mk ((by rw [hg]; exact (below_size (Rgn.bq HB.out)) : w.heap.size ≤ gb480))
                have n7_ := Aside0.mk ((by rw [hg]; exact (below_size (Rgn.bq HB.out)) : w.heap.size ≤ gb480))
                have n8_ := Aside0.mk ((by rw [hg]; exact Nat.ne_of_lt (blk_lt (g := gb460) (o := .cells #[.int .i64 a0_0, .int .i64 a0_1, .int .i64 a0_2, .int .i64 a0_3, .int .i64 a0_4] 23 (0, 0)) (Rgn.kb BK460.out)) : gb460 ≠ gb480))
                have n9_ := Aside0.mk ((by rw [hg]; exact Nat.ne_of_gt (blk_lt (g := gb460) (o := .cells #[.int .i64 a0_0, .int .i64 a0_1, .int .i64 a0_2, .int .i64 a0_3, .int .i64 a0_4] 23 (0, 0)) (Rgn.kb BK460.out)) : gb480 ≠ gb460))
                have n10_ := Aside0.mk ((by rw [hg]; exact Nat.ne_of_lt (blk_lt (g := gb461) (o := .cells #[.int .i64 a1_0, .slice A1_1 l1_1.length c1_1, .slice A1_2 l1_2.length c1_2] 27 (0, 0)) (Rgn.kb BK461.out)) : gb461 ≠ gb480))
                have n11_ := Aside0.mk ((by rw [hg]; exact Nat.ne_of_gt (blk_lt (g := gb461) (o := .cells #[.int .i64 a1_0, .slice A1_1 l1_1.length c1_1, .slice A1_2 l1_2.length c1_2] 27 (0, 0)) (Rgn.kb BK461.out)) : gb480 ≠ gb461))
                clear HO471
                clear HO474
                clear BK460
                clear BK461
                clear HB
                have HO471 := n0_
                have HO474 := n1_
                have BK460 := n2_
                have BK461 := n3_
                have HB := n4_
                have BK480 := n5_
                have GW480 := n6_
                have GE480 := n7_
                have NB460_480 := n8_
                have NB480_460 := n9_
                have NB461_480 := n10_
                have NB480_461 := n11_
                clear n0_ n1_ n2_ n3_ n4_ n5_ n6_ n7_ n8_ n9_ n10_ n11_
                clear hb hbox hg
                obtain ⟨Ao30, co30, eo30⟩ := Kd.S_slice HO471.out
                (first | subst eo30 | (injection eo30 with f1_ f2_ f3_; have f4_ := f1_.symm; have f5_ := f3_.symm; clear f1_ f2_ f3_; subst f4_; subst f5_))
                obtain ⟨Ao31, co31, eo31⟩ := Kd.R_slice HO474.out
                (first | subst eo31 | (injection eo31 with f1_ f2_ f3_; have f4_ := f1_.symm; have f5_ := f3_.symm; clear f1_ f2_ f3_; subst f4_; subst f5_))
                refine hK.out _ _ ⟨(blk_cell BK460.out 0).trans rfl, (blk_cell BK460.out 1).trans rfl, (blk_cell BK460.out 2).trans rfl, (blk_cell BK460.out 3).trans rfl, (blk_cell BK460.out 4).trans rfl, (blk_cell BK461.out 0).trans rfl, (blk_cell BK461.out 1).trans rfl, (blk_cell BK461.out 2).trans rfl⟩ (fun hHeld => ?_)
                clear hK K
                refine norm_ (a' := ?_) ?_ ?_
                rotate_left
                · show Act.put _ (some 6) _ = _
                  simp only [Act.put, List.setIfInBounds_toArray, List.set_cons_zero, List.set_cons_succ, i64_w, i32_w]
                  rfl
                refine one_ (i := 4) (N := some 18) #[true, true, true, true, true, true, false] rfl rfl (by kernel_rfl) (by decide) (fun K hK => ?_)
                refine Rgn.gs Try.func6 #[.agg #[.int .i64 t463, .int .i64 t464, .int .i64 t465, .int .i64 t466, .int .i64 t467], .agg #[.int .i64 t468, .slice Ao30 t469.length co30, .slice Ao31 t472.length co31]] ?_
                with_reducible refine (spec_LogNext.calls k t463 t464 t465 t466 t467 t468 _ _ t469 _ _ t472 t475 t476 t477 t478 t479 _ ?side1 ?side2 ?side3 ?side4 A12.out).mono ?_
                (case side1 => exact Rgn.cq (Kd.S_reads' HO471.out).2.2)
                (case side2 => exact (Kd.S_reads' HO471.out).2.1)
                (case side3 => exact Rgn.cq (Kd.R_reads' HO474.out).2.2)
                (case side4 => exact (Kd.R_reads' HO474.out).2.1)
                rintro e w32 ⟨rfl, hb⟩
                refine ⟨_, rfl, ?_⟩
                have n0_ := Aside0.mk (Kd.S_below (Rgn.sq HO471.out) hb)
                have n1_ := Aside0.mk (Kd.R_below (Rgn.rq HO474.out) hb)
                have n2_ := Aside0.mk (Rgn.bb BK460.out hb)
                have n3_ := Aside0.mk (Rgn.bb BK461.out hb)
                have n4_ := Aside0.mk (Rgn.bb BK480.out hb)
                have n5_ := Aside0.mk (below_step (Rgn.bq HB.out) hb)
                clear HO471
                clear HO474
                clear BK460
                clear BK461
                clear BK480
                clear HB
                have HO471 := n0_
                have HO474 := n1_
                have BK460 := n2_
                have BK461 := n3_
                have BK480 := n4_
                have HB := n5_
                clear n0_ n1_ n2_ n3_ n4_ n5_
                (try clear hb)
                (try clear hb2)
                (try clear hk)
                (try clear hi)
                refine hK.out _ _ ⟨(blk_cell BK460.out 0).trans rfl, (blk_cell BK460.out 1).trans rfl, (blk_cell BK460.out 2).trans rfl, (blk_cell BK460.out 3).trans rfl, (blk_cell BK460.out 4).trans rfl, (blk_cell BK461.out 0).trans rfl, (blk_cell BK461.out 1).trans rfl, (blk_cell BK461.out 2).trans rfl⟩ (fun hHeld => ?_)
                clear hK K
                refine norm_ (a' := ?_) ?_ ?_
                rotate_left
                · show Act.put _ (some 18) _ = _
                  simp only [Act.put, List.setIfInBounds_toArray, List.set_cons_zero, List.set_cons_succ, i64_w, i32_w]
                  rfl
                exact norm_ (by simp only [putAll, Act.put, List.setIfInBounds_toArray, List.set_cons_zero, List.set_cons_succ]) (hCont (.slice Ao30 t469.length co30, .slice Ao31 t472.length co31, gb480) _ ⟨hHeld, (Rgn.sq HO471.out), (Rgn.rq HO474.out), (Rgn.kb BK460.out), (Rgn.kb BK461.out), (Rgn.kb BK480.out), GW480.out, GE480.out, NB460_480.out, NB480_460.out, NB461_480.out, NB480_461.out, (Rgn.bq HB.out)⟩)
            · skip
              refine box_step ?hg (N := 6) ?hd (cs := #[.int .i64 0, .int .i64 0, .int .i64 0, .int .i64 0, .int .i64 0]) (t := 29) ?hr ?_; (case hd => rfl); (case hg => rfl); (case hr => first | (go_simp; done) | (go_simp; rfl))
              intro gb480 hg w28 hbox hb
              have n0_ := Aside0.mk (Rgn.bb BK460.out hb)
              have n1_ := Aside0.mk (Rgn.bb BK461.out hb)
              have n2_ := Aside0.mk (below_step (Rgn.bq HB.out) hb)
              have n3_ := Aside0.mk (hbox)
              have n4_ := Aside0.mk ((by rw [hg]; exact (below_size (Rgn.bq HB.out)) : w.heap.size ≤ gb480))
              have n5_ := Aside0.mk ((by rw [hg]; exact (below_size (Rgn.bq HB.out)) : w.heap.size ≤ gb480))
              have n6_ := Aside0.mk ((by rw [hg]; exact Nat.ne_of_lt (blk_lt (g := gb460) (o := .cells #[.int .i64 a0_0, .int .i64 a0_1, .int .i64 a0_2, .int .i64 a0_3, .int .i64 a0_4] 23 (0, 0)) (Rgn.kb BK460.out)) : gb460 ≠ gb480))
              have n7_ := Aside0.mk ((by rw [hg]; exact Nat.ne_of_gt (blk_lt (g := gb460) (o := .cells #[.int .i64 a0_0, .int .i64 a0_1, .int .i64 a0_2, .int .i64 a0_3, .int .i64 a0_4] 23 (0, 0)) (Rgn.kb BK460.out)) : gb480 ≠ gb460))
              have n8_ := Aside0.mk ((by rw [hg]; exact Nat.ne_of_lt (blk_lt (g := gb461) (o := .cells #[.int .i64 a1_0, .slice A1_1 l1_1.length c1_1, .slice A1_2 l1_2.length c1_2] 27 (0, 0)) (Rgn.kb BK461.out)) : gb461 ≠ gb480))
              have n9_ := Aside0.mk ((by rw [hg]; exact Nat.ne_of_gt (blk_lt (g := gb461) (o := .cells #[.int .i64 a1_0, .slice A1_1 l1_1.length c1_1, .slice A1_2 l1_2.length c1_2] 27 (0, 0)) (Rgn.kb BK461.out)) : gb480 ≠ gb461))
              clear BK460
              clear BK461
              clear HB
              have BK460 := n0_
              have BK461 := n1_
              have HB := n2_
              have BK480 := n3_
              have GW480 := n4_
              have GE480 := n5_
              have NB460_480 := n6_
              have NB480_460 := n7_
              have NB461_480 := n8_
              have NB480_461 := n9_
              clear n0_ n1_ n2_ n3_ n4_ n5_ n6_ n7_ n8_ n9_
              clear hb hbox hg
              refine hK.out _ _ ⟨(blk_cell BK460.out 0).trans rfl, (blk_cell BK460.out 1).trans rfl, (blk_cell BK460.out 2).trans rfl, (blk_cell BK460.out 3).trans rfl, (blk_cell BK460.out 4).trans rfl, (blk_cell BK461.out 0).trans rfl, (blk_cell BK461.out 1).trans rfl, (blk_cell BK461.out 2).trans rfl⟩ (fun hHeld => ?_)
              clear hK K
              refine norm_ (a' := ?_) ?_ ?_
              rotate_left
              · show Act.put _ (some 6) _ = _
                simp only [Act.put, List.setIfInBounds_toArray, List.set_cons_zero, List.set_cons_succ, i64_w, i32_w]
                rfl
              refine one_ (i := 3) (N := some 17) #[true, true, true, true, false, true, false] rfl rfl (by kernel_rfl) (by decide) (fun K hK => ?_)
              refine Rgn.gs Try.func8 #[.agg #[.int .i64 a1_0, .slice A1_1 l1_1.length c1_1, .slice A1_2 l1_2.length c1_2]] ?_
              with_reducible refine (laws_toTxn.calls k a1_0 _ _ l1_1 _ _ l1_2 t468 t469 t472 _ ?side1 ?side2 ?side3 ?side4 A11.out).mono ?_
              (case side1 => exact Rgn.cq (Kd.C_below HR1_1.out HB.out))
              (case side2 => exact HC1_1.out)
              (case side3 => exact Rgn.cq (Kd.C_below HR1_2.out HB.out))
              (case side4 => exact HC1_2.out)
              rintro e w29 ⟨v470, v473, rfl, ho0, ho1, hb⟩
              refine ⟨_, rfl, ?_⟩
              have n0_ := Aside0.mk (Kd.S_lower ho0 (below_size (Rgn.bq HB.out)))
              have n1_ := Aside0.mk (Kd.R_lower ho1 (below_size (Rgn.bq HB.out)))
              have n2_ := Aside0.mk (Rgn.bb BK460.out hb)
              have n3_ := Aside0.mk (Rgn.bb BK461.out hb)
              have n4_ := Aside0.mk (Rgn.bb BK480.out hb)
              have n5_ := Aside0.mk (below_step (Rgn.bq HB.out) hb)
              clear BK460
              clear BK461
              clear BK480
              clear HB
              have HO471 := n0_
              have HO474 := n1_
              have BK460 := n2_
              have BK461 := n3_
              have BK480 := n4_
              have HB := n5_
              clear n0_ n1_ n2_ n3_ n4_ n5_
              (try clear hb)
              (try clear hb2)
              (try clear hk)
              (try clear hi)
              (try clear ho0)
              (try clear ho1)
              obtain ⟨Ao30, co30, eo30⟩ := Kd.S_slice HO471.out
              (first | subst eo30 | (injection eo30 with f1_ f2_ f3_; have f4_ := f1_.symm; have f5_ := f3_.symm; clear f1_ f2_ f3_; subst f4_; subst f5_))
              obtain ⟨Ao31, co31, eo31⟩ := Kd.R_slice HO474.out
              (first | subst eo31 | (injection eo31 with f1_ f2_ f3_; have f4_ := f1_.symm; have f5_ := f3_.symm; clear f1_ f2_ f3_; subst f4_; subst f5_))
              refine hK.out _ _ ⟨(blk_cell BK460.out 0).trans rfl, (blk_cell BK460.out 1).trans rfl, (blk_cell BK460.out 2).trans rfl, (blk_cell BK460.out 3).trans rfl, (blk_cell BK460.out 4).trans rfl, (blk_cell BK461.out 0).trans rfl, (blk_cell BK461.out 1).trans rfl, (blk_cell BK461.out 2).trans rfl⟩ (fun hHeld => ?_)
              clear hK K
              refine norm_ (a' := ?_) ?_ ?_
              rotate_left
              · show Act.put _ (some 17) _ = _
                simp only [Act.put, List.setIfInBounds_toArray, List.set_cons_zero, List.set_cons_succ, i64_w, i32_w]
                rfl
              refine one_ (i := 4) (N := some 18) #[true, true, true, true, true, true, false] rfl rfl (by kernel_rfl) (by decide) (fun K hK => ?_)
              refine Rgn.gs Try.func6 #[.agg #[.int .i64 t463, .int .i64 t464, .int .i64 t465, .int .i64 t466, .int .i64 t467], .agg #[.int .i64 t468, .slice Ao30 t469.length co30, .slice Ao31 t472.length co31]] ?_
              with_reducible refine (spec_LogNext.calls k t463 t464 t465 t466 t467 t468 _ _ t469 _ _ t472 t475 t476 t477 t478 t479 _ ?side1 ?side2 ?side3 ?side4 A12.out).mono ?_
              (case side1 => exact Rgn.cq (Kd.S_reads' HO471.out).2.2)
              (case side2 => exact (Kd.S_reads' HO471.out).2.1)
              (case side3 => exact Rgn.cq (Kd.R_reads' HO474.out).2.2)
              (case side4 => exact (Kd.R_reads' HO474.out).2.1)
              rintro e w32 ⟨rfl, hb⟩
              refine ⟨_, rfl, ?_⟩
              have n0_ := Aside0.mk (Kd.S_below (Rgn.sq HO471.out) hb)
              have n1_ := Aside0.mk (Kd.R_below (Rgn.rq HO474.out) hb)
              have n2_ := Aside0.mk (Rgn.bb BK460.out hb)
              have n3_ := Aside0.mk (Rgn.bb BK461.out hb)
              have n4_ := Aside0.mk (Rgn.bb BK480.out hb)
              have n5_ := Aside0.mk (below_step (Rgn.bq HB.out) hb)
              clear HO471
              clear HO474
              clear BK460
              clear BK461
              clear BK480
              clear HB
              have HO471 := n0_
              have HO474 := n1_
              have BK460 := n2_
              have BK461 := n3_
              have BK480 := n4_
              have HB := n5_
              clear n0_ n1_ n2_ n3_ n4_ n5_
              (try clear hb)
              (try clear hb2)
              (try clear hk)
              (try clear hi)
              refine hK.out _ _ ⟨(blk_cell BK460.out 0).trans rfl, (blk_cell BK460.out 1).trans rfl, (blk_cell BK460.out 2).trans rfl, (blk_cell BK460.out 3).trans rfl, (blk_cell BK460.out 4).trans rfl, (blk_cell BK461.out 0).trans rfl, (blk_cell BK461.out 1).trans rfl, (blk_cell BK461.out 2).trans rfl⟩ (fun hHeld => ?_)
              clear hK K
              refine norm_ (a' := ?_) ?_ ?_
              rotate_left
              · show Act.put _ (some 18) _ = _
                simp only [Act.put, List.setIfInBounds_toArray, List.set_cons_zero, List.set_cons_succ, i64_w, i32_w]
                rfl
              exact norm_ (by simp only [putAll, Act.put, List.setIfInBounds_toArray, List.set_cons_zero, List.set_cons_succ]) (hCont (.slice Ao30 t469.length co30, .slice Ao31 t472.length co31, gb480) _ ⟨hHeld, (Rgn.sq HO471.out), (Rgn.rq HO474.out), (Rgn.kb BK460.out), (Rgn.kb BK461.out), (Rgn.kb BK480.out), GW480.out, GE480.out, NB460_480.out, NB480_460.out, NB461_480.out, NB480_461.out, (Rgn.bq HB.out)⟩)
          · skip
            refine box_step ?hg (N := 6) ?hd (cs := #[.int .i64 0, .int .i64 0, .int .i64 0, .int .i64 0, .int .i64 0]) (t := 29) ?hr ?_; (case hd => rfl); (case hg => rfl); (case hr => first | (go_simp; done) | (go_simp; rfl))
            intro gb480 hg w27 hbox hb
            have n0_ := Aside0.mk (Rgn.bb BK460.out hb)
            have n1_ := Aside0.mk (Rgn.bb BK461.out hb)
            have n2_ := Aside0.mk (below_step (Rgn.bq HB.out) hb)
            have n3_ := Aside0.mk (hbox)
            have n4_ := Aside0.mk ((by rw [hg]; exact (below_size (Rgn.bq HB.out)) : w.heap.size ≤ gb480))
            have n5_ := Aside0.mk ((by rw [hg]; exact (below_size (Rgn.bq HB.out)) : w.heap.size ≤ gb480))
            have n6_ := Aside0.mk ((by rw [hg]; exact Nat.ne_of_lt (blk_lt (g := gb460) (o := .cells #[.int .i64 a0_0, .int .i64 a0_1, .int .i64 a0_2, .int .i64 a0_3, .int .i64 a0_4] 23 (0, 0)) (Rgn.kb BK460.out)) : gb460 ≠ gb480))
            have n7_ := Aside0.mk ((by rw [hg]; exact Nat.ne_of_gt (blk_lt (g := gb460) (o := .cells #[.int .i64 a0_0, .int .i64 a0_1, .int .i64 a0_2, .int .i64 a0_3, .int .i64 a0_4] 23 (0, 0)) (Rgn.kb BK460.out)) : gb480 ≠ gb460))
            have n8_ := Aside0.mk ((by rw [hg]; exact Nat.ne_of_lt (blk_lt (g := gb461) (o := .cells #[.int .i64 a1_0, .slice A1_1 l1_1.length c1_1, .slice A1_2 l1_2.length c1_2] 27 (0, 0)) (Rgn.kb BK461.out)) : gb461 ≠ gb480))
            have n9_ := Aside0.mk ((by rw [hg]; exact Nat.ne_of_gt (blk_lt (g := gb461) (o := .cells #[.int .i64 a1_0, .slice A1_1 l1_1.length c1_1, .slice A1_2 l1_2.length c1_2] 27 (0, 0)) (Rgn.kb BK461.out)) : gb480 ≠ gb461))
            clear BK460
            clear BK461
            clear HB
            have BK460 := n0_
            have BK461 := n1_
            have HB := n2_
            have BK480 := n3_
            have GW480 := n4_
            have GE480 := n5_
            have NB460_480 := n6_
            have NB480_460 := n7_
            have NB461_480 := n8_
            have NB480_461 := n9_
            clear n0_ n1_ n2_ n3_ n4_ n5_ n6_ n7_ n8_ n9_
            clear hb hbox hg
            refine hK.out _ _ ⟨(blk_cell BK460.out 0).trans rfl, (blk_cell BK460.out 1).trans rfl, (blk_cell BK460.out 2).trans rfl, (blk_cell BK460.out 3).trans rfl, (blk_cell BK460.out 4).trans rfl, (blk_cell BK461.out 0).trans rfl, (blk_cell BK461.out 1).trans rfl, (blk_cell BK461.out 2).trans rfl⟩ (fun hHeld => ?_)
            clear hK K
            refine norm_ (a' := ?_) ?_ ?_
            rotate_left
            · show Act.put _ (some 6) _ = _
              simp only [Act.put, List.setIfInBounds_toArray, List.set_cons_zero, List.set_cons_succ, i64_w, i32_w]
              rfl
            refine one_ (i := 1) (N := some 15) #[true, true, true, false, false, true, false] rfl rfl (by kernel_rfl) (by decide) (fun K hK => ?_)
            refine Rgn.gs Try.func7 #[.agg #[.int .i64 a0_0, .int .i64 a0_1, .int .i64 a0_2, .int .i64 a0_3, .int .i64 a0_4]] ?_
            with_reducible refine (laws_toLog.calls a0_0 a0_1 a0_2 a0_3 a0_4 t463 t464 t465 t466 t467 _ A10.out).mono ?_
            rintro e w28 ⟨rfl, hb⟩
            refine ⟨_, rfl, ?_⟩
            have n0_ := Aside0.mk (Rgn.bb BK460.out hb)
            have n1_ := Aside0.mk (Rgn.bb BK461.out hb)
            have n2_ := Aside0.mk (Rgn.bb BK480.out hb)
            have n3_ := Aside0.mk (below_step (Rgn.bq HB.out) hb)
            clear BK460
            clear BK461
            clear BK480
            clear HB
            have BK460 := n0_
            have BK461 := n1_
            have BK480 := n2_
            have HB := n3_
            clear n0_ n1_ n2_ n3_
            (try clear hb)
            (try clear hb2)
            (try clear hk)
            (try clear hi)
            refine hK.out _ _ ⟨(blk_cell BK460.out 0).trans rfl, (blk_cell BK460.out 1).trans rfl, (blk_cell BK460.out 2).trans rfl, (blk_cell BK460.out 3).trans rfl, (blk_cell BK460.out 4).trans rfl, (blk_cell BK461.out 0).trans rfl, (blk_cell BK461.out 1).trans rfl, (blk_cell BK461.out 2).trans rfl⟩ (fun hHeld => ?_)
            clear hK K
            refine norm_ (a' := ?_) ?_ ?_
            rotate_left
            · show Act.put _ (some 15) _ = _
              simp only [Act.put, List.setIfInBounds_toArray, List.set_cons_zero, List.set_cons_succ, i64_w, i32_w]
              rfl
            refine one_ (i := 3) (N := some 17) #[true, true, true, true, false, true, false] rfl rfl (by kernel_rfl) (by decide) (fun K hK => ?_)
            refine Rgn.gs Try.func8 #[.agg #[.int .i64 a1_0, .slice A1_1 l1_1.length c1_1, .slice A1_2 l1_2.length c1_2]] ?_
            with_reducible refine (laws_toTxn.calls k a1_0 _ _ l1_1 _ _ l1_2 t468 t469 t472 _ ?side1 ?side2 ?side3 ?side4 A11.out).mono ?_
            (case side1 => exact Rgn.cq (Kd.C_below HR1_1.out HB.out))
            (case side2 => exact HC1_1.out)
            (case side3 => exact Rgn.cq (Kd.C_below HR1_2.out HB.out))
            (case side4 => exact HC1_2.out)
            rintro e w29 ⟨v470, v473, rfl, ho0, ho1, hb⟩
            refine ⟨_, rfl, ?_⟩
            have n0_ := Aside0.mk (Kd.S_lower ho0 (below_size (Rgn.bq HB.out)))
            have n1_ := Aside0.mk (Kd.R_lower ho1 (below_size (Rgn.bq HB.out)))
            have n2_ := Aside0.mk (Rgn.bb BK460.out hb)
            have n3_ := Aside0.mk (Rgn.bb BK461.out hb)
            have n4_ := Aside0.mk (Rgn.bb BK480.out hb)
            have n5_ := Aside0.mk (below_step (Rgn.bq HB.out) hb)
            clear BK460
            clear BK461
            clear BK480
            clear HB
            have HO471 := n0_
            have HO474 := n1_
            have BK460 := n2_
            have BK461 := n3_
            have BK480 := n4_
            have HB := n5_
            clear n0_ n1_ n2_ n3_ n4_ n5_
            (try clear hb)
            (try clear hb2)
            (try clear hk)
            (try clear hi)
            (try clear ho0)
            (try clear ho1)
            obtain ⟨Ao30, co30, eo30⟩ := Kd.S_slice HO471.out
            (first | subst eo30 | (injection eo30 with f1_ f2_ f3_; have f4_ := f1_.symm; have f5_ := f3_.symm; clear f1_ f2_ f3_; subst f4_; subst f5_))
            obtain ⟨Ao31, co31, eo31⟩ := Kd.R_slice HO474.out
            (first | subst eo31 | (injection eo31 with f1_ f2_ f3_; have f4_ := f1_.symm; have f5_ := f3_.symm; clear f1_ f2_ f3_; subst f4_; subst f5_))
            refine hK.out _ _ ⟨(blk_cell BK460.out 0).trans rfl, (blk_cell BK460.out 1).trans rfl, (blk_cell BK460.out 2).trans rfl, (blk_cell BK460.out 3).trans rfl, (blk_cell BK460.out 4).trans rfl, (blk_cell BK461.out 0).trans rfl, (blk_cell BK461.out 1).trans rfl, (blk_cell BK461.out 2).trans rfl⟩ (fun hHeld => ?_)
            clear hK K
            refine norm_ (a' := ?_) ?_ ?_
            rotate_left
            · show Act.put _ (some 17) _ = _
              simp only [Act.put, List.setIfInBounds_toArray, List.set_cons_zero, List.set_cons_succ, i64_w, i32_w]
              rfl
            refine one_ (i := 4) (N := some 18) #[true, true, true, true, true, true, false] rfl rfl (by kernel_rfl) (by decide) (fun K hK => ?_)
            refine Rgn.gs Try.func6 #[.agg #[.int .i64 t463, .int .i64 t464, .int .i64 t465, .int .i64 t466, .int .i64 t467], .agg #[.int .i64 t468, .slice Ao30 t469.length co30, .slice Ao31 t472.length co31]] ?_
            with_reducible refine (spec_LogNext.calls k t463 t464 t465 t466 t467 t468 _ _ t469 _ _ t472 t475 t476 t477 t478 t479 _ ?side1 ?side2 ?side3 ?side4 A12.out).mono ?_
            (case side1 => exact Rgn.cq (Kd.S_reads' HO471.out).2.2)
            (case side2 => exact (Kd.S_reads' HO471.out).2.1)
            (case side3 => exact Rgn.cq (Kd.R_reads' HO474.out).2.2)
            (case side4 => exact (Kd.R_reads' HO474.out).2.1)
            rintro e w32 ⟨rfl, hb⟩
            refine ⟨_, rfl, ?_⟩
            have n0_ := Aside0.mk (Kd.S_below (Rgn.sq HO471.out) hb)
            have n1_ := Aside0.mk (Kd.R_below (Rgn.rq HO474.out) hb)
            have n2_ := Aside0.mk (Rgn.bb BK460.out hb)
            have n3_ := Aside0.mk (Rgn.bb BK461.out hb)
            have n4_ := Aside0.mk (Rgn.bb BK480.out hb)
            have n5_ := Aside0.mk (below_step (Rgn.bq HB.out) hb)
            clear HO471
            clear HO474
            clear BK460
            clear BK461
            clear BK480
            clear HB
            have HO471 := n0_
            have HO474 := n1_
            have BK460 := n2_
            have BK461 := n3_
            have BK480 := n4_
            have HB := n5_
            clear n0_ n1_ n2_ n3_ n4_ n5_
            (try clear hb)
            (try clear hb2)
            (try clear hk)
            (try clear hi)
            refine hK.out _ _ ⟨(blk_cell BK460.out 0).trans rfl, (blk_cell BK460.out 1).trans rfl, (blk_cell BK460.out 2).trans rfl, (blk_cell BK460.out 3).trans rfl, (blk_cell BK460.out 4).trans rfl, (blk_cell BK461.out 0).trans rfl, (blk_cell BK461.out 1).trans rfl, (blk_cell BK461.out 2).trans rfl⟩ (fun hHeld => ?_)
            clear hK K
            refine norm_ (a' := ?_) ?_ ?_
            rotate_left
            · show Act.put _ (some 18) _ = _
              simp only [Act.put, List.setIfInBounds_toArray, List.set_cons_zero, List.set_cons_succ, i64_w, i32_w]
              rfl
            exact norm_ (by simp only [putAll, Act.put, List.setIfInBounds_toArray, List.set_cons_zero, List.set_cons_succ]) (hCont (.slice Ao30 t469.length co30, .slice Ao31 t472.length co31, gb480) _ ⟨hHeld, (Rgn.sq HO471.out), (Rgn.rq HO474.out), (Rgn.kb BK460.out), (Rgn.kb BK461.out), (Rgn.kb BK480.out), GW480.out, GE480.out, NB460_480.out, NB480_460.out, NB461_480.out, NB480_461.out, (Rgn.bq HB.out)⟩)
        rintro ⟨v470, v473, gb480⟩ w33 ⟨hS_, h0_, h1_, h2_, h3_, h4_, h5_, h6_, h7_, h8_, h9_, h10_, h11_⟩
        have n0_ : Aside0 (Kd.S k61 61 w33 w.heap.size (fun _ => True) v470 t469) := ⟨h0_⟩
        have n1_ : Aside0 (Kd.R (Kd.int .i64) 2 w33 w.heap.size (fun _ => True) v473 t472) := ⟨h1_⟩
        have n2_ : Aside0 (w33.heap[gb460]? = some (.cells #[.int .i64 a0_0, .int .i64 a0_1, .int .i64 a0_2, .int .i64 a0_3, .int .i64 a0_4] 23 (0, 0))) := ⟨h2_⟩
        have n3_ : Aside0 (w33.heap[gb461]? = some (.cells #[.int .i64 a1_0, .slice A1_1 l1_1.length c1_1, .slice A1_2 l1_2.length c1_2] 27 (0, 0))) := ⟨h3_⟩
        have n4_ : Aside0 (w33.heap[gb480]? = some (.cells #[.int .i64 0, .int .i64 0, .int .i64 0, .int .i64 0, .int .i64 0] 29 (0, 0))) := ⟨h4_⟩
        have n5_ : Aside0 (w.heap.size ≤ gb480) := ⟨h5_⟩
        have n6_ : Aside0 (w.heap.size ≤ gb480) := ⟨h6_⟩
        have n7_ : Aside0 (gb460 ≠ gb480) := ⟨h7_⟩
        have n8_ : Aside0 (gb480 ≠ gb460) := ⟨h8_⟩
        have n9_ : Aside0 (gb461 ≠ gb480) := ⟨h9_⟩
        have n10_ : Aside0 (gb480 ≠ gb461) := ⟨h10_⟩
        have n11_ : Aside0 (Below w.heap.size w w33) := ⟨h11_⟩
        clear BK460
        clear BK461
        clear HB
        clear h0_ h1_ h2_ h3_ h4_ h5_ h6_ h7_ h8_ h9_ h10_ h11_
        have HO471 := n0_
        have HO474 := n1_
        have BK460 := n2_
        have BK461 := n3_
        have BK480 := n4_
        have GW480 := n5_
        have GE480 := n6_
        have NB460_480 := n7_
        have NB480_460 := n8_
        have NB461_480 := n9_
        have NB480_461 := n10_
        have HB := n11_
        clear n0_ n1_ n2_ n3_ n4_ n5_ n6_ n7_ n8_ n9_ n10_ n11_
        have hHeld : w33.cell? ⟨gb460, 0, none⟩ = some (.int .i64 a0_0) ∧ w33.cell? ⟨gb460, 1, none⟩ = some (.int .i64 a0_1) ∧ w33.cell? ⟨gb460, 2, none⟩ = some (.int .i64 a0_2) ∧ w33.cell? ⟨gb460, 3, none⟩ = some (.int .i64 a0_3) ∧ w33.cell? ⟨gb460, 4, none⟩ = some (.int .i64 a0_4) ∧ w33.cell? ⟨gb461, 0, none⟩ = some (.int .i64 a1_0) ∧ w33.cell? ⟨gb461, 1, none⟩ = some (.slice A1_1 l1_1.length c1_1) ∧ w33.cell? ⟨gb461, 2, none⟩ = some (.slice A1_2 l1_2.length c1_2) := hS_
        refine norm_ (a' := ?_) ?_ ?_
        rotate_left
        · simp only [putAll, Act.put, List.setIfInBounds_toArray, List.set_cons_zero, List.set_cons_succ]
          rfl
        refine one_ (i := 6) (N := none) #[true, true, true, true, true, true, true] rfl rfl (by kernel_rfl) (by decide) (fun K hK => ?_)
        have hs34 : w33.cell? ⟨gb480, 0, none⟩ = some (.int .i64 0) := (blk_cell BK480.out 0).trans rfl
        have hfs34 := blk_frozen BK480.out 0
        have hns34_0 := NB460_480.out
        have hns34_1 := NB461_480.out
        have hms34_0 := NB480_460.out
        have hms34_1 := NB480_461.out
        have hs35 : w33.cell? ⟨gb480, 1, none⟩ = some (.int .i64 0) := (blk_cell BK480.out 1).trans rfl
        have hfs35 := blk_frozen BK480.out 1
        have hns35_0 := NB460_480.out
        have hns35_1 := NB461_480.out
        have hms35_0 := NB480_460.out
        have hms35_1 := NB480_461.out
        have hs36 : w33.cell? ⟨gb480, 2, none⟩ = some (.int .i64 0) := (blk_cell BK480.out 2).trans rfl
        have hfs36 := blk_frozen BK480.out 2
        have hns36_0 := NB460_480.out
        have hns36_1 := NB461_480.out
        have hms36_0 := NB480_460.out
        have hms36_1 := NB480_461.out
        have hs37 : w33.cell? ⟨gb480, 3, none⟩ = some (.int .i64 0) := (blk_cell BK480.out 3).trans rfl
        have hfs37 := blk_frozen BK480.out 3
        have hns37_0 := NB460_480.out
        have hns37_1 := NB461_480.out
        have hms37_0 := NB480_460.out
        have hms37_1 := NB480_461.out
        have hs38 : w33.cell? ⟨gb480, 4, none⟩ = some (.int .i64 0) := (blk_cell BK480.out 4).trans rfl
        have hfs38 := blk_frozen BK480.out 4
        have hns38_0 := NB460_480.out
        have hns38_1 := NB461_480.out
        have hms38_0 := NB480_460.out
        have hms38_1 := NB480_461.out
        refine skip_ (w1 := ?_) (by rfl) rfl ?_ ?_
        rotate_left
        · go_simp
          rfl
        refine hK.out _ _ ⟨((cell_far (p := ⟨gb480, _, none⟩) NB460_480.out _).trans (((cell_far (p := ⟨gb480, _, none⟩) NB460_480.out _).trans (((cell_far (p := ⟨gb480, _, none⟩) NB460_480.out _).trans (((cell_far (p := ⟨gb480, _, none⟩) NB460_480.out _).trans (((cell_far (p := ⟨gb480, _, none⟩) NB460_480.out _).trans (hHeld.1)))))))))), ((cell_far (p := ⟨gb480, _, none⟩) NB460_480.out _).trans (((cell_far (p := ⟨gb480, _, none⟩) NB460_480.out _).trans (((cell_far (p := ⟨gb480, _, none⟩) NB460_480.out _).trans (((cell_far (p := ⟨gb480, _, none⟩) NB460_480.out _).trans (((cell_far (p := ⟨gb480, _, none⟩) NB460_480.out _).trans (hHeld.2.1)))))))))), ((cell_far (p := ⟨gb480, _, none⟩) NB460_480.out _).trans (((cell_far (p := ⟨gb480, _, none⟩) NB460_480.out _).trans (((cell_far (p := ⟨gb480, _, none⟩) NB460_480.out _).trans (((cell_far (p := ⟨gb480, _, none⟩) NB460_480.out _).trans (((cell_far (p := ⟨gb480, _, none⟩) NB460_480.out _).trans (hHeld.2.2.1)))))))))), ((cell_far (p := ⟨gb480, _, none⟩) NB460_480.out _).trans (((cell_far (p := ⟨gb480, _, none⟩) NB460_480.out _).trans (((cell_far (p := ⟨gb480, _, none⟩) NB460_480.out _).trans (((cell_far (p := ⟨gb480, _, none⟩) NB460_480.out _).trans (((cell_far (p := ⟨gb480, _, none⟩) NB460_480.out _).trans (hHeld.2.2.2.1)))))))))), ((cell_far (p := ⟨gb480, _, none⟩) NB460_480.out _).trans (((cell_far (p := ⟨gb480, _, none⟩) NB460_480.out _).trans (((cell_far (p := ⟨gb480, _, none⟩) NB460_480.out _).trans (((cell_far (p := ⟨gb480, _, none⟩) NB460_480.out _).trans (((cell_far (p := ⟨gb480, _, none⟩) NB460_480.out _).trans (hHeld.2.2.2.2.1)))))))))), ((cell_far (p := ⟨gb480, _, none⟩) NB461_480.out _).trans (((cell_far (p := ⟨gb480, _, none⟩) NB461_480.out _).trans (((cell_far (p := ⟨gb480, _, none⟩) NB461_480.out _).trans (((cell_far (p := ⟨gb480, _, none⟩) NB461_480.out _).trans (((cell_far (p := ⟨gb480, _, none⟩) NB461_480.out _).trans (hHeld.2.2.2.2.2.1)))))))))), ((cell_far (p := ⟨gb480, _, none⟩) NB461_480.out _).trans (((cell_far (p := ⟨gb480, _, none⟩) NB461_480.out _).trans (((cell_far (p := ⟨gb480, _, none⟩) NB461_480.out _).trans (((cell_far (p := ⟨gb480, _, none⟩) NB461_480.out _).trans (((cell_far (p := ⟨gb480, _, none⟩) NB461_480.out _).trans (hHeld.2.2.2.2.2.2.1)))))))))), ((cell_far (p := ⟨gb480, _, none⟩) NB461_480.out _).trans (((cell_far (p := ⟨gb480, _, none⟩) NB461_480.out _).trans (((cell_far (p := ⟨gb480, _, none⟩) NB461_480.out _).trans (((cell_far (p := ⟨gb480, _, none⟩) NB461_480.out _).trans (((cell_far (p := ⟨gb480, _, none⟩) NB461_480.out _).trans (hHeld.2.2.2.2.2.2.2))))))))))⟩ (fun hHeld => ?_)
        clear hK K
        refine done_ (by kernel_rfl) ?_
        have hnb39 := NB461_480.out
        have hnc39 := NB480_461.out
        have hcz40_0 : w33.cell? ⟨gb461, 0, none⟩ = some (.int .i64 a1_0) := (blk_cell BK461.out 0).trans rfl
        have hcz40_1 : w33.cell? ⟨gb461, 1, none⟩ = some (.slice A1_1 l1_1.length c1_1) := (blk_cell BK461.out 1).trans rfl
        have hcz40_2 : w33.cell? ⟨gb461, 2, none⟩ = some (.slice A1_2 l1_2.length c1_2) := (blk_cell BK461.out 2).trans rfl
        have hfz40_0 := blk_frozen BK461.out 0
        have hfz40_1 := blk_frozen BK461.out 1
        have hfz40_2 := blk_frozen BK461.out 2
        try go_wp2_with (first | ((with_reducible refine gate_callee (f := 8) rfl ?_); refine Rgn.gl (some 20) Try.func8 #[.agg #[.int .i64 a1_0, .slice A1_1 l1_1.length c1_1, .slice A1_2 l1_2.length c1_2]] ?_; (with_reducible refine (laws_toTxn.calls k a1_0 _ _ l1_1 _ _ l1_2 t481 t482 t485 _ ?side1 ?side2 ?side3 ?side4 A13.out).mono ?_); (case side1 => exact Kd.C_below HR1_1.out (Rgn.bq HB.out)); (case side2 => exact HC1_1.out); (case side3 => exact Kd.C_below HR1_2.out (Rgn.bq HB.out)); (case side4 => exact HC1_2.out); rintro e w41 ⟨v483, v486, rfl, ho0, ho1, hb⟩; refine ⟨_, rfl, ?_⟩; have n0_ := Aside0.mk (Kd.S_elder' (by (with_reducible repeat (first | apply Kd.S_alloc | apply Kd.S_drewN | apply Kd.S_drew)); exact (Kd.S_mono (Kd.S_far (p := ⟨gb480, 4, none⟩) (Kd.S_far (p := ⟨gb480, 3, none⟩) (Kd.S_far (p := ⟨gb480, 2, none⟩) (Kd.S_far (p := ⟨gb480, 1, none⟩) (Kd.S_far (p := ⟨gb480, 0, none⟩) (Kd.S_types HO471.out BK480.out (by decide)) (fun _ hk => hk.2) (.int .i64 t475)) (fun _ hk => hk.2) (.int .i64 t476)) (fun _ hk => hk.2) (.int .i64 t477)) (fun _ hk => hk.2) (.int .i64 t478)) (fun _ hk => hk.2) (.int .i64 t479)) (fun _ h_ => h_.1))) (Kd.S_base ho0) hb); have n1_ := Aside0.mk (Kd.R_elder' (by (with_reducible repeat (first | apply Kd.R_alloc | apply Kd.R_drewN | apply Kd.R_drew)); exact (Kd.R_mono (Kd.R_far (p := ⟨gb480, 4, none⟩) (Kd.R_far (p := ⟨gb480, 3, none⟩) (Kd.R_far (p := ⟨gb480, 2, none⟩) (Kd.R_far (p := ⟨gb480, 1, none⟩) (Kd.R_far (p := ⟨gb480, 0, none⟩) (Kd.R_types HO474.out BK480.out (by decide)) (fun _ hk => hk.2) (.int .i64 t475)) (fun _ hk => hk.2) (.int .i64 t476)) (fun _ hk => hk.2) (.int .i64 t477)) (fun _ hk => hk.2) (.int .i64 t478)) (fun _ hk => hk.2) (.int .i64 t479)) (fun _ h_ => h_.1))) (Kd.R_base ho1) hb); have n2_ := Aside0.mk (Kd.S_lower (Kd.S_new' ho0 (Kd.S_lt (by (with_reducible repeat (first | apply Kd.S_alloc | apply Kd.S_drewN | apply Kd.S_drew)); exact (Kd.S_mono (Kd.S_far (p := ⟨gb480, 4, none⟩) (Kd.S_far (p := ⟨gb480, 3, none⟩) (Kd.S_far (p := ⟨gb480, 2, none⟩) (Kd.S_far (p := ⟨gb480, 1, none⟩) (Kd.S_far (p := ⟨gb480, 0, none⟩) (Kd.S_types HO471.out BK480.out (by decide)) (fun _ hk => hk.2) (.int .i64 t475)) (fun _ hk => hk.2) (.int .i64 t476)) (fun _ hk => hk.2) (.int .i64 t477)) (fun _ hk => hk.2) (.int .i64 t478)) (fun _ hk => hk.2) (.int .i64 t479)) (fun _ h_ => h_.1))))) (below_size (Rgn.bq HB.out))); have n3_ := Aside0.mk (Kd.R_lower (Kd.R_new' ho1 (Kd.R_lt (by (with_reducible repeat (first | apply Kd.R_alloc | apply Kd.R_drewN | apply Kd.R_drew)); exact (Kd.R_mono (Kd.R_far (p := ⟨gb480, 4, none⟩) (Kd.R_far (p := ⟨gb480, 3, none⟩) (Kd.R_far (p := ⟨gb480, 2, none⟩) (Kd.R_far (p := ⟨gb480, 1, none⟩) (Kd.R_far (p := ⟨gb480, 0, none⟩) (Kd.R_types HO474.out BK480.out (by decide)) (fun _ hk => hk.2) (.int .i64 t475)) (fun _ hk => hk.2) (.int .i64 t476)) (fun _ hk => hk.2) (.int .i64 t477)) (fun _ hk => hk.2) (.int .i64 t478)) (fun _ hk => hk.2) (.int .i64 t479)) (fun _ h_ => h_.1))))) (below_size (Rgn.bq HB.out))); have n4_ := Aside0.mk (blk_below (g := gb460) (o := .cells #[.int .i64 a0_0, .int .i64 a0_1, .int .i64 a0_2, .int .i64 a0_3, .int .i64 a0_4] 23 (0, 0)) (by (with_reducible repeat (first | refine blk_drewN ?_ _ | refine blk_drew ?_ | refine blk_alloc ?_ _)); refine blk_far ?_ NB460_480.out _; (with_reducible repeat (first | refine blk_drewN ?_ _ | refine blk_drew ?_ | refine blk_alloc ?_ _)); refine blk_far ?_ NB460_480.out _; (with_reducible repeat (first | refine blk_drewN ?_ _ | refine blk_drew ?_ | refine blk_alloc ?_ _)); refine blk_far ?_ NB460_480.out _; (with_reducible repeat (first | refine blk_drewN ?_ _ | refine blk_drew ?_ | refine blk_alloc ?_ _)); refine blk_far ?_ NB460_480.out _; (with_reducible repeat (first | refine blk_drewN ?_ _ | refine blk_drew ?_ | refine blk_alloc ?_ _)); refine blk_far ?_ NB460_480.out _; (with_reducible repeat (first | refine blk_drewN ?_ _ | refine blk_drew ?_ | refine blk_alloc ?_ _)); exact BK460.out) hb); have n5_ := Aside0.mk (blk_below (g := gb461) (o := .cells #[.int .i64 a1_0, .slice A1_1 l1_1.length c1_1, .slice A1_2 l1_2.length c1_2] 27 (0, 0)) (by (with_reducible repeat (first | refine blk_drewN ?_ _ | refine blk_drew ?_ | refine blk_alloc ?_ _)); refine blk_far ?_ NB461_480.out _; (with_reducible repeat (first | refine blk_drewN ?_ _ | refine blk_drew ?_ | refine blk_alloc ?_ _)); refine blk_far ?_ NB461_480.out _; (with_reducible repeat (first | refine blk_drewN ?_ _ | refine blk_drew ?_ | refine blk_alloc ?_ _)); refine blk_far ?_ NB461_480.out _; (with_reducible repeat (first | refine blk_drewN ?_ _ | refine blk_drew ?_ | refine blk_alloc ?_ _)); refine blk_far ?_ NB461_480.out _; (with_reducible repeat (first | refine blk_drewN ?_ _ | refine blk_drew ?_ | refine blk_alloc ?_ _)); refine blk_far ?_ NB461_480.out _; (with_reducible repeat (first | refine blk_drewN ?_ _ | refine blk_drew ?_ | refine blk_alloc ?_ _)); exact BK461.out) hb); have n6_ := Aside0.mk (blk_below (g := gb480) (o := .cells #[.int .i64 t475, .int .i64 t476, .int .i64 t477, .int .i64 t478, .int .i64 t479] 29 (0, 0)) (by (with_reducible repeat (first | refine blk_drewN ?_ _ | refine blk_drew ?_ | refine blk_alloc ?_ _)); refine blk_put (cs := #[.int .i64 t475, .int .i64 t476, .int .i64 t477, .int .i64 t478, .int .i64 0]) ?_ 4 _ rfl; (with_reducible repeat (first | refine blk_drewN ?_ _ | refine blk_drew ?_ | refine blk_alloc ?_ _)); refine blk_put (cs := #[.int .i64 t475, .int .i64 t476, .int .i64 t477, .int .i64 0, .int .i64 0]) ?_ 3 _ rfl; (with_reducible repeat (first | refine blk_drewN ?_ _ | refine blk_drew ?_ | refine blk_alloc ?_ _)); refine blk_put (cs := #[.int .i64 t475, .int .i64 t476, .int .i64 0, .int .i64 0, .int .i64 0]) ?_ 2 _ rfl; (with_reducible repeat (first | refine blk_drewN ?_ _ | refine blk_drew ?_ | refine blk_alloc ?_ _)); refine blk_put (cs := #[.int .i64 t475, .int .i64 0, .int .i64 0, .int .i64 0, .int .i64 0]) ?_ 1 _ rfl; (with_reducible repeat (first | refine blk_drewN ?_ _ | refine blk_drew ?_ | refine blk_alloc ?_ _)); refine blk_put (cs := #[.int .i64 0, .int .i64 0, .int .i64 0, .int .i64 0, .int .i64 0]) ?_ 0 _ rfl; (with_reducible repeat (first | refine blk_drewN ?_ _ | refine blk_drew ?_ | refine blk_alloc ?_ _)); exact BK480.out) hb); have n7_ := Aside0.mk (below_step (Rgn.bq HB.out) hb); clear HO471; clear HO474; clear BK460; clear BK461; clear BK480; clear HB; have HO471 := n0_; have HO474 := n1_; have HO484 := n2_; have HO487 := n3_; have BK460 := n4_; have BK461 := n5_; have BK480 := n6_; have HB := n7_; clear n0_ n1_ n2_ n3_ n4_ n5_ n6_ n7_; (try clear hb); (try clear hb2); (try clear hk); (try clear hi); (try clear ho0); (try clear ho1)) | ((with_reducible refine gate_dst (N := 7) rfl ?_); refine box_event ?hg (N := 7) ?hd (cs := #[.int .i64 0, .slice none 0 0, .slice none 0 0]) (t := 34) ?hr ?_; (case hd => rfl); (case hg => rfl); (case hr => first | (go_simp; done) | (go_simp; rfl)); intro gb488 hg w42 hbox hb; have n0_ := Aside0.mk (Kd.S_below (Rgn.sq HO471.out) hb); have n1_ := Aside0.mk (Kd.R_below (Rgn.rq HO474.out) hb); have n2_ := Aside0.mk (Kd.S_below (Rgn.sq HO484.out) hb); have n3_ := Aside0.mk (Kd.R_below (Rgn.rq HO487.out) hb); have n4_ := Aside0.mk (Rgn.bb BK460.out hb); have n5_ := Aside0.mk (Rgn.bb BK461.out hb); have n6_ := Aside0.mk (Rgn.bb BK480.out hb); have n7_ := Aside0.mk (below_step (Rgn.bq HB.out) hb); have n8_ := Aside0.mk (hbox); have n9_ := Aside0.mk ((by rw [hg]; exact (below_size (Rgn.bq HB.out)) : w.heap.size ≤ gb488)); have n10_ := Aside0.mk ((by rw [hg]; exact (below_size (Rgn.bq HB.out)) : w.heap.size ≤ gb488)); have n11_ := Aside0.mk ((by rw [hg]; exact Nat.ne_of_lt (blk_lt (g := gb460) (o := .cells #[.int .i64 a0_0, .int .i64 a0_1, .int .i64 a0_2, .int .i64 a0_3, .int .i64 a0_4] 23 (0, 0)) (Rgn.kb BK460.out)) : gb460 ≠ gb488)); have n12_ := Aside0.mk ((by rw [hg]; exact Nat.ne_of_gt (blk_lt (g := gb460) (o := .cells #[.int .i64 a0_0, .int .i64 a0_1, .int .i64 a0_2, .int .i64 a0_3, .int .i64 a0_4] 23 (0, 0)) (Rgn.kb BK460.out)) : gb488 ≠ gb460)); have n13_ := Aside0.mk ((by rw [hg]; exact Nat.ne_of_lt (blk_lt (g := gb461) (o := .cells #[.int .i64 a1_0, .slice A1_1 l1_1.length c1_1, .slice A1_2 l1_2.length c1_2] 27 (0, 0)) (Rgn.kb BK461.out)) : gb461 ≠ gb488)); have n14_ := Aside0.mk ((by rw [hg]; exact Nat.ne_of_gt (blk_lt (g := gb461) (o := .cells #[.int .i64 a1_0, .slice A1_1 l1_1.length c1_1, .slice A1_2 l1_2.length c1_2] 27 (0, 0)) (Rgn.kb BK461.out)) : gb488 ≠ gb461)); have n15_ := Aside0.mk ((by rw [hg]; exact Nat.ne_of_lt (blk_lt (g := gb480) (o := .cells #[.int .i64 t475, .int .i64 t476, .int .i64 t477, .int .i64 t478, .int .i64 t479] 29 (0, 0)) (Rgn.kb BK480.out)) : gb480 ≠ gb488)); have n16_ := Aside0.mk ((by rw [hg]; exact Nat.ne_of_gt (blk_lt (g := gb480) (o := .cells #[.int .i64 t475, .int .i64 t476, .int .i64 t477, .int .i64 t478, .int .i64 t479] 29 (0, 0)) (Rgn.kb BK480.out)) : gb488 ≠ gb480)); clear HO471; clear HO474; clear HO484; clear HO487; clear BK460; clear BK461; clear BK480; clear HB; have HO471 := n0_; have HO474 := n1_; have HO484 := n2_; have HO487 := n3_; have BK460 := n4_; have BK461 := n5_; have BK480 := n6_; have HB := n7_; have BK488 := n8_; have GW488 := n9_; have GE488 := n10_; have NB460_488 := n11_; have NB488_460 := n12_; have NB461_488 := n13_; have NB488_461 := n14_; have NB480_488 := n15_; have NB488_480 := n16_; clear n0_ n1_ n2_ n3_ n4_ n5_ n6_ n7_ n8_ n9_ n10_ n11_ n12_ n13_ n14_ n15_ n16_; clear hb hbox hg; have hnb43 := NB488_460.out; have hnc43 := NB460_488.out; have hnb44 := NB488_461.out; have hnc44 := NB461_488.out; have hnb45 := NB488_480.out; have hnc45 := NB480_488.out; have hcz46_0 : w42.cell? ⟨gb488, 0, none⟩ = some (.int .i64 0) := (blk_cell BK488.out 0).trans rfl; have hcz46_1 : w42.cell? ⟨gb488, 1, none⟩ = some (.slice none 0 0) := (blk_cell BK488.out 1).trans rfl; have hcz46_2 : w42.cell? ⟨gb488, 2, none⟩ = some (.slice none 0 0) := (blk_cell BK488.out 2).trans rfl; have hfz46_0 := blk_frozen BK488.out 0; have hfz46_1 := blk_frozen BK488.out 1; have hfz46_2 := blk_frozen BK488.out 2; obtain ⟨Ao47, co47, eo47⟩ := Kd.S_slice HO484.out; subst eo47; obtain ⟨Ao48, co48, eo48⟩ := Kd.R_slice HO487.out; subst eo48))
        have n0_ : Aside0 (Kd.S k61 61 (((w42.setCell ⟨gb488, 0, none⟩ (.int .i64 t481)).setCell ⟨gb488, 1, none⟩ (.slice Ao47 t482.length co47)).setCell ⟨gb488, 2, none⟩ (.slice Ao48 t485.length co48)) w.heap.size (fun k_ => some k_ ≠ (.slice Ao47 t482.length co47 : Value).ownBlock) v470 t469) := ⟨by (with_reducible repeat (first | apply Kd.S_alloc | apply Kd.S_drewN | apply Kd.S_drew)); exact Kd.S_mono (Kd.S_far (p := ⟨gb488, 2, none⟩) (Kd.S_far (p := ⟨gb488, 1, none⟩) (Kd.S_far (p := ⟨gb488, 0, none⟩) (Kd.S_types HO471.out BK488.out (by decide)) (fun _ hk => hk.2) (.int .i64 t481)) (fun _ hk => hk.2) (.slice Ao47 t482.length co47)) (fun _ hk => hk.2) (.slice Ao48 t485.length co48)) (fun _ hk => hk.1.2)⟩
        have n1_ : Aside0 (Kd.R (Kd.int .i64) 2 (((w42.setCell ⟨gb488, 0, none⟩ (.int .i64 t481)).setCell ⟨gb488, 1, none⟩ (.slice Ao47 t482.length co47)).setCell ⟨gb488, 2, none⟩ (.slice Ao48 t485.length co48)) w.heap.size (fun k_ => some k_ ≠ (.slice Ao48 t485.length co48 : Value).ownBlock) v473 t472) := ⟨by (with_reducible repeat (first | apply Kd.R_alloc | apply Kd.R_drewN | apply Kd.R_drew)); exact Kd.R_mono (Kd.R_far (p := ⟨gb488, 2, none⟩) (Kd.R_far (p := ⟨gb488, 1, none⟩) (Kd.R_far (p := ⟨gb488, 0, none⟩) (Kd.R_types HO474.out BK488.out (by decide)) (fun _ hk => hk.2) (.int .i64 t481)) (fun _ hk => hk.2) (.slice Ao47 t482.length co47)) (fun _ hk => hk.2) (.slice Ao48 t485.length co48)) (fun _ hk => hk.1.2)⟩
        have n2_ : Aside0 (Kd.S k61 61 (((w42.setCell ⟨gb488, 0, none⟩ (.int .i64 t481)).setCell ⟨gb488, 1, none⟩ (.slice Ao47 t482.length co47)).setCell ⟨gb488, 2, none⟩ (.slice Ao48 t485.length co48)) w.heap.size (fun k_ => some k_ ≠ (v470 : Value).ownBlock) (.slice Ao47 t482.length co47) t482) := ⟨by (with_reducible repeat (first | apply Kd.S_alloc | apply Kd.S_drewN | apply Kd.S_drew)); exact Kd.S_mono (Kd.S_far (p := ⟨gb488, 2, none⟩) (Kd.S_far (p := ⟨gb488, 1, none⟩) (Kd.S_far (p := ⟨gb488, 0, none⟩) (Kd.S_types HO484.out BK488.out (by decide)) (fun _ hk => hk.2) (.int .i64 t481)) (fun _ hk => hk.2) (.slice Ao47 t482.length co47)) (fun _ hk => hk.2) (.slice Ao48 t485.length co48)) (fun _ hk => hk.1.2)⟩
        have n3_ : Aside0 (Kd.R (Kd.int .i64) 2 (((w42.setCell ⟨gb488, 0, none⟩ (.int .i64 t481)).setCell ⟨gb488, 1, none⟩ (.slice Ao47 t482.length co47)).setCell ⟨gb488, 2, none⟩ (.slice Ao48 t485.length co48)) w.heap.size (fun k_ => some k_ ≠ (v473 : Value).ownBlock) (.slice Ao48 t485.length co48) t485) := ⟨by (with_reducible repeat (first | apply Kd.R_alloc | apply Kd.R_drewN | apply Kd.R_drew)); exact Kd.R_mono (Kd.R_far (p := ⟨gb488, 2, none⟩) (Kd.R_far (p := ⟨gb488, 1, none⟩) (Kd.R_far (p := ⟨gb488, 0, none⟩) (Kd.R_types HO487.out BK488.out (by decide)) (fun _ hk => hk.2) (.int .i64 t481)) (fun _ hk => hk.2) (.slice Ao47 t482.length co47)) (fun _ hk => hk.2) (.slice Ao48 t485.length co48)) (fun _ hk => hk.1.2)⟩
        have n4_ : Aside0 ((((w42.setCell ⟨gb488, 0, none⟩ (.int .i64 t481)).setCell ⟨gb488, 1, none⟩ (.slice Ao47 t482.length co47)).setCell ⟨gb488, 2, none⟩ (.slice Ao48 t485.length co48)).heap[gb460]? = some (.cells #[.int .i64 a0_0, .int .i64 a0_1, .int .i64 a0_2, .int .i64 a0_3, .int .i64 a0_4] 23 (0, 0))) := ⟨by (with_reducible repeat (first | refine blk_drewN ?_ _ | refine blk_drew ?_ | refine blk_alloc ?_ _)); refine blk_far ?_ NB460_488.out _; (with_reducible repeat (first | refine blk_drewN ?_ _ | refine blk_drew ?_ | refine blk_alloc ?_ _)); refine blk_far ?_ NB460_488.out _; (with_reducible repeat (first | refine blk_drewN ?_ _ | refine blk_drew ?_ | refine blk_alloc ?_ _)); refine blk_far ?_ NB460_488.out _; (with_reducible repeat (first | refine blk_drewN ?_ _ | refine blk_drew ?_ | refine blk_alloc ?_ _)); exact BK460.out⟩
        have n5_ : Aside0 ((((w42.setCell ⟨gb488, 0, none⟩ (.int .i64 t481)).setCell ⟨gb488, 1, none⟩ (.slice Ao47 t482.length co47)).setCell ⟨gb488, 2, none⟩ (.slice Ao48 t485.length co48)).heap[gb461]? = some (.cells #[.int .i64 a1_0, .slice A1_1 l1_1.length c1_1, .slice A1_2 l1_2.length c1_2] 27 (0, 0))) := ⟨by (with_reducible repeat (first | refine blk_drewN ?_ _ | refine blk_drew ?_ | refine blk_alloc ?_ _)); refine blk_far ?_ NB461_488.out _; (with_reducible repeat (first | refine blk_drewN ?_ _ | refine blk_drew ?_ | refine blk_alloc ?_ _)); refine blk_far ?_ NB461_488.out _; (with_reducible repeat (first | refine blk_drewN ?_ _ | refine blk_drew ?_ | refine blk_alloc ?_ _)); refine blk_far ?_ NB461_488.out _; (with_reducible repeat (first | refine blk_drewN ?_ _ | refine blk_drew ?_ | refine blk_alloc ?_ _)); exact BK461.out⟩
        have n6_ : Aside0 ((((w42.setCell ⟨gb488, 0, none⟩ (.int .i64 t481)).setCell ⟨gb488, 1, none⟩ (.slice Ao47 t482.length co47)).setCell ⟨gb488, 2, none⟩ (.slice Ao48 t485.length co48)).heap[gb480]? = some (.cells #[.int .i64 t475, .int .i64 t476, .int .i64 t477, .int .i64 t478, .int .i64 t479] 29 (0, 0))) := ⟨by (with_reducible repeat (first | refine blk_drewN ?_ _ | refine blk_drew ?_ | refine blk_alloc ?_ _)); refine blk_far ?_ NB480_488.out _; (with_reducible repeat (first | refine blk_drewN ?_ _ | refine blk_drew ?_ | refine blk_alloc ?_ _)); refine blk_far ?_ NB480_488.out _; (with_reducible repeat (first | refine blk_drewN ?_ _ | refine blk_drew ?_ | refine blk_alloc ?_ _)); refine blk_far ?_ NB480_488.out _; (with_reducible repeat (first | refine blk_drewN ?_ _ | refine blk_drew ?_ | refine blk_alloc ?_ _)); exact BK480.out⟩
        have n7_ : Aside0 ((((w42.setCell ⟨gb488, 0, none⟩ (.int .i64 t481)).setCell ⟨gb488, 1, none⟩ (.slice Ao47 t482.length co47)).setCell ⟨gb488, 2, none⟩ (.slice Ao48 t485.length co48)).heap[gb488]? = some (.cells #[.int .i64 t481, .slice Ao47 t482.length co47, .slice Ao48 t485.length co48] 34 (0, 0))) := ⟨by (with_reducible repeat (first | refine blk_drewN ?_ _ | refine blk_drew ?_ | refine blk_alloc ?_ _)); refine blk_put (cs := #[.int .i64 t481, .slice Ao47 t482.length co47, .slice none 0 0]) ?_ 2 _ rfl; (with_reducible repeat (first | refine blk_drewN ?_ _ | refine blk_drew ?_ | refine blk_alloc ?_ _)); refine blk_put (cs := #[.int .i64 t481, .slice none 0 0, .slice none 0 0]) ?_ 1 _ rfl; (with_reducible repeat (first | refine blk_drewN ?_ _ | refine blk_drew ?_ | refine blk_alloc ?_ _)); refine blk_put (cs := #[.int .i64 0, .slice none 0 0, .slice none 0 0]) ?_ 0 _ rfl; (with_reducible repeat (first | refine blk_drewN ?_ _ | refine blk_drew ?_ | refine blk_alloc ?_ _)); exact BK488.out⟩
        have n8_ : Aside0 (Below w.heap.size w (((w42.setCell ⟨gb488, 0, none⟩ (.int .i64 t481)).setCell ⟨gb488, 1, none⟩ (.slice Ao47 t482.length co47)).setCell ⟨gb488, 2, none⟩ (.slice Ao48 t485.length co48))) := ⟨Rgn.bq HB.out⟩
        (try clear HO471)
        (try clear HO474)
        (try clear HO484)
        (try clear HO487)
        (try clear BK460)
        (try clear BK461)
        (try clear BK480)
        (try clear BK488)
        (try clear HB)
        generalize (((w42.setCell ⟨gb488, 0, none⟩ (.int .i64 t481)).setCell ⟨gb488, 1, none⟩ (.slice Ao47 t482.length co47)).setCell ⟨gb488, 2, none⟩ (.slice Ao48 t485.length co48)) = w49 at n0_ n1_ n2_ n3_ n4_ n5_ n6_ n7_ n8_ ⊢
        have HO471 := n0_
        have HO474 := n1_
        have HO484 := n2_
        have HO487 := n3_
        have BK460 := n4_
        have BK461 := n5_
        have BK480 := n6_
        have BK488 := n7_
        have HB := n8_
        clear n0_ n1_ n2_ n3_ n4_ n5_ n6_ n7_ n8_
        have n0_ := Aside0.mk (Kd.S_drew HO471.out)
        have n1_ := Aside0.mk (Kd.R_drew HO474.out)
        have n2_ := Aside0.mk (Kd.S_drew HO484.out)
        have n3_ := Aside0.mk (Kd.R_drew HO487.out)
        have n4_ := Aside0.mk (blk_drew BK460.out)
        have n5_ := Aside0.mk (blk_drew BK461.out)
        have n6_ := Aside0.mk (blk_drew BK480.out)
        have n7_ := Aside0.mk (blk_drew BK488.out)
        have n8_ := Aside0.mk (below_drew1 HB.out)
        clear HO471
        clear HO474
        clear HO484
        clear HO487
        clear BK460
        clear BK461
        clear BK480
        clear BK488
        clear HB
        have HO471 := n0_
        have HO474 := n1_
        have HO484 := n2_
        have HO487 := n3_
        have BK460 := n4_
        have BK461 := n5_
        have BK480 := n6_
        have BK488 := n7_
        have HB := n8_
        clear n0_ n1_ n2_ n3_ n4_ n5_ n6_ n7_ n8_
        refine start_ (n := 6) (S := fun w' => w'.cell? ⟨gb460, 0, none⟩ = some (.int .i64 a0_0) ∧ w'.cell? ⟨gb460, 1, none⟩ = some (.int .i64 a0_1) ∧ w'.cell? ⟨gb460, 2, none⟩ = some (.int .i64 a0_2) ∧ w'.cell? ⟨gb460, 3, none⟩ = some (.int .i64 a0_3) ∧ w'.cell? ⟨gb460, 4, none⟩ = some (.int .i64 a0_4) ∧ w'.cell? ⟨gb488, 0, none⟩ = some (.int .i64 t481) ∧ w'.cell? ⟨gb488, 1, none⟩ = some (.slice Ao47 t482.length co47) ∧ w'.cell? ⟨gb488, 2, none⟩ = some (.slice Ao48 t485.length co48)) (ds := []) #[false, false, false, false, false, false] (by kernel_rfl) rfl rfl ⟨(blk_cell BK460.out 0).trans rfl, (blk_cell BK460.out 1).trans rfl, (blk_cell BK460.out 2).trans rfl, (blk_cell BK460.out 3).trans rfl, (blk_cell BK460.out 4).trans rfl, (blk_cell BK488.out 0).trans rfl, (blk_cell BK488.out 1).trans rfl, (blk_cell BK488.out 2).trans rfl⟩ (fun hHeld => ?_)
        generalize w49.drew = w50 at HO471 HO474 HO484 HO487 BK460 BK461 BK480 BK488 HB hHeld ⊢
        refine take_ (i := 0) (N := some 21) (v := ?_) (a' := ?_) #[true, false, false, false, false, false] rfl rfl (by kernel_rfl) (fun _ _ _ h => h) (Or.inl ⟨by rfl, ?_⟩) hHeld ?_ ?_
        rotate_left
        · rintro w' ⟨s0, s1, s2, s3, s4, s5, s6, s7⟩
          go_simp
          with_reducible rfl
        rotate_left
        · simp only [Act.put, List.setIfInBounds_toArray, List.set_cons_zero, List.set_cons_succ, i64_w, i32_w]
          rfl
        refine take_ (i := 2) (N := some 23) (v := ?_) (a' := ?_) #[true, false, true, false, false, false] rfl rfl (by kernel_rfl) (fun _ _ _ h => h) (Or.inl ⟨by rfl, ?_⟩) hHeld ?_ ?_
        rotate_left
        · rintro w' ⟨s0, s1, s2, s3, s4, s5, s6, s7⟩
          go_simp
          with_reducible rfl
        rotate_left
        · simp only [Act.put, List.setIfInBounds_toArray, List.set_cons_zero, List.set_cons_succ, i64_w, i32_w]
          rfl
        refine join_ (σ := Nat) 1 #[true, true, true, true, true, false] (fun s_ => [(22, .agg #[.int .i64 t489, .int .i64 t490, .int .i64 t491, .int .i64 t492, .int .i64 t493]), (24, .agg #[.int .i64 t494, .int .i64 t495, .int .i64 t496, .int .i64 t497, .int .i64 t498]), (8, .pointer (some ⟨s_, 0, none⟩))]) (fun s_ w' => (w'.cell? ⟨gb460, 0, none⟩ = some (.int .i64 a0_0) ∧ w'.cell? ⟨gb460, 1, none⟩ = some (.int .i64 a0_1) ∧ w'.cell? ⟨gb460, 2, none⟩ = some (.int .i64 a0_2) ∧ w'.cell? ⟨gb460, 3, none⟩ = some (.int .i64 a0_3) ∧ w'.cell? ⟨gb460, 4, none⟩ = some (.int .i64 a0_4) ∧ w'.cell? ⟨gb488, 0, none⟩ = some (.int .i64 t481) ∧ w'.cell? ⟨gb488, 1, none⟩ = some (.slice Ao47 t482.length co47) ∧ w'.cell? ⟨gb488, 2, none⟩ = some (.slice Ao48 t485.length co48)) ∧ (Kd.S k61 61 w' w.heap.size (fun k_ => some k_ ≠ (.slice Ao47 t482.length co47 : Value).ownBlock) v470 t469) ∧ (Kd.R (Kd.int .i64) 2 w' w.heap.size (fun k_ => some k_ ≠ (.slice Ao48 t485.length co48 : Value).ownBlock) v473 t472) ∧ (Kd.S k61 61 w' w.heap.size (fun k_ => some k_ ≠ (v470 : Value).ownBlock) (.slice Ao47 t482.length co47) t482) ∧ (Kd.R (Kd.int .i64) 2 w' w.heap.size (fun k_ => some k_ ≠ (v473 : Value).ownBlock) (.slice Ao48 t485.length co48) t485) ∧ (w'.heap[gb460]? = some (.cells #[.int .i64 a0_0, .int .i64 a0_1, .int .i64 a0_2, .int .i64 a0_3, .int .i64 a0_4] 23 (0, 0))) ∧ (w'.heap[gb461]? = some (.cells #[.int .i64 a1_0, .slice A1_1 l1_1.length c1_1, .slice A1_2 l1_2.length c1_2] 27 (0, 0))) ∧ (w'.heap[gb480]? = some (.cells #[.int .i64 t475, .int .i64 t476, .int .i64 t477, .int .i64 t478, .int .i64 t479] 29 (0, 0))) ∧ (w'.heap[gb488]? = some (.cells #[.int .i64 t481, .slice Ao47 t482.length co47, .slice Ao48 t485.length co48] 34 (0, 0))) ∧ (w'.heap[s_]? = some (.cells #[.int .i64 0, .int .i64 0, .int .i64 0, .int .i64 0, .int .i64 0] 29 (0, 0))) ∧ (w.heap.size ≤ s_) ∧ (w.heap.size ≤ s_) ∧ (gb460 ≠ s_) ∧ (s_ ≠ gb460) ∧ (gb461 ≠ s_) ∧ (s_ ≠ gb461) ∧ (gb480 ≠ s_) ∧ (s_ ≠ gb480) ∧ (gb488 ≠ s_) ∧ (s_ ≠ gb488) ∧ (Below w.heap.size w w')) ?_ ?_
        rotate_left
        · intro hCont
          refine two_ (i := 1) (j := 4) (Ni := some 22) (Nj := some 8) #[true, true, true, false, false, false] #[true, false, true, false, true, false] rfl rfl rfl rfl (by kernel_rfl) (by decide) (by decide) (fun K hK => ?_) (fun K hK => ?_)
          · skip
            refine Rgn.gs Try.func7 #[.agg #[.int .i64 a0_0, .int .i64 a0_1, .int .i64 a0_2, .int .i64 a0_3, .int .i64 a0_4]] ?_
            with_reducible refine (laws_toLog.calls a0_0 a0_1 a0_2 a0_3 a0_4 t489 t490 t491 t492 t493 _ A14.out).mono ?_
            rintro e w51 ⟨rfl, hb⟩
            refine ⟨_, rfl, ?_⟩
            have n0_ := Aside0.mk (Kd.S_below (Rgn.sq HO471.out) hb)
            have n1_ := Aside0.mk (Kd.R_below (Rgn.rq HO474.out) hb)
            have n2_ := Aside0.mk (Kd.S_below (Rgn.sq HO484.out) hb)
            have n3_ := Aside0.mk (Kd.R_below (Rgn.rq HO487.out) hb)
            have n4_ := Aside0.mk (Rgn.bb BK460.out hb)
            have n5_ := Aside0.mk (Rgn.bb BK461.out hb)
            have n6_ := Aside0.mk (Rgn.bb BK480.out hb)
            have n7_ := Aside0.mk (Rgn.bb BK488.out hb)
            have n8_ := Aside0.mk (below_step (Rgn.bq HB.out) hb)
            clear HO471
            clear HO474
            clear HO484
            clear HO487
            clear BK460
            clear BK461
            clear BK480
            clear BK488
            clear HB
            have HO471 := n0_
            have HO474 := n1_
            have HO484 := n2_
            have HO487 := n3_
            have BK460 := n4_
            have BK461 := n5_
            have BK480 := n6_
            have BK488 := n7_
            have HB := n8_
            clear n0_ n1_ n2_ n3_ n4_ n5_ n6_ n7_ n8_
            (try clear hb)
            (try clear hb2)
            (try clear hk)
            (try clear hi)
            refine hK.out _ _ ⟨(blk_cell BK460.out 0).trans rfl, (blk_cell BK460.out 1).trans rfl, (blk_cell BK460.out 2).trans rfl, (blk_cell BK460.out 3).trans rfl, (blk_cell BK460.out 4).trans rfl, (blk_cell BK488.out 0).trans rfl, (blk_cell BK488.out 1).trans rfl, (blk_cell BK488.out 2).trans rfl⟩ (fun hHeld => ?_)
            clear hK K
            refine norm_ (a' := ?_) ?_ ?_
            rotate_left
            · show Act.put _ (some 22) _ = _
              simp only [Act.put, List.setIfInBounds_toArray, List.set_cons_zero, List.set_cons_succ, i64_w, i32_w]
              rfl
            refine two_ (i := 3) (j := 4) (Ni := some 24) (Nj := some 8) #[true, true, true, true, false, false] #[true, true, true, false, true, false] rfl rfl rfl rfl (by kernel_rfl) (by decide) (by decide) (fun K hK => ?_) (fun K hK => ?_)
            · skip
              refine Rgn.gs Try.func9 #[.agg #[.int .i64 t489, .int .i64 t490, .int .i64 t491, .int .i64 t492, .int .i64 t493], .agg #[.int .i64 t481, .slice Ao47 t482.length co47, .slice Ao48 t485.length co48]] ?_
              with_reducible refine (impl_LogNext.calls k t489 t490 t491 t492 t493 t481 _ _ t482 _ _ t485 t494 t495 t496 t497 t498 _ ?side1 ?side2 ?side3 ?side4 A15.out).mono ?_
              (case side1 => exact Rgn.cq (Kd.S_reads' HO484.out).2.2)
              (case side2 => exact (Kd.S_reads' HO484.out).2.1)
              (case side3 => exact Rgn.cq (Kd.R_reads' HO487.out).2.2)
              (case side4 => exact (Kd.R_reads' HO487.out).2.1)
              rintro e w52 ⟨rfl, hb⟩
              refine ⟨_, rfl, ?_⟩
              have n0_ := Aside0.mk (Kd.S_below (Rgn.sq HO471.out) hb)
              have n1_ := Aside0.mk (Kd.R_below (Rgn.rq HO474.out) hb)
              have n2_ := Aside0.mk (Kd.S_below (Rgn.sq HO484.out) hb)
              have n3_ := Aside0.mk (Kd.R_below (Rgn.rq HO487.out) hb)
              have n4_ := Aside0.mk (Rgn.bb BK460.out hb)
              have n5_ := Aside0.mk (Rgn.bb BK461.out hb)
              have n6_ := Aside0.mk (Rgn.bb BK480.out hb)
              have n7_ := Aside0.mk (Rgn.bb BK488.out hb)
              have n8_ := Aside0.mk (below_step (Rgn.bq HB.out) hb)
              clear HO471
              clear HO474
              clear HO484
              clear HO487
              clear BK460
              clear BK461
              clear BK480
              clear BK488
              clear HB
              have HO471 := n0_
              have HO474 := n1_
              have HO484 := n2_
              have HO487 := n3_
              have BK460 := n4_
              have BK461 := n5_
              have BK480 := n6_
              have BK488 := n7_
              have HB := n8_
              clear n0_ n1_ n2_ n3_ n4_ n5_ n6_ n7_ n8_
              (try clear hb)
              (try clear hb2)
              (try clear hk)
              (try clear hi)
              refine hK.out _ _ ⟨(blk_cell BK460.out 0).trans rfl, (blk_cell BK460.out 1).trans rfl, (blk_cell BK460.out 2).trans rfl, (blk_cell BK460.out 3).trans rfl, (blk_cell BK460.out 4).trans rfl, (blk_cell BK488.out 0).trans rfl, (blk_cell BK488.out 1).trans rfl, (blk_cell BK488.out 2).trans rfl⟩ (fun hHeld => ?_)
              clear hK K
              refine norm_ (a' := ?_) ?_ ?_
              rotate_left
              · show Act.put _ (some 24) _ = _
                simp only [Act.put, List.setIfInBounds_toArray, List.set_cons_zero, List.set_cons_succ, i64_w, i32_w]
                rfl
              refine one_ (i := 4) (N := some 8) #[true, true, true, true, true, false] rfl rfl (by kernel_rfl) (by decide) (fun K hK => ?_)
              refine box_step ?hg (N := 8) ?hd (cs := #[.int .i64 0, .int .i64 0, .int .i64 0, .int .i64 0, .int .i64 0]) (t := 29) ?hr ?_; (case hd => rfl); (case hg => rfl); (case hr => first | (go_simp; done) | (go_simp; rfl))
              intro gb499 hg w53 hbox hb
              have n0_ := Aside0.mk (Kd.S_below (Rgn.sq HO471.out) hb)
              have n1_ := Aside0.mk (Kd.R_below (Rgn.rq HO474.out) hb)
              have n2_ := Aside0.mk (Kd.S_below (Rgn.sq HO484.out) hb)
              have n3_ := Aside0.mk (Kd.R_below (Rgn.rq HO487.out) hb)
              have n4_ := Aside0.mk (Rgn.bb BK460.out hb)
              have n5_ := Aside0.mk (Rgn.bb BK461.out hb)
              have n6_ := Aside0.mk (Rgn.bb BK480.out hb)
              have n7_ := Aside0.mk (Rgn.bb BK488.out hb)
              have n8_ := Aside0.mk (below_step (Rgn.bq HB.out) hb)
              have n9_ := Aside0.mk (hbox)
              have n10_ := Aside0.mk ((by rw [hg]; exact (below_size (Rgn.bq HB.out)) : w.heap.size ≤ gb499))
              have n11_ := Aside0.mk ((by rw [hg]; exact (below_size (Rgn.bq HB.out)) : w.heap.size ≤ gb499))
              have n12_ := Aside0.mk ((by rw [hg]; exact Nat.ne_of_lt (blk_lt (g := gb460) (o := .cells #[.int .i64 a0_0, .int .i64 a0_1, .int .i64 a0_2, .int .i64 a0_3, .int .i64 a0_4] 23 (0, 0)) (Rgn.kb BK460.out)) : gb460 ≠ gb499))
              have n13_ := Aside0.mk ((by rw [hg]; exact Nat.ne_of_gt (blk_lt (g := gb460) (o := .cells #[.int .i64 a0_0, .int .i64 a0_1, .int .i64 a0_2, .int .i64 a0_3, .int .i64 a0_4] 23 (0, 0)) (Rgn.kb BK460.out)) : gb499 ≠ gb460))
              have n14_ := Aside0.mk ((by rw [hg]; exact Nat.ne_of_lt (blk_lt (g := gb461) (o := .cells #[.int .i64 a1_0, .slice A1_1 l1_1.length c1_1, .slice A1_2 l1_2.length c1_2] 27 (0, 0)) (Rgn.kb BK461.out)) : gb461 ≠ gb499))
              have n15_ := Aside0.mk ((by rw [hg]; exact Nat.ne_of_gt (blk_lt (g := gb461) (o := .cells #[.int .i64 a1_0, .slice A1_1 l1_1.length c1_1, .slice A1_2 l1_2.length c1_2] 27 (0, 0)) (Rgn.kb BK461.out)) : gb499 ≠ gb461))
              have n16_ := Aside0.mk ((by rw [hg]; exact Nat.ne_of_lt (blk_lt (g := gb480) (o := .cells #[.int .i64 t475, .int .i64 t476, .int .i64 t477, .int .i64 t478, .int .i64 t479] 29 (0, 0)) (Rgn.kb BK480.out)) : gb480 ≠ gb499))
              have n17_ := Aside0.mk ((by rw [hg]; exact Nat.ne_of_gt (blk_lt (g := gb480) (o := .cells #[.int .i64 t475, .int .i64 t476, .int .i64 t477, .int .i64 t478, .int .i64 t479] 29 (0, 0)) (Rgn.kb BK480.out)) : gb499 ≠ gb480))
              have n18_ := Aside0.mk ((by rw [hg]; exact Nat.ne_of_lt (blk_lt (g := gb488) (o := .cells #[.int .i64 t481, .slice Ao47 t482.length co47, .slice Ao48 t485.length co48] 34 (0, 0)) (Rgn.kb BK488.out)) : gb488 ≠ gb499))
              have n19_ := Aside0.mk ((by rw [hg]; exact Nat.ne_of_gt (blk_lt (g := gb488) (o := .cells #[.int .i64 t481, .slice Ao47 t482.length co47, .slice Ao48 t485.length co48] 34 (0, 0)) (Rgn.kb BK488.out)) : gb499 ≠ gb488))
              clear HO471
              clear HO474
              clear HO484
              clear HO487
              clear BK460
              clear BK461
              clear BK480
              clear BK488
              clear HB
              have HO471 := n0_
              have HO474 := n1_
              have HO484 := n2_
              have HO487 := n3_
              have BK460 := n4_
              have BK461 := n5_
              have BK480 := n6_
              have BK488 := n7_
              have HB := n8_
              have BK499 := n9_
              have GW499 := n10_
              have GE499 := n11_
              have NB460_499 := n12_
              have NB499_460 := n13_
              have NB461_499 := n14_
              have NB499_461 := n15_
              have NB480_499 := n16_
              have NB499_480 := n17_
              have NB488_499 := n18_
              have NB499_488 := n19_
              clear n0_ n1_ n2_ n3_ n4_ n5_ n6_ n7_ n8_ n9_ n10_ n11_ n12_ n13_ n14_ n15_ n16_ n17_ n18_ n19_
              clear hb hbox hg
              refine hK.out _ _ ⟨(blk_cell BK460.out 0).trans rfl, (blk_cell BK460.out 1).trans rfl, (blk_cell BK460.out 2).trans rfl, (blk_cell BK460.out 3).trans rfl, (blk_cell BK460.out 4).trans rfl, (blk_cell BK488.out 0).trans rfl, (blk_cell BK488.out 1).trans rfl, (blk_cell BK488.out 2).trans rfl⟩ (fun hHeld => ?_)
              clear hK K
              refine norm_ (a' := ?_) ?_ ?_
              rotate_left
              · show Act.put _ (some 8) _ = _
                simp only [Act.put, List.setIfInBounds_toArray, List.set_cons_zero, List.set_cons_succ, i64_w, i32_w]
                rfl
              exact norm_ (by simp only [putAll, Act.put, List.setIfInBounds_toArray, List.set_cons_zero, List.set_cons_succ]) (hCont (gb499) _ ⟨hHeld, (Rgn.sq HO471.out), (Rgn.rq HO474.out), (Rgn.sq HO484.out), (Rgn.rq HO487.out), (Rgn.kb BK460.out), (Rgn.kb BK461.out), (Rgn.kb BK480.out), (Rgn.kb BK488.out), (Rgn.kb BK499.out), GW499.out, GE499.out, NB460_499.out, NB499_460.out, NB461_499.out, NB499_461.out, NB480_499.out, NB499_480.out, NB488_499.out, NB499_488.out, (Rgn.bq HB.out)⟩)
            · skip
              refine box_step ?hg (N := 8) ?hd (cs := #[.int .i64 0, .int .i64 0, .int .i64 0, .int .i64 0, .int .i64 0]) (t := 29) ?hr ?_; (case hd => rfl); (case hg => rfl); (case hr => first | (go_simp; done) | (go_simp; rfl))
              intro gb499 hg w52 hbox hb
              have n0_ := Aside0.mk (Kd.S_below (Rgn.sq HO471.out) hb)
              have n1_ := Aside0.mk (Kd.R_below (Rgn.rq HO474.out) hb)
              have n2_ := Aside0.mk (Kd.S_below (Rgn.sq HO484.out) hb)
              have n3_ := Aside0.mk (Kd.R_below (Rgn.rq HO487.out) hb)
              have n4_ := Aside0.mk (Rgn.bb BK460.out hb)
              have n5_ := Aside0.mk (Rgn.bb BK461.out hb)
              have n6_ := Aside0.mk (Rgn.bb BK480.out hb)
              have n7_ := Aside0.mk (Rgn.bb BK488.out hb)
              have n8_ := Aside0.mk (below_step (Rgn.bq HB.out) hb)
              have n9_ := Aside0.mk (hbox)
              have n10_ := Aside0.mk ((by rw [hg]; exact (below_size (Rgn.bq HB.out)) : w.heap.size ≤ gb499))
              have n11_ := Aside0.mk ((by rw [hg]; exact (below_size (Rgn.bq HB.out)) : w.heap.size ≤ gb499))
              have n12_ := Aside0.mk ((by rw [hg]; exact Nat.ne_of_lt (blk_lt (g := gb460) (o := .cells #[.int .i64 a0_0, .int .i64 a0_1, .int .i64 a0_2, .int .i64 a0_3, .int .i64 a0_4] 23 (0, 0)) (Rgn.kb BK460.out)) : gb460 ≠ gb499))
              have n13_ := Aside0.mk ((by rw [hg]; exact Nat.ne_of_gt (blk_lt (g := gb460) (o := .cells #[.int .i64 a0_0, .int .i64 a0_1, .int .i64 a0_2, .int .i64 a0_3, .int .i64 a0_4] 23 (0, 0)) (Rgn.kb BK460.out)) : gb499 ≠ gb460))
              have n14_ := Aside0.mk ((by rw [hg]; exact Nat.ne_of_lt (blk_lt (g := gb461) (o := .cells #[.int .i64 a1_0, .slice A1_1 l1_1.length c1_1, .slice A1_2 l1_2.length c1_2] 27 (0, 0)) (Rgn.kb BK461.out)) : gb461 ≠ gb499))
              have n15_ := Aside0.mk ((by rw [hg]; exact Nat.ne_of_gt (blk_lt (g := gb461) (o := .cells #[.int .i64 a1_0, .slice A1_1 l1_1.length c1_1, .slice A1_2 l1_2.length c1_2] 27 (0, 0)) (Rgn.kb BK461.out)) : gb499 ≠ gb461))
              have n16_ := Aside0.mk ((by rw [hg]; exact Nat.ne_of_lt (blk_lt (g := gb480) (o := .cells #[.int .i64 t475, .int .i64 t476, .int .i64 t477, .int .i64 t478, .int .i64 t479] 29 (0, 0)) (Rgn.kb BK480.out)) : gb480 ≠ gb499))
              have n17_ := Aside0.mk ((by rw [hg]; exact Nat.ne_of_gt (blk_lt (g := gb480) (o := .cells #[.int .i64 t475, .int .i64 t476, .int .i64 t477, .int .i64 t478, .int .i64 t479] 29 (0, 0)) (Rgn.kb BK480.out)) : gb499 ≠ gb480))
              have n18_ := Aside0.mk ((by rw [hg]; exact Nat.ne_of_lt (blk_lt (g := gb488) (o := .cells #[.int .i64 t481, .slice Ao47 t482.length co47, .slice Ao48 t485.length co48] 34 (0, 0)) (Rgn.kb BK488.out)) : gb488 ≠ gb499))
              have n19_ := Aside0.mk ((by rw [hg]; exact Nat.ne_of_gt (blk_lt (g := gb488) (o := .cells #[.int .i64 t481, .slice Ao47 t482.length co47, .slice Ao48 t485.length co48] 34 (0, 0)) (Rgn.kb BK488.out)) : gb499 ≠ gb488))
              clear HO471
              clear HO474
              clear HO484
              clear HO487
              clear BK460
              clear BK461
              clear BK480
              clear BK488
              clear HB
              have HO471 := n0_
              have HO474 := n1_
              have HO484 := n2_
              have HO487 := n3_
              have BK460 := n4_
              have BK461 := n5_
              have BK480 := n6_
              have BK488 := n7_
              have HB := n8_
              have BK499 := n9_
              have GW499 := n10_
              have GE499 := n11_
              have NB460_499 := n12_
              have NB499_460 := n13_
              have NB461_499 := n14_
              have NB499_461 := n15_
              have NB480_499 := n16_
              have NB499_480 := n17_
              have NB488_499 := n18_
              have NB499_488 := n19_
              clear n0_ n1_ n2_ n3_ n4_ n5_ n6_ n7_ n8_ n9_ n10_ n11_ n12_ n13_ n14_ n15_ n16_ n17_ n18_ n19_
              clear hb hbox hg
              refine hK.out _ _ ⟨(blk_cell BK460.out 0).trans rfl, (blk_cell BK460.out 1).trans rfl, (blk_cell BK460.out 2).trans rfl, (blk_cell BK460.out 3).trans rfl, (blk_cell BK460.out 4).trans rfl, (blk_cell BK488.out 0).trans rfl, (blk_cell BK488.out 1).trans rfl, (blk_cell BK488.out 2).trans rfl⟩ (fun hHeld => ?_)
              clear hK K
              refine norm_ (a' := ?_) ?_ ?_
              rotate_left
              · show Act.put _ (some 8) _ = _
                simp only [Act.put, List.setIfInBounds_toArray, List.set_cons_zero, List.set_cons_succ, i64_w, i32_w]
                rfl
              refine one_ (i := 3) (N := some 24) #[true, true, true, true, true, false] rfl rfl (by kernel_rfl) (by decide) (fun K hK => ?_)
              refine Rgn.gs Try.func9 #[.agg #[.int .i64 t489, .int .i64 t490, .int .i64 t491, .int .i64 t492, .int .i64 t493], .agg #[.int .i64 t481, .slice Ao47 t482.length co47, .slice Ao48 t485.length co48]] ?_
              with_reducible refine (impl_LogNext.calls k t489 t490 t491 t492 t493 t481 _ _ t482 _ _ t485 t494 t495 t496 t497 t498 _ ?side1 ?side2 ?side3 ?side4 A15.out).mono ?_
              (case side1 => exact Rgn.cq (Kd.S_reads' HO484.out).2.2)
              (case side2 => exact (Kd.S_reads' HO484.out).2.1)
              (case side3 => exact Rgn.cq (Kd.R_reads' HO487.out).2.2)
              (case side4 => exact (Kd.R_reads' HO487.out).2.1)
              rintro e w53 ⟨rfl, hb⟩
              refine ⟨_, rfl, ?_⟩
              have n0_ := Aside0.mk (Kd.S_below (Rgn.sq HO471.out) hb)
              have n1_ := Aside0.mk (Kd.R_below (Rgn.rq HO474.out) hb)
              have n2_ := Aside0.mk (Kd.S_below (Rgn.sq HO484.out) hb)
              have n3_ := Aside0.mk (Kd.R_below (Rgn.rq HO487.out) hb)
              have n4_ := Aside0.mk (Rgn.bb BK460.out hb)
              have n5_ := Aside0.mk (Rgn.bb BK461.out hb)
              have n6_ := Aside0.mk (Rgn.bb BK480.out hb)
              have n7_ := Aside0.mk (Rgn.bb BK488.out hb)
              have n8_ := Aside0.mk (Rgn.bb BK499.out hb)
              have n9_ := Aside0.mk (below_step (Rgn.bq HB.out) hb)
              clear HO471
              clear HO474
              clear HO484
              clear HO487
              clear BK460
              clear BK461
              clear BK480
              clear BK488
              clear BK499
              clear HB
              have HO471 := n0_
              have HO474 := n1_
              have HO484 := n2_
              have HO487 := n3_
              have BK460 := n4_
              have BK461 := n5_
              have BK480 := n6_
              have BK488 := n7_
              have BK499 := n8_
              have HB := n9_
              clear n0_ n1_ n2_ n3_ n4_ n5_ n6_ n7_ n8_ n9_
              (try clear hb)
              (try clear hb2)
              (try clear hk)
              (try clear hi)
              refine hK.out _ _ ⟨(blk_cell BK460.out 0).trans rfl, (blk_cell BK460.out 1).trans rfl, (blk_cell BK460.out 2).trans rfl, (blk_cell BK460.out 3).trans rfl, (blk_cell BK460.out 4).trans rfl, (blk_cell BK488.out 0).trans rfl, (blk_cell BK488.out 1).trans rfl, (blk_cell BK488.out 2).trans rfl⟩ (fun hHeld => ?_)
              clear hK K
              refine norm_ (a' := ?_) ?_ ?_
              rotate_left
              · show Act.put _ (some 24) _ = _
                simp only [Act.put, List.setIfInBounds_toArray, List.set_cons_zero, List.set_cons_succ, i64_w, i32_w]
                rfl
              exact norm_ (by simp only [putAll, Act.put, List.setIfInBounds_toArray, List.set_cons_zero, List.set_cons_succ]) (hCont (gb499) _ ⟨hHeld, (Rgn.sq HO471.out), (Rgn.rq HO474.out), (Rgn.sq HO484.out), (Rgn.rq HO487.out), (Rgn.kb BK460.out), (Rgn.kb BK461.out), (Rgn.kb BK480.out), (Rgn.kb BK488.out), (Rgn.kb BK499.out), GW499.out, GE499.out, NB460_499.out, NB499_460.out, NB461_499.out, NB499_461.out, NB480_499.out, NB499_480.out, NB488_499.out, NB499_488.out, (Rgn.bq HB.out)⟩)
          · skip
            refine box_step ?hg (N := 8) ?hd (cs := #[.int .i64 0, .int .i64 0, .int .i64 0, .int .i64 0, .int .i64 0]) (t := 29) ?hr ?_; (case hd => rfl); (case hg => rfl); (case hr => first | (go_simp; done) | (go_simp; rfl))
            intro gb499 hg w51 hbox hb
            have n0_ := Aside0.mk (Kd.S_below (Rgn.sq HO471.out) hb)
            have n1_ := Aside0.mk (Kd.R_below (Rgn.rq HO474.out) hb)
            have n2_ := Aside0.mk (Kd.S_below (Rgn.sq HO484.out) hb)
            have n3_ := Aside0.mk (Kd.R_below (Rgn.rq HO487.out) hb)
            have n4_ := Aside0.mk (Rgn.bb BK460.out hb)
            have n5_ := Aside0.mk (Rgn.bb BK461.out hb)
            have n6_ := Aside0.mk (Rgn.bb BK480.out hb)
            have n7_ := Aside0.mk (Rgn.bb BK488.out hb)
            have n8_ := Aside0.mk (below_step (Rgn.bq HB.out) hb)
            have n9_ := Aside0.mk (hbox)
            have n10_ := Aside0.mk ((by rw [hg]; exact (below_size (Rgn.bq HB.out)) : w.heap.size ≤ gb499))
            have n11_ := Aside0.mk ((by rw [hg]; exact (below_size (Rgn.bq HB.out)) : w.heap.size ≤ gb499))
            have n12_ := Aside0.mk ((by rw [hg]; exact Nat.ne_of_lt (blk_lt (g := gb460) (o := .cells #[.int .i64 a0_0, .int .i64 a0_1, .int .i64 a0_2, .int .i64 a0_3, .int .i64 a0_4] 23 (0, 0)) (Rgn.kb BK460.out)) : gb460 ≠ gb499))
            have n13_ := Aside0.mk ((by rw [hg]; exact Nat.ne_of_gt (blk_lt (g := gb460) (o := .cells #[.int .i64 a0_0, .int .i64 a0_1, .int .i64 a0_2, .int .i64 a0_3, .int .i64 a0_4] 23 (0, 0)) (Rgn.kb BK460.out)) : gb499 ≠ gb460))
            have n14_ := Aside0.mk ((by rw [hg]; exact Nat.ne_of_lt (blk_lt (g := gb461) (o := .cells #[.int .i64 a1_0, .slice A1_1 l1_1.length c1_1, .slice A1_2 l1_2.length c1_2] 27 (0, 0)) (Rgn.kb BK461.out)) : gb461 ≠ gb499))
            have n15_ := Aside0.mk ((by rw [hg]; exact Nat.ne_of_gt (blk_lt (g := gb461) (o := .cells #[.int .i64 a1_0, .slice A1_1 l1_1.length c1_1, .slice A1_2 l1_2.length c1_2] 27 (0, 0)) (Rgn.kb BK461.out)) : gb499 ≠ gb461))
            have n16_ := Aside0.mk ((by rw [hg]; exact Nat.ne_of_lt (blk_lt (g := gb480) (o := .cells #[.int .i64 t475, .int .i64 t476, .int .i64 t477, .int .i64 t478, .int .i64 t479] 29 (0, 0)) (Rgn.kb BK480.out)) : gb480 ≠ gb499))
            have n17_ := Aside0.mk ((by rw [hg]; exact Nat.ne_of_gt (blk_lt (g := gb480) (o := .cells #[.int .i64 t475, .int .i64 t476, .int .i64 t477, .int .i64 t478, .int .i64 t479] 29 (0, 0)) (Rgn.kb BK480.out)) : gb499 ≠ gb480))
            have n18_ := Aside0.mk ((by rw [hg]; exact Nat.ne_of_lt (blk_lt (g := gb488) (o := .cells #[.int .i64 t481, .slice Ao47 t482.length co47, .slice Ao48 t485.length co48] 34 (0, 0)) (Rgn.kb BK488.out)) : gb488 ≠ gb499))
            have n19_ := Aside0.mk ((by rw [hg]; exact Nat.ne_of_gt (blk_lt (g := gb488) (o := .cells #[.int .i64 t481, .slice Ao47 t482.length co47, .slice Ao48 t485.length co48] 34 (0, 0)) (Rgn.kb BK488.out)) : gb499 ≠ gb488))
            clear HO471
            clear HO474
            clear HO484
            clear HO487
            clear BK460
            clear BK461
            clear BK480
            clear BK488
            clear HB
            have HO471 := n0_
            have HO474 := n1_
            have HO484 := n2_
            have HO487 := n3_
            have BK460 := n4_
            have BK461 := n5_
            have BK480 := n6_
            have BK488 := n7_
            have HB := n8_
            have BK499 := n9_
            have GW499 := n10_
            have GE499 := n11_
            have NB460_499 := n12_
            have NB499_460 := n13_
            have NB461_499 := n14_
            have NB499_461 := n15_
            have NB480_499 := n16_
            have NB499_480 := n17_
            have NB488_499 := n18_
            have NB499_488 := n19_
            clear n0_ n1_ n2_ n3_ n4_ n5_ n6_ n7_ n8_ n9_ n10_ n11_ n12_ n13_ n14_ n15_ n16_ n17_ n18_ n19_
            clear hb hbox hg
            refine hK.out _ _ ⟨(blk_cell BK460.out 0).trans rfl, (blk_cell BK460.out 1).trans rfl, (blk_cell BK460.out 2).trans rfl, (blk_cell BK460.out 3).trans rfl, (blk_cell BK460.out 4).trans rfl, (blk_cell BK488.out 0).trans rfl, (blk_cell BK488.out 1).trans rfl, (blk_cell BK488.out 2).trans rfl⟩ (fun hHeld => ?_)
            clear hK K
            refine norm_ (a' := ?_) ?_ ?_
            rotate_left
            · show Act.put _ (some 8) _ = _
              simp only [Act.put, List.setIfInBounds_toArray, List.set_cons_zero, List.set_cons_succ, i64_w, i32_w]
              rfl
            refine one_ (i := 1) (N := some 22) #[true, true, true, false, true, false] rfl rfl (by kernel_rfl) (by decide) (fun K hK => ?_)
            refine Rgn.gs Try.func7 #[.agg #[.int .i64 a0_0, .int .i64 a0_1, .int .i64 a0_2, .int .i64 a0_3, .int .i64 a0_4]] ?_
            with_reducible refine (laws_toLog.calls a0_0 a0_1 a0_2 a0_3 a0_4 t489 t490 t491 t492 t493 _ A14.out).mono ?_
            rintro e w52 ⟨rfl, hb⟩
            refine ⟨_, rfl, ?_⟩
            have n0_ := Aside0.mk (Kd.S_below (Rgn.sq HO471.out) hb)
            have n1_ := Aside0.mk (Kd.R_below (Rgn.rq HO474.out) hb)
            have n2_ := Aside0.mk (Kd.S_below (Rgn.sq HO484.out) hb)
            have n3_ := Aside0.mk (Kd.R_below (Rgn.rq HO487.out) hb)
            have n4_ := Aside0.mk (Rgn.bb BK460.out hb)
            have n5_ := Aside0.mk (Rgn.bb BK461.out hb)
            have n6_ := Aside0.mk (Rgn.bb BK480.out hb)
            have n7_ := Aside0.mk (Rgn.bb BK488.out hb)
            have n8_ := Aside0.mk (Rgn.bb BK499.out hb)
            have n9_ := Aside0.mk (below_step (Rgn.bq HB.out) hb)
            clear HO471
            clear HO474
            clear HO484
            clear HO487
            clear BK460
            clear BK461
            clear BK480
            clear BK488
            clear BK499
            clear HB
            have HO471 := n0_
            have HO474 := n1_
            have HO484 := n2_
            have HO487 := n3_
            have BK460 := n4_
            have BK461 := n5_
            have BK480 := n6_
            have BK488 := n7_
            have BK499 := n8_
            have HB := n9_
            clear n0_ n1_ n2_ n3_ n4_ n5_ n6_ n7_ n8_ n9_
            (try clear hb)
            (try clear hb2)
            (try clear hk)
            (try clear hi)
            refine hK.out _ _ ⟨(blk_cell BK460.out 0).trans rfl, (blk_cell BK460.out 1).trans rfl, (blk_cell BK460.out 2).trans rfl, (blk_cell BK460.out 3).trans rfl, (blk_cell BK460.out 4).trans rfl, (blk_cell BK488.out 0).trans rfl, (blk_cell BK488.out 1).trans rfl, (blk_cell BK488.out 2).trans rfl⟩ (fun hHeld => ?_)
            clear hK K
            refine norm_ (a' := ?_) ?_ ?_
            rotate_left
            · show Act.put _ (some 22) _ = _
              simp only [Act.put, List.setIfInBounds_toArray, List.set_cons_zero, List.set_cons_succ, i64_w, i32_w]
              rfl
            refine one_ (i := 3) (N := some 24) #[true, true, true, true, true, false] rfl rfl (by kernel_rfl) (by decide) (fun K hK => ?_)
            refine Rgn.gs Try.func9 #[.agg #[.int .i64 t489, .int .i64 t490, .int .i64 t491, .int .i64 t492, .int .i64 t493], .agg #[.int .i64 t481, .slice Ao47 t482.length co47, .slice Ao48 t485.length co48]] ?_
            with_reducible refine (impl_LogNext.calls k t489 t490 t491 t492 t493 t481 _ _ t482 _ _ t485 t494 t495 t496 t497 t498 _ ?side1 ?side2 ?side3 ?side4 A15.out).mono ?_
            (case side1 => exact Rgn.cq (Kd.S_reads' HO484.out).2.2)
            (case side2 => exact (Kd.S_reads' HO484.out).2.1)
            (case side3 => exact Rgn.cq (Kd.R_reads' HO487.out).2.2)
            (case side4 => exact (Kd.R_reads' HO487.out).2.1)
            rintro e w53 ⟨rfl, hb⟩
            refine ⟨_, rfl, ?_⟩
            have n0_ := Aside0.mk (Kd.S_below (Rgn.sq HO471.out) hb)
            have n1_ := Aside0.mk (Kd.R_below (Rgn.rq HO474.out) hb)
            have n2_ := Aside0.mk (Kd.S_below (Rgn.sq HO484.out) hb)
            have n3_ := Aside0.mk (Kd.R_below (Rgn.rq HO487.out) hb)
            have n4_ := Aside0.mk (Rgn.bb BK460.out hb)
            have n5_ := Aside0.mk (Rgn.bb BK461.out hb)
            have n6_ := Aside0.mk (Rgn.bb BK480.out hb)
            have n7_ := Aside0.mk (Rgn.bb BK488.out hb)
            have n8_ := Aside0.mk (Rgn.bb BK499.out hb)
            have n9_ := Aside0.mk (below_step (Rgn.bq HB.out) hb)
            clear HO471
            clear HO474
            clear HO484
            clear HO487
            clear BK460
            clear BK461
            clear BK480
            clear BK488
            clear BK499
            clear HB
            have HO471 := n0_
            have HO474 := n1_
            have HO484 := n2_
            have HO487 := n3_
            have BK460 := n4_
            have BK461 := n5_
            have BK480 := n6_
            have BK488 := n7_
            have BK499 := n8_
            have HB := n9_
            clear n0_ n1_ n2_ n3_ n4_ n5_ n6_ n7_ n8_ n9_
            (try clear hb)
            (try clear hb2)
            (try clear hk)
            (try clear hi)
            refine hK.out _ _ ⟨(blk_cell BK460.out 0).trans rfl, (blk_cell BK460.out 1).trans rfl, (blk_cell BK460.out 2).trans rfl, (blk_cell BK460.out 3).trans rfl, (blk_cell BK460.out 4).trans rfl, (blk_cell BK488.out 0).trans rfl, (blk_cell BK488.out 1).trans rfl, (blk_cell BK488.out 2).trans rfl⟩ (fun hHeld => ?_)
            clear hK K
            refine norm_ (a' := ?_) ?_ ?_
            rotate_left
            · show Act.put _ (some 24) _ = _
              simp only [Act.put, List.setIfInBounds_toArray, List.set_cons_zero, List.set_cons_succ, i64_w, i32_w]
              rfl
            exact norm_ (by simp only [putAll, Act.put, List.setIfInBounds_toArray, List.set_cons_zero, List.set_cons_succ]) (hCont (gb499) _ ⟨hHeld, (Rgn.sq HO471.out), (Rgn.rq HO474.out), (Rgn.sq HO484.out), (Rgn.rq HO487.out), (Rgn.kb BK460.out), (Rgn.kb BK461.out), (Rgn.kb BK480.out), (Rgn.kb BK488.out), (Rgn.kb BK499.out), GW499.out, GE499.out, NB460_499.out, NB499_460.out, NB461_499.out, NB499_461.out, NB480_499.out, NB499_480.out, NB488_499.out, NB499_488.out, (Rgn.bq HB.out)⟩)
        rintro gb499 w54 ⟨hS_, h0_, h1_, h2_, h3_, h4_, h5_, h6_, h7_, h8_, h9_, h10_, h11_, h12_, h13_, h14_, h15_, h16_, h17_, h18_, h19_⟩
        have n0_ : Aside0 (Kd.S k61 61 w54 w.heap.size (fun k_ => some k_ ≠ (.slice Ao47 t482.length co47 : Value).ownBlock) v470 t469) := ⟨h0_⟩
        have n1_ : Aside0 (Kd.R (Kd.int .i64) 2 w54 w.heap.size (fun k_ => some k_ ≠ (.slice Ao48 t485.length co48 : Value).ownBlock) v473 t472) := ⟨h1_⟩
        have n2_ : Aside0 (Kd.S k61 61 w54 w.heap.size (fun k_ => some k_ ≠ (v470 : Value).ownBlock) (.slice Ao47 t482.length co47) t482) := ⟨h2_⟩
        have n3_ : Aside0 (Kd.R (Kd.int .i64) 2 w54 w.heap.size (fun k_ => some k_ ≠ (v473 : Value).ownBlock) (.slice Ao48 t485.length co48) t485) := ⟨h3_⟩
        have n4_ : Aside0 (w54.heap[gb460]? = some (.cells #[.int .i64 a0_0, .int .i64 a0_1, .int .i64 a0_2, .int .i64 a0_3, .int .i64 a0_4] 23 (0, 0))) := ⟨h4_⟩
        have n5_ : Aside0 (w54.heap[gb461]? = some (.cells #[.int .i64 a1_0, .slice A1_1 l1_1.length c1_1, .slice A1_2 l1_2.length c1_2] 27 (0, 0))) := ⟨h5_⟩
        have n6_ : Aside0 (w54.heap[gb480]? = some (.cells #[.int .i64 t475, .int .i64 t476, .int .i64 t477, .int .i64 t478, .int .i64 t479] 29 (0, 0))) := ⟨h6_⟩
        have n7_ : Aside0 (w54.heap[gb488]? = some (.cells #[.int .i64 t481, .slice Ao47 t482.length co47, .slice Ao48 t485.length co48] 34 (0, 0))) := ⟨h7_⟩
        have n8_ : Aside0 (w54.heap[gb499]? = some (.cells #[.int .i64 0, .int .i64 0, .int .i64 0, .int .i64 0, .int .i64 0] 29 (0, 0))) := ⟨h8_⟩
        have n9_ : Aside0 (w.heap.size ≤ gb499) := ⟨h9_⟩
        have n10_ : Aside0 (w.heap.size ≤ gb499) := ⟨h10_⟩
        have n11_ : Aside0 (gb460 ≠ gb499) := ⟨h11_⟩
        have n12_ : Aside0 (gb499 ≠ gb460) := ⟨h12_⟩
        have n13_ : Aside0 (gb461 ≠ gb499) := ⟨h13_⟩
        have n14_ : Aside0 (gb499 ≠ gb461) := ⟨h14_⟩
        have n15_ : Aside0 (gb480 ≠ gb499) := ⟨h15_⟩
        have n16_ : Aside0 (gb499 ≠ gb480) := ⟨h16_⟩
        have n17_ : Aside0 (gb488 ≠ gb499) := ⟨h17_⟩
        have n18_ : Aside0 (gb499 ≠ gb488) := ⟨h18_⟩
        have n19_ : Aside0 (Below w.heap.size w w54) := ⟨h19_⟩
        clear HO471
        clear HO474
        clear HO484
        clear HO487
        clear BK460
        clear BK461
        clear BK480
        clear BK488
        clear HB
        clear h0_ h1_ h2_ h3_ h4_ h5_ h6_ h7_ h8_ h9_ h10_ h11_ h12_ h13_ h14_ h15_ h16_ h17_ h18_ h19_
        have HO471 := n0_
        have HO474 := n1_
        have HO484 := n2_
        have HO487 := n3_
        have BK460 := n4_
        have BK461 := n5_
        have BK480 := n6_
        have BK488 := n7_
        have BK499 := n8_
        have GW499 := n9_
        have GE499 := n10_
        have NB460_499 := n11_
        have NB499_460 := n12_
        have NB461_499 := n13_
        have NB499_461 := n14_
        have NB480_499 := n15_
        have NB499_480 := n16_
        have NB488_499 := n17_
        have NB499_488 := n18_
        have HB := n19_
        clear n0_ n1_ n2_ n3_ n4_ n5_ n6_ n7_ n8_ n9_ n10_ n11_ n12_ n13_ n14_ n15_ n16_ n17_ n18_ n19_
        have hHeld : w54.cell? ⟨gb460, 0, none⟩ = some (.int .i64 a0_0) ∧ w54.cell? ⟨gb460, 1, none⟩ = some (.int .i64 a0_1) ∧ w54.cell? ⟨gb460, 2, none⟩ = some (.int .i64 a0_2) ∧ w54.cell? ⟨gb460, 3, none⟩ = some (.int .i64 a0_3) ∧ w54.cell? ⟨gb460, 4, none⟩ = some (.int .i64 a0_4) ∧ w54.cell? ⟨gb488, 0, none⟩ = some (.int .i64 t481) ∧ w54.cell? ⟨gb488, 1, none⟩ = some (.slice Ao47 t482.length co47) ∧ w54.cell? ⟨gb488, 2, none⟩ = some (.slice Ao48 t485.length co48) := hS_
        refine norm_ (a' := ?_) ?_ ?_
        rotate_left
        · simp only [putAll, Act.put, List.setIfInBounds_toArray, List.set_cons_zero, List.set_cons_succ]
          rfl
        refine one_ (i := 5) (N := none) #[true, true, true, true, true, true] rfl rfl (by kernel_rfl) (by decide) (fun K hK => ?_)
        have hs55 : w54.cell? ⟨gb499, 0, none⟩ = some (.int .i64 0) := (blk_cell BK499.out 0).trans rfl
        have hfs55 := blk_frozen BK499.out 0
        have hns55_0 := NB460_499.out
        have hns55_1 := NB461_499.out
        have hns55_2 := NB480_499.out
        have hns55_3 := NB488_499.out
        have hms55_0 := NB499_460.out
        have hms55_1 := NB499_461.out
        have hms55_2 := NB499_480.out
        have hms55_3 := NB499_488.out
        have hs56 : w54.cell? ⟨gb499, 1, none⟩ = some (.int .i64 0) := (blk_cell BK499.out 1).trans rfl
        have hfs56 := blk_frozen BK499.out 1
        have hns56_0 := NB460_499.out
        have hns56_1 := NB461_499.out
        have hns56_2 := NB480_499.out
        have hns56_3 := NB488_499.out
        have hms56_0 := NB499_460.out
        have hms56_1 := NB499_461.out
        have hms56_2 := NB499_480.out
        have hms56_3 := NB499_488.out
        have hs57 : w54.cell? ⟨gb499, 2, none⟩ = some (.int .i64 0) := (blk_cell BK499.out 2).trans rfl
        have hfs57 := blk_frozen BK499.out 2
        have hns57_0 := NB460_499.out
        have hns57_1 := NB461_499.out
        have hns57_2 := NB480_499.out
        have hns57_3 := NB488_499.out
        have hms57_0 := NB499_460.out
        have hms57_1 := NB499_461.out
        have hms57_2 := NB499_480.out
        have hms57_3 := NB499_488.out
        have hs58 : w54.cell? ⟨gb499, 3, none⟩ = some (.int .i64 0) := (blk_cell BK499.out 3).trans rfl
        have hfs58 := blk_frozen BK499.out 3
        have hns58_0 := NB460_499.out
        have hns58_1 := NB461_499.out
        have hns58_2 := NB480_499.out
        have hns58_3 := NB488_499.out
        have hms58_0 := NB499_460.out
        have hms58_1 := NB499_461.out
        have hms58_2 := NB499_480.out
        have hms58_3 := NB499_488.out
        have hs59 : w54.cell? ⟨gb499, 4, none⟩ = some (.int .i64 0) := (blk_cell BK499.out 4).trans rfl
        have hfs59 := blk_frozen BK499.out 4
        have hns59_0 := NB460_499.out
        have hns59_1 := NB461_499.out
        have hns59_2 := NB480_499.out
        have hns59_3 := NB488_499.out
        have hms59_0 := NB499_460.out
        have hms59_1 := NB499_461.out
        have hms59_2 := NB499_480.out
        have hms59_3 := NB499_488.out
        refine skip_ (w1 := ?_) (by rfl) rfl ?_ ?_
        rotate_left
        · go_simp
          rfl
        refine hK.out _ _ ⟨((cell_far (p := ⟨gb499, _, none⟩) NB460_499.out _).trans (((cell_far (p := ⟨gb499, _, none⟩) NB460_499.out _).trans (((cell_far (p := ⟨gb499, _, none⟩) NB460_499.out _).trans (((cell_far (p := ⟨gb499, _, none⟩) NB460_499.out _).trans (((cell_far (p := ⟨gb499, _, none⟩) NB460_499.out _).trans (hHeld.1)))))))))), ((cell_far (p := ⟨gb499, _, none⟩) NB460_499.out _).trans (((cell_far (p := ⟨gb499, _, none⟩) NB460_499.out _).trans (((cell_far (p := ⟨gb499, _, none⟩) NB460_499.out _).trans (((cell_far (p := ⟨gb499, _, none⟩) NB460_499.out _).trans (((cell_far (p := ⟨gb499, _, none⟩) NB460_499.out _).trans (hHeld.2.1)))))))))), ((cell_far (p := ⟨gb499, _, none⟩) NB460_499.out _).trans (((cell_far (p := ⟨gb499, _, none⟩) NB460_499.out _).trans (((cell_far (p := ⟨gb499, _, none⟩) NB460_499.out _).trans (((cell_far (p := ⟨gb499, _, none⟩) NB460_499.out _).trans (((cell_far (p := ⟨gb499, _, none⟩) NB460_499.out _).trans (hHeld.2.2.1)))))))))), ((cell_far (p := ⟨gb499, _, none⟩) NB460_499.out _).trans (((cell_far (p := ⟨gb499, _, none⟩) NB460_499.out _).trans (((cell_far (p := ⟨gb499, _, none⟩) NB460_499.out _).trans (((cell_far (p := ⟨gb499, _, none⟩) NB460_499.out _).trans (((cell_far (p := ⟨gb499, _, none⟩) NB460_499.out _).trans (hHeld.2.2.2.1)))))))))), ((cell_far (p := ⟨gb499, _, none⟩) NB460_499.out _).trans (((cell_far (p := ⟨gb499, _, none⟩) NB460_499.out _).trans (((cell_far (p := ⟨gb499, _, none⟩) NB460_499.out _).trans (((cell_far (p := ⟨gb499, _, none⟩) NB460_499.out _).trans (((cell_far (p := ⟨gb499, _, none⟩) NB460_499.out _).trans (hHeld.2.2.2.2.1)))))))))), ((cell_far (p := ⟨gb499, _, none⟩) NB488_499.out _).trans (((cell_far (p := ⟨gb499, _, none⟩) NB488_499.out _).trans (((cell_far (p := ⟨gb499, _, none⟩) NB488_499.out _).trans (((cell_far (p := ⟨gb499, _, none⟩) NB488_499.out _).trans (((cell_far (p := ⟨gb499, _, none⟩) NB488_499.out _).trans (hHeld.2.2.2.2.2.1)))))))))), ((cell_far (p := ⟨gb499, _, none⟩) NB488_499.out _).trans (((cell_far (p := ⟨gb499, _, none⟩) NB488_499.out _).trans (((cell_far (p := ⟨gb499, _, none⟩) NB488_499.out _).trans (((cell_far (p := ⟨gb499, _, none⟩) NB488_499.out _).trans (((cell_far (p := ⟨gb499, _, none⟩) NB488_499.out _).trans (hHeld.2.2.2.2.2.2.1)))))))))), ((cell_far (p := ⟨gb499, _, none⟩) NB488_499.out _).trans (((cell_far (p := ⟨gb499, _, none⟩) NB488_499.out _).trans (((cell_far (p := ⟨gb499, _, none⟩) NB488_499.out _).trans (((cell_far (p := ⟨gb499, _, none⟩) NB488_499.out _).trans (((cell_far (p := ⟨gb499, _, none⟩) NB488_499.out _).trans (hHeld.2.2.2.2.2.2.2))))))))))⟩ (fun hHeld => ?_)
        clear hK K
        refine done_ (by kernel_rfl) ?_
        have hnb60 := NB499_460.out
        have hnc60 := NB460_499.out
        have hnb61 := NB499_461.out
        have hnc61 := NB461_499.out
        have hnb62 := NB499_480.out
        have hnc62 := NB480_499.out
        have hnb63 := NB499_488.out
        have hnc63 := NB488_499.out
        have hcz64_0 : w54.cell? ⟨gb499, 0, none⟩ = some (.int .i64 0) := (blk_cell BK499.out 0).trans rfl
        have hcz64_1 : w54.cell? ⟨gb499, 1, none⟩ = some (.int .i64 0) := (blk_cell BK499.out 1).trans rfl
        have hcz64_2 : w54.cell? ⟨gb499, 2, none⟩ = some (.int .i64 0) := (blk_cell BK499.out 2).trans rfl
        have hcz64_3 : w54.cell? ⟨gb499, 3, none⟩ = some (.int .i64 0) := (blk_cell BK499.out 3).trans rfl
        have hcz64_4 : w54.cell? ⟨gb499, 4, none⟩ = some (.int .i64 0) := (blk_cell BK499.out 4).trans rfl
        have hfz64_0 := blk_frozen BK499.out 0
        have hfz64_1 := blk_frozen BK499.out 1
        have hfz64_2 := blk_frozen BK499.out 2
        have hfz64_3 := blk_frozen BK499.out 3
        have hfz64_4 := blk_frozen BK499.out 4
        have hnb65 := NB480_460.out
        have hnc65 := NB460_480.out
        have hcz66_0 : w54.cell? ⟨gb480, 0, none⟩ = some (.int .i64 t475) := (blk_cell BK480.out 0).trans rfl
        have hcz66_1 : w54.cell? ⟨gb480, 1, none⟩ = some (.int .i64 t476) := (blk_cell BK480.out 1).trans rfl
        have hcz66_2 : w54.cell? ⟨gb480, 2, none⟩ = some (.int .i64 t477) := (blk_cell BK480.out 2).trans rfl
        have hcz66_3 : w54.cell? ⟨gb480, 3, none⟩ = some (.int .i64 t478) := (blk_cell BK480.out 3).trans rfl
        have hcz66_4 : w54.cell? ⟨gb480, 4, none⟩ = some (.int .i64 t479) := (blk_cell BK480.out 4).trans rfl
        have hfz66_0 := blk_frozen BK480.out 0
        have hfz66_1 := blk_frozen BK480.out 1
        have hfz66_2 := blk_frozen BK480.out 2
        have hfz66_3 := blk_frozen BK480.out 3
        have hfz66_4 := blk_frozen BK480.out 4
        try go_wp2_with (first | ((with_reducible refine gate_callee (f := 10) rfl ?_); refine Rgn.gl (some 27) Try.func10 #[.agg #[.int .i64 t494, .int .i64 t495, .int .i64 t496, .int .i64 t497, .int .i64 t498], .agg #[.int .i64 t475, .int .i64 t476, .int .i64 t477, .int .i64 t478, .int .i64 t479]] ?_; (with_reducible refine (laws_eqLog.calls t494 t495 t496 t497 t498 t475 t476 t477 t478 t479 true _ A16.out).mono ?_); rintro e w67 ⟨rfl, hb⟩; refine ⟨_, rfl, ?_⟩; have n0_ := Aside0.mk (Kd.S_below (by (with_reducible repeat (first | apply Kd.S_alloc | apply Kd.S_drewN | apply Kd.S_drew)); exact (Kd.S_mono (Kd.S_far (p := ⟨gb499, 4, none⟩) (Kd.S_far (p := ⟨gb499, 3, none⟩) (Kd.S_far (p := ⟨gb499, 2, none⟩) (Kd.S_far (p := ⟨gb499, 1, none⟩) (Kd.S_far (p := ⟨gb499, 0, none⟩) (Kd.S_types HO471.out BK499.out (by decide)) (fun _ hk => hk.2) (.int .i64 t494)) (fun _ hk => hk.2) (.int .i64 t495)) (fun _ hk => hk.2) (.int .i64 t496)) (fun _ hk => hk.2) (.int .i64 t497)) (fun _ hk => hk.2) (.int .i64 t498)) (fun _ h_ => h_.1))) hb); have n1_ := Aside0.mk (Kd.R_below (by (with_reducible repeat (first | apply Kd.R_alloc | apply Kd.R_drewN | apply Kd.R_drew)); exact (Kd.R_mono (Kd.R_far (p := ⟨gb499, 4, none⟩) (Kd.R_far (p := ⟨gb499, 3, none⟩) (Kd.R_far (p := ⟨gb499, 2, none⟩) (Kd.R_far (p := ⟨gb499, 1, none⟩) (Kd.R_far (p := ⟨gb499, 0, none⟩) (Kd.R_types HO474.out BK499.out (by decide)) (fun _ hk => hk.2) (.int .i64 t494)) (fun _ hk => hk.2) (.int .i64 t495)) (fun _ hk => hk.2) (.int .i64 t496)) (fun _ hk => hk.2) (.int .i64 t497)) (fun _ hk => hk.2) (.int .i64 t498)) (fun _ h_ => h_.1))) hb); have n2_ := Aside0.mk (Kd.S_below (by (with_reducible repeat (first | apply Kd.S_alloc | apply Kd.S_drewN | apply Kd.S_drew)); exact (Kd.S_mono (Kd.S_far (p := ⟨gb499, 4, none⟩) (Kd.S_far (p := ⟨gb499, 3, none⟩) (Kd.S_far (p := ⟨gb499, 2, none⟩) (Kd.S_far (p := ⟨gb499, 1, none⟩) (Kd.S_far (p := ⟨gb499, 0, none⟩) (Kd.S_types HO484.out BK499.out (by decide)) (fun _ hk => hk.2) (.int .i64 t494)) (fun _ hk => hk.2) (.int .i64 t495)) (fun _ hk => hk.2) (.int .i64 t496)) (fun _ hk => hk.2) (.int .i64 t497)) (fun _ hk => hk.2) (.int .i64 t498)) (fun _ h_ => h_.1))) hb); have n3_ := Aside0.mk (Kd.R_below (by (with_reducible repeat (first | apply Kd.R_alloc | apply Kd.R_drewN | apply Kd.R_drew)); exact (Kd.R_mono (Kd.R_far (p := ⟨gb499, 4, none⟩) (Kd.R_far (p := ⟨gb499, 3, none⟩) (Kd.R_far (p := ⟨gb499, 2, none⟩) (Kd.R_far (p := ⟨gb499, 1, none⟩) (Kd.R_far (p := ⟨gb499, 0, none⟩) (Kd.R_types HO487.out BK499.out (by decide)) (fun _ hk => hk.2) (.int .i64 t494)) (fun _ hk => hk.2) (.int .i64 t495)) (fun _ hk => hk.2) (.int .i64 t496)) (fun _ hk => hk.2) (.int .i64 t497)) (fun _ hk => hk.2) (.int .i64 t498)) (fun _ h_ => h_.1))) hb); have n4_ := Aside0.mk (blk_below (g := gb460) (o := .cells #[.int .i64 a0_0, .int .i64 a0_1, .int .i64 a0_2, .int .i64 a0_3, .int .i64 a0_4] 23 (0, 0)) (by (with_reducible repeat (first | refine blk_drewN ?_ _ | refine blk_drew ?_ | refine blk_alloc ?_ _)); refine blk_far ?_ NB460_499.out _; (with_reducible repeat (first | refine blk_drewN ?_ _ | refine blk_drew ?_ | refine blk_alloc ?_ _)); refine blk_far ?_ NB460_499.out _; (with_reducible repeat (first | refine blk_drewN ?_ _ | refine blk_drew ?_ | refine blk_alloc ?_ _)); refine blk_far ?_ NB460_499.out _; (with_reducible repeat (first | refine blk_drewN ?_ _ | refine blk_drew ?_ | refine blk_alloc ?_ _)); refine blk_far ?_ NB460_499.out _; (with_reducible repeat (first | refine blk_drewN ?_ _ | refine blk_drew ?_ | refine blk_alloc ?_ _)); refine blk_far ?_ NB460_499.out _; (with_reducible repeat (first | refine blk_drewN ?_ _ | refine blk_drew ?_ | refine blk_alloc ?_ _)); exact BK460.out) hb); have n5_ := Aside0.mk (blk_below (g := gb461) (o := .cells #[.int .i64 a1_0, .slice A1_1 l1_1.length c1_1, .slice A1_2 l1_2.length c1_2] 27 (0, 0)) (by (with_reducible repeat (first | refine blk_drewN ?_ _ | refine blk_drew ?_ | refine blk_alloc ?_ _)); refine blk_far ?_ NB461_499.out _; (with_reducible repeat (first | refine blk_drewN ?_ _ | refine blk_drew ?_ | refine blk_alloc ?_ _)); refine blk_far ?_ NB461_499.out _; (with_reducible repeat (first | refine blk_drewN ?_ _ | refine blk_drew ?_ | refine blk_alloc ?_ _)); refine blk_far ?_ NB461_499.out _; (with_reducible repeat (first | refine blk_drewN ?_ _ | refine blk_drew ?_ | refine blk_alloc ?_ _)); refine blk_far ?_ NB461_499.out _; (with_reducible repeat (first | refine blk_drewN ?_ _ | refine blk_drew ?_ | refine blk_alloc ?_ _)); refine blk_far ?_ NB461_499.out _; (with_reducible repeat (first | refine blk_drewN ?_ _ | refine blk_drew ?_ | refine blk_alloc ?_ _)); exact BK461.out) hb); have n6_ := Aside0.mk (blk_below (g := gb480) (o := .cells #[.int .i64 t475, .int .i64 t476, .int .i64 t477, .int .i64 t478, .int .i64 t479] 29 (0, 0)) (by (with_reducible repeat (first | refine blk_drewN ?_ _ | refine blk_drew ?_ | refine blk_alloc ?_ _)); refine blk_far ?_ NB480_499.out _; (with_reducible repeat (first | refine blk_drewN ?_ _ | refine blk_drew ?_ | refine blk_alloc ?_ _)); refine blk_far ?_ NB480_499.out _; (with_reducible repeat (first | refine blk_drewN ?_ _ | refine blk_drew ?_ | refine blk_alloc ?_ _)); refine blk_far ?_ NB480_499.out _; (with_reducible repeat (first | refine blk_drewN ?_ _ | refine blk_drew ?_ | refine blk_alloc ?_ _)); refine blk_far ?_ NB480_499.out _; (with_reducible repeat (first | refine blk_drewN ?_ _ | refine blk_drew ?_ | refine blk_alloc ?_ _)); refine blk_far ?_ NB480_499.out _; (with_reducible repeat (first | refine blk_drewN ?_ _ | refine blk_drew ?_ | refine blk_alloc ?_ _)); exact BK480.out) hb); have n7_ := Aside0.mk (blk_below (g := gb488) (o := .cells #[.int .i64 t481, .slice Ao47 t482.length co47, .slice Ao48 t485.length co48] 34 (0, 0)) (by (with_reducible repeat (first | refine blk_drewN ?_ _ | refine blk_drew ?_ | refine blk_alloc ?_ _)); refine blk_far ?_ NB488_499.out _; (with_reducible repeat (first | refine blk_drewN ?_ _ | refine blk_drew ?_ | refine blk_alloc ?_ _)); refine blk_far ?_ NB488_499.out _; (with_reducible repeat (first | refine blk_drewN ?_ _ | refine blk_drew ?_ | refine blk_alloc ?_ _)); refine blk_far ?_ NB488_499.out _; (with_reducible repeat (first | refine blk_drewN ?_ _ | refine blk_drew ?_ | refine blk_alloc ?_ _)); refine blk_far ?_ NB488_499.out _; (with_reducible repeat (first | refine blk_drewN ?_ _ | refine blk_drew ?_ | refine blk_alloc ?_ _)); refine blk_far ?_ NB488_499.out _; (with_reducible repeat (first | refine blk_drewN ?_ _ | refine blk_drew ?_ | refine blk_alloc ?_ _)); exact BK488.out) hb); have n8_ := Aside0.mk (blk_below (g := gb499) (o := .cells #[.int .i64 t494, .int .i64 t495, .int .i64 t496, .int .i64 t497, .int .i64 t498] 29 (0, 0)) (by (with_reducible repeat (first | refine blk_drewN ?_ _ | refine blk_drew ?_ | refine blk_alloc ?_ _)); refine blk_put (cs := #[.int .i64 t494, .int .i64 t495, .int .i64 t496, .int .i64 t497, .int .i64 0]) ?_ 4 _ rfl; (with_reducible repeat (first | refine blk_drewN ?_ _ | refine blk_drew ?_ | refine blk_alloc ?_ _)); refine blk_put (cs := #[.int .i64 t494, .int .i64 t495, .int .i64 t496, .int .i64 0, .int .i64 0]) ?_ 3 _ rfl; (with_reducible repeat (first | refine blk_drewN ?_ _ | refine blk_drew ?_ | refine blk_alloc ?_ _)); refine blk_put (cs := #[.int .i64 t494, .int .i64 t495, .int .i64 0, .int .i64 0, .int .i64 0]) ?_ 2 _ rfl; (with_reducible repeat (first | refine blk_drewN ?_ _ | refine blk_drew ?_ | refine blk_alloc ?_ _)); refine blk_put (cs := #[.int .i64 t494, .int .i64 0, .int .i64 0, .int .i64 0, .int .i64 0]) ?_ 1 _ rfl; (with_reducible repeat (first | refine blk_drewN ?_ _ | refine blk_drew ?_ | refine blk_alloc ?_ _)); refine blk_put (cs := #[.int .i64 0, .int .i64 0, .int .i64 0, .int .i64 0, .int .i64 0]) ?_ 0 _ rfl; (with_reducible repeat (first | refine blk_drewN ?_ _ | refine blk_drew ?_ | refine blk_alloc ?_ _)); exact BK499.out) hb); have n9_ := Aside0.mk (below_step (Rgn.bq HB.out) hb); clear HO471; clear HO474; clear HO484; clear HO487; clear BK460; clear BK461; clear BK480; clear BK488; clear BK499; clear HB; have HO471 := n0_; have HO474 := n1_; have HO484 := n2_; have HO487 := n3_; have BK460 := n4_; have BK461 := n5_; have BK480 := n6_; have BK488 := n7_; have BK499 := n8_; have HB := n9_; clear n0_ n1_ n2_ n3_ n4_ n5_ n6_ n7_ n8_ n9_; (try clear hb); (try clear hb2); (try clear hk); (try clear hi)))
        have n0_ := Aside0.mk (Kd.S_drew HO471.out)
        have n1_ := Aside0.mk (Kd.R_drew HO474.out)
        have n2_ := Aside0.mk (Kd.S_drew HO484.out)
        have n3_ := Aside0.mk (Kd.R_drew HO487.out)
        have n4_ := Aside0.mk (blk_drew BK460.out)
        have n5_ := Aside0.mk (blk_drew BK461.out)
        have n6_ := Aside0.mk (blk_drew BK480.out)
        have n7_ := Aside0.mk (blk_drew BK488.out)
        have n8_ := Aside0.mk (blk_drew BK499.out)
        have n9_ := Aside0.mk (below_drew1 HB.out)
        clear HO471
        clear HO474
        clear HO484
        clear HO487
        clear BK460
        clear BK461
        clear BK480
        clear BK488
        clear BK499
        clear HB
        have HO471 := n0_
        have HO474 := n1_
        have HO484 := n2_
        have HO487 := n3_
        have BK460 := n4_
        have BK461 := n5_
        have BK480 := n6_
        have BK488 := n7_
        have BK499 := n8_
        have HB := n9_
        clear n0_ n1_ n2_ n3_ n4_ n5_ n6_ n7_ n8_ n9_
        refine start_ (n := 5) (S := fun w' => w'.cell? ⟨gb488, 0, none⟩ = some (.int .i64 t481) ∧ w'.cell? ⟨gb488, 1, none⟩ = some (.slice Ao47 t482.length co47) ∧ w'.cell? ⟨gb488, 2, none⟩ = some (.slice Ao48 t485.length co48) ∧ w'.cell? ⟨gb461, 0, none⟩ = some (.int .i64 a1_0) ∧ w'.cell? ⟨gb461, 1, none⟩ = some (.slice A1_1 l1_1.length c1_1) ∧ w'.cell? ⟨gb461, 2, none⟩ = some (.slice A1_2 l1_2.length c1_2)) (ds := []) #[false, false, false, false, false] (by kernel_rfl) rfl rfl ⟨(blk_cell BK488.out 0).trans rfl, (blk_cell BK488.out 1).trans rfl, (blk_cell BK488.out 2).trans rfl, (blk_cell BK461.out 0).trans rfl, (blk_cell BK461.out 1).trans rfl, (blk_cell BK461.out 2).trans rfl⟩ (fun hHeld => ?_)
        generalize w67.drew = w68 at HO471 HO474 HO484 HO487 BK460 BK461 BK480 BK488 BK499 HB hHeld ⊢
        refine take_ (i := 0) (N := some 29) (v := ?_) (a' := ?_) #[true, false, false, false, false] rfl rfl (by kernel_rfl) (fun _ _ _ h => h) (Or.inl ⟨by rfl, ?_⟩) hHeld ?_ ?_
        rotate_left
        · rintro w' ⟨s0, s1, s2, s3, s4, s5⟩
          go_simp
          with_reducible rfl
        rotate_left
        · simp only [Act.put, List.setIfInBounds_toArray, List.set_cons_zero, List.set_cons_succ, i64_w, i32_w]
          rfl
        refine take_ (i := 1) (N := some 30) (v := ?_) (a' := ?_) #[true, true, false, false, false] rfl rfl (by kernel_rfl) (fun _ _ _ h => h) (Or.inl ⟨by rfl, ?_⟩) hHeld ?_ ?_
        rotate_left
        · rintro w' ⟨s0, s1, s2, s3, s4, s5⟩
          go_simp
          with_reducible rfl
        rotate_left
        · simp only [Act.put, List.setIfInBounds_toArray, List.set_cons_zero, List.set_cons_succ, i64_w, i32_w]
          rfl
        refine one_ (i := 2) (N := some 31) #[true, true, true, false, false] rfl rfl (by kernel_rfl) (by decide) (fun K hK => ?_)
        refine Rgn.gs Try.func8 #[.agg #[.int .i64 a1_0, .slice A1_1 l1_1.length c1_1, .slice A1_2 l1_2.length c1_2]] ?_
        with_reducible refine (laws_toTxn.calls k a1_0 _ _ l1_1 _ _ l1_2 t501 t502 t505 _ ?side1 ?side2 ?side3 ?side4 A18.out).mono ?_
        (case side1 => exact Rgn.cq (Kd.C_below HR1_1.out HB.out))
        (case side2 => exact HC1_1.out)
        (case side3 => exact Rgn.cq (Kd.C_below HR1_2.out HB.out))
        (case side4 => exact HC1_2.out)
        rintro e w69 ⟨v503, v506, rfl, ho0, ho1, hb⟩
        refine ⟨_, rfl, ?_⟩
        have n0_ := Aside0.mk (Kd.S_elder' (Rgn.sq HO471.out) (Kd.S_base ho0) hb)
        have n1_ := Aside0.mk (Kd.R_elder' (Rgn.rq HO474.out) (Kd.R_base ho1) hb)
        have n2_ := Aside0.mk (Kd.S_elder' (Rgn.sq HO484.out) (Kd.S_base ho0) hb)
        have n3_ := Aside0.mk (Kd.R_elder' (Rgn.rq HO487.out) (Kd.R_base ho1) hb)
        have n4_ := Aside0.mk (Kd.S_lower (Kd.S_new' (Kd.S_new' ho0 (Kd.S_lt (Rgn.sq HO471.out))) (Kd.S_lt (Rgn.sq HO484.out))) (below_size (Rgn.bq HB.out)))
        have n5_ := Aside0.mk (Kd.R_lower (Kd.R_new' (Kd.R_new' ho1 (Kd.R_lt (Rgn.rq HO474.out))) (Kd.R_lt (Rgn.rq HO487.out))) (below_size (Rgn.bq HB.out)))
        have n6_ := Aside0.mk (Rgn.bb BK460.out hb)
        have n7_ := Aside0.mk (Rgn.bb BK461.out hb)
        have n8_ := Aside0.mk (Rgn.bb BK480.out hb)
        have n9_ := Aside0.mk (Rgn.bb BK488.out hb)
        have n10_ := Aside0.mk (Rgn.bb BK499.out hb)
        have n11_ := Aside0.mk (below_step (Rgn.bq HB.out) hb)
        clear HO471
        clear HO474
        clear HO484
        clear HO487
        clear BK460
        clear BK461
        clear BK480
        clear BK488
        clear BK499
        clear HB
        have HO471 := n0_
        have HO474 := n1_
        have HO484 := n2_
        have HO487 := n3_
        have HO504 := n4_
        have HO507 := n5_
        have BK460 := n6_
        have BK461 := n7_
        have BK480 := n8_
        have BK488 := n9_
        have BK499 := n10_
        have HB := n11_
        clear n0_ n1_ n2_ n3_ n4_ n5_ n6_ n7_ n8_ n9_ n10_ n11_
        (try clear hb)
        (try clear hb2)
        (try clear hk)
        (try clear hi)
        (try clear ho0)
        (try clear ho1)
        obtain ⟨Ao70, co70, eo70⟩ := Kd.S_slice HO504.out
        (first | subst eo70 | (injection eo70 with f1_ f2_ f3_; have f4_ := f1_.symm; have f5_ := f3_.symm; clear f1_ f2_ f3_; subst f4_; subst f5_))
        obtain ⟨Ao71, co71, eo71⟩ := Kd.R_slice HO507.out
        (first | subst eo71 | (injection eo71 with f1_ f2_ f3_; have f4_ := f1_.symm; have f5_ := f3_.symm; clear f1_ f2_ f3_; subst f4_; subst f5_))
        refine hK.out _ _ ⟨(blk_cell BK488.out 0).trans rfl, (blk_cell BK488.out 1).trans rfl, (blk_cell BK488.out 2).trans rfl, (blk_cell BK461.out 0).trans rfl, (blk_cell BK461.out 1).trans rfl, (blk_cell BK461.out 2).trans rfl⟩ (fun hHeld => ?_)
        clear hK K
        refine norm_ (a' := ?_) ?_ ?_
        rotate_left
        · show Act.put _ (some 31) _ = _
          simp only [Act.put, List.setIfInBounds_toArray, List.set_cons_zero, List.set_cons_succ, i64_w, i32_w]
          rfl
        refine one_ (i := 3) (N := some 32) #[true, true, true, true, false] rfl rfl (by kernel_rfl) (by decide) (fun K hK => ?_)
        refine Rgn.gs Try.func11 #[.agg #[.int .i64 t481, .slice Ao47 t482.length co47, .slice Ao48 t485.length co48], .agg #[.int .i64 t501, .slice Ao70 t502.length co70, .slice Ao71 t505.length co71]] ?_
        with_reducible refine (laws_eqTxn.calls k t481 _ _ t482 _ _ t485 t501 _ _ t502 _ _ t505 true _ ?side1 ?side2 ?side3 ?side4 ?side5 ?side6 ?side7 ?side8 A19.out).mono ?_
        (case side1 => exact Rgn.cq (Kd.S_reads' HO484.out).2.2)
        (case side2 => exact (Kd.S_reads' HO484.out).2.1)
        (case side3 => exact Rgn.cq (Kd.R_reads' HO487.out).2.2)
        (case side4 => exact (Kd.R_reads' HO487.out).2.1)
        (case side5 => exact Rgn.cq (Kd.S_reads' HO504.out).2.2)
        (case side6 => exact (Kd.S_reads' HO504.out).2.1)
        (case side7 => exact Rgn.cq (Kd.R_reads' HO507.out).2.2)
        (case side8 => exact (Kd.R_reads' HO507.out).2.1)
        rintro e w72 ⟨rfl, hb⟩
        refine ⟨_, rfl, ?_⟩
        have n0_ := Aside0.mk (Kd.S_below (Rgn.sq HO471.out) hb)
        have n1_ := Aside0.mk (Kd.R_below (Rgn.rq HO474.out) hb)
        have n2_ := Aside0.mk (Kd.S_below (Rgn.sq HO484.out) hb)
        have n3_ := Aside0.mk (Kd.R_below (Rgn.rq HO487.out) hb)
        have n4_ := Aside0.mk (Kd.S_below (Rgn.sq HO504.out) hb)
        have n5_ := Aside0.mk (Kd.R_below (Rgn.rq HO507.out) hb)
        have n6_ := Aside0.mk (Rgn.bb BK460.out hb)
        have n7_ := Aside0.mk (Rgn.bb BK461.out hb)
        have n8_ := Aside0.mk (Rgn.bb BK480.out hb)
        have n9_ := Aside0.mk (Rgn.bb BK488.out hb)
        have n10_ := Aside0.mk (Rgn.bb BK499.out hb)
        have n11_ := Aside0.mk (below_step (Rgn.bq HB.out) hb)
        clear HO471
        clear HO474
        clear HO484
        clear HO487
        clear HO504
        clear HO507
        clear BK460
        clear BK461
        clear BK480
        clear BK488
        clear BK499
        clear HB
        have HO471 := n0_
        have HO474 := n1_
        have HO484 := n2_
        have HO487 := n3_
        have HO504 := n4_
        have HO507 := n5_
        have BK460 := n6_
        have BK461 := n7_
        have BK480 := n8_
        have BK488 := n9_
        have BK499 := n10_
        have HB := n11_
        clear n0_ n1_ n2_ n3_ n4_ n5_ n6_ n7_ n8_ n9_ n10_ n11_
        (try clear hb)
        (try clear hb2)
        (try clear hk)
        (try clear hi)
        refine hK.out _ _ ⟨(blk_cell BK488.out 0).trans rfl, (blk_cell BK488.out 1).trans rfl, (blk_cell BK488.out 2).trans rfl, (blk_cell BK461.out 0).trans rfl, (blk_cell BK461.out 1).trans rfl, (blk_cell BK461.out 2).trans rfl⟩ (fun hHeld => ?_)
        clear hK K
        refine norm_ (a' := ?_) ?_ ?_
        rotate_left
        · show Act.put _ (some 32) _ = _
          simp only [Act.put, List.setIfInBounds_toArray, List.set_cons_zero, List.set_cons_succ, i64_w, i32_w]
          rfl
        refine pure_ (i := 4) (N := some 33) (v := ?_) (a' := ?_) #[true, true, true, true, true] rfl rfl (by kernel_rfl) (fun _ _ _ h => h) (Or.inl ⟨by rfl, ?_⟩) ?_ ?_
        rotate_left
        · intro w'
          go_simp
          with_reducible rfl
        rotate_left
        · simp only [Act.put, List.setIfInBounds_toArray, List.set_cons_zero, List.set_cons_succ, i64_w, i32_w]
          rfl
        refine done_ (by kernel_rfl) ?_
        try go_wp2
        go_ret
        exact ⟨by first | rfl | (simp [errW_none, errW_some] <;> rfl) | (simp [*, errW_none, errW_some] <;> rfl), Rgn.bq HB.out⟩
      · replace c20 := Bool.eq_false_iff.mpr c20
        subst c20
        have H1 : (some false) = some r := by rw [if_neg (show ¬ (false = true) by decide)] at H; exact H
        clear H
        have H := H1
        clear H1
        exact absurd ((Option.some.inj H).trans hrt.out) (by simp)
    · replace c17 := Bool.eq_false_iff.mpr c17
      subst c17
      have H1 : (some false) = some r := by rw [if_neg (show ¬ (false = true) by decide)] at H; exact H
      clear H
      have H := H1
      clear H1
      exact absurd ((Option.some.inj H).trans hrt.out) (by simp)

end Go.Proofs.Ytkehfdadplpaeaa.PFnExactLogNext
