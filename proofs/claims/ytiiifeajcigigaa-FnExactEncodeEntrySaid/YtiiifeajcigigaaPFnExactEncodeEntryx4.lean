-- written by a program of this session (wip/src/print2.py)
import Derived.Test.YtiiifeajcigigaaPFnExactEncodeEntryx0
import Derived.Test.YtiiifeajcigigaaPFnExactEncodeEntryx1
import Derived.Test.YtiiifeajcigigaaPFnExactEncodeEntryx2
import Derived.Test.YtiiifeajcigigaaPFnExactEncodeEntryx3
namespace Go.Proofs.Ytiiifeajcigigaa.PFnExactEncodeEntry
open Go.RowKit Go.Proofs.YtiiifeajcigigaaW.PrintWords Go.Proofs.YtiiifeajcigigaaW.PrintLast Go.Proofs.YtiiifeajcigigaaW.PrintMore
attribute [local go_sem] max2_int min2_int max_two min_two max_three min_three max_four min_four   -- for this text's walks alone
set_option linter.unusedVariables false
set_option linter.unusedSimpArgs false

/-! ### laws_FnExactEncodeEntry: function 3 -/
def laws_FnExactEncodeEntry.f (k : Nat) (a0_0 : Int) (a0_1 : ByteArray) : Option (Bool) := (laws_szEntry.f a0_0 a0_1 1048576).bind fun t182 => (if t182 < 0 then (some true) else ((laws_toEntry.f a0_0 a0_1).bind fun bt183 => ((spec_EncodeEntry.f k bt183.1 bt183.2).bind fun t185 => ((laws_toEntry.f a0_0 a0_1).bind fun bt188 => ((impl_EncodeEntry.f k bt188.1 bt188.2).bind fun t190 => ((laws_eqByteS.f k t190 t185).bind fun t193 => (if t193 = true then ((laws_markByteS.f k t190 1).bind fun bt194 => ((laws_heldByteS.f k bt194.2 1).bind fun t196 => (if t196 < 0 then (some false) else (if t196 = bt194.1 then ((laws_toEntry.f a0_0 a0_1).bind fun bt197 => ((impl_EncodeEntry.f k bt197.1 bt197.2).bind fun t199 => ((laws_eqByteS.f k t199 t185).bind fun t202 => (if t202 = true then ((laws_heldByteS.f k bt194.2 1).bind fun t203 => (if t203 < 0 then (some false) else (if t203 = bt194.1 then (some true) else (some false)))) else (some false))))) else (some false))))) else (some false))))))))
theorem laws_FnExactEncodeEntry.mono : ∀ a0 a1 k, LeO (laws_FnExactEncodeEntry.f k a0 a1) (laws_FnExactEncodeEntry.f (k + 1) a0 a1) := by
  intro a0 a1 k
  unfold laws_FnExactEncodeEntry.f
  repeat' first
      | (with_reducible exact impl_EncodeEntry.mono _ _ _)
      | (with_reducible exact laws_eqByteS.mono _ _ _)
      | (with_reducible exact laws_heldByteS.mono _ _ _)
      | (with_reducible exact laws_markByteS.mono _ _ _)
      | (with_reducible exact spec_EncodeEntry.mono _ _ _)
      | (with_reducible exact LeO.refl _)
      | (with_reducible exact LeO.none _)
      | (with_reducible refine LeO.ite ?_ ?_)
      | (with_reducible refine LeO.bind ?_ (fun _ => ?_))
      | exact impl_EncodeEntry.mono _ _ _
      | exact laws_eqByteS.mono _ _ _
      | exact laws_heldByteS.mono _ _ _
      | exact laws_markByteS.mono _ _ _
      | exact spec_EncodeEntry.mono _ _ _
      | exact LeO.none _
      | refine LeO.ite ?_ ?_
      | refine LeO.bind ?_ (fun _ => ?_)
set_option maxHeartbeats 8000000 in
set_option maxRecDepth 100000 in
theorem laws_FnExactEncodeEntry.calls (k : Nat) (a0_0 : Int) (a0_1 : ByteArray) (r : Bool) (w : World) (h : laws_FnExactEncodeEntry.f k a0_0 a0_1 = some r) (hrt : Aside0 (r = true)) :
    Calls Try.prog 3 #[.agg #[.int .i64 a0_0, .string a0_1]] w fun e w' => e = .returned (.bool r) ∧ Below w.heap.size w w' := by
  have hu23 := Try.underlying23
  have HB := Aside0.mk (Below.refl w.heap.size w)
  have H : ((laws_szEntry.f a0_0 a0_1 1048576).bind fun t182 => (if t182 < 0 then (some true) else ((laws_toEntry.f a0_0 a0_1).bind fun bt183 => ((spec_EncodeEntry.f k bt183.1 bt183.2).bind fun t185 => ((laws_toEntry.f a0_0 a0_1).bind fun bt188 => ((impl_EncodeEntry.f k bt188.1 bt188.2).bind fun t190 => ((laws_eqByteS.f k t190 t185).bind fun t193 => (if t193 = true then ((laws_markByteS.f k t190 1).bind fun bt194 => ((laws_heldByteS.f k bt194.2 1).bind fun t196 => (if t196 < 0 then (some false) else (if t196 = bt194.1 then ((laws_toEntry.f a0_0 a0_1).bind fun bt197 => ((impl_EncodeEntry.f k bt197.1 bt197.2).bind fun t199 => ((laws_eqByteS.f k t199 t185).bind fun t202 => (if t202 = true then ((laws_heldByteS.f k bt194.2 1).bind fun t203 => (if t203 < 0 then (some false) else (if t203 = bt194.1 then (some true) else (some false)))) else (some false))))) else (some false))))) else (some false))))))))) = some r := h
  clear h
  replace H := Option.bind_eq_some_iff.mp H
  obtain ⟨t182, A20, H⟩ := H
  replace H : (if t182 < 0 then (some true) else ((laws_toEntry.f a0_0 a0_1).bind fun bt183 => ((spec_EncodeEntry.f k bt183.1 bt183.2).bind fun t185 => ((laws_toEntry.f a0_0 a0_1).bind fun bt188 => ((impl_EncodeEntry.f k bt188.1 bt188.2).bind fun t190 => ((laws_eqByteS.f k t190 t185).bind fun t193 => (if t193 = true then ((laws_markByteS.f k t190 1).bind fun bt194 => ((laws_heldByteS.f k bt194.2 1).bind fun t196 => (if t196 < 0 then (some false) else (if t196 = bt194.1 then ((laws_toEntry.f a0_0 a0_1).bind fun bt197 => ((impl_EncodeEntry.f k bt197.1 bt197.2).bind fun t199 => ((laws_eqByteS.f k t199 t185).bind fun t202 => (if t202 = true then ((laws_heldByteS.f k bt194.2 1).bind fun t203 => (if t203 < 0 then (some false) else (if t203 = bt194.1 then (some true) else (some false)))) else (some false))))) else (some false))))) else (some false)))))))) = some r := H
  have A2 := Aside0.mk A20
  clear A20
  by_cases c3 : t182 < 0
  · rw [if_pos c3] at H
    have c3b0 : decide (t182 < 0) = true := decide_eq_true c3
    clear c3
    obtain rfl := Option.some.inj H
    go_enter Try.func3, Try.ntmps3
    go_wp2_with (first | ((with_reducible refine gate_dst (N := 1) rfl ?_); refine box_event ?hg (N := 1) ?hd (cs := #[.int .i64 a0_0, .string a0_1]) (t := 23) ?hr ?_; (case hd => rfl); (case hg => rfl); (case hr => first | (go_simp; done) | (go_simp; rfl)); intro gb181 hg w4 hbox hb; have n0_ := Aside0.mk (below_step (by repeat (first | (with_reducible first | exact HB.out | apply below_alloc | apply pw_below_drewN | apply below_drew1) | exact HB.out)) hb); have n1_ := Aside0.mk (hbox); have n2_ := Aside0.mk ((by rw [hg]; exact (below_size (by repeat (first | (with_reducible first | exact HB.out | apply below_alloc | apply pw_below_drewN | apply below_drew1) | exact HB.out))) : w.heap.size ≤ gb181)); have n3_ := Aside0.mk ((by rw [hg]; exact (below_size (by repeat (first | (with_reducible first | exact HB.out | apply below_alloc | apply pw_below_drewN | apply below_drew1) | exact HB.out))) : w.heap.size ≤ gb181)); clear HB; have HB := n0_; have BK181 := n1_; have GW181 := n2_; have GE181 := n3_; clear n0_ n1_ n2_ n3_; clear hb hbox hg; have hcz5_0 : w4.cell? ⟨gb181, 0, none⟩ = some (.int .i64 a0_0) := (blk_cell BK181.out 0).trans rfl; have hcz5_1 : w4.cell? ⟨gb181, 1, none⟩ = some (.string a0_1) := (blk_cell BK181.out 1).trans rfl; have hfz5_0 := blk_frozen BK181.out 0; have hfz5_1 := blk_frozen BK181.out 1) | ((with_reducible refine gate_callee (f := 10) rfl ?_); refine goesL_ (some 11) rfl rfl Try.func10 (by kernel_rfl) rfl #[.agg #[.int .i64 a0_0, .string a0_1], .int .i64 1048576] rfl (by (try simp only [List.map_toArray, List.map_cons, List.map_nil]); first | done | rfl | (simp only [List.length_drop, List.length_take]; rfl)) ?_; (with_reducible refine (laws_szEntry.calls a0_0 a0_1 1048576 t182 _ A2.out).mono ?_); rintro e w6 ⟨rfl, hb⟩; refine ⟨_, rfl, ?_⟩; have n0_ := Aside0.mk (blk_below (g := gb181) (o := .cells #[.int .i64 a0_0, .string a0_1] 23 (0, 0)) (by (with_reducible repeat (first | refine blk_drewN ?_ _ | refine blk_drew ?_ | refine blk_alloc ?_ _)); exact BK181.out) hb); have n1_ := Aside0.mk (below_step (by repeat (first | (with_reducible first | exact HB.out | apply below_alloc | apply pw_below_drewN | apply below_drew1 | refine below_set ?_ GE181.out) | exact HB.out)) hb); clear BK181; clear HB; have BK181 := n0_; have HB := n1_; clear n0_ n1_; (try clear hb); (try clear hb2); (try clear hk); (try clear hi)))
    go_ret
    exact ⟨by first | rfl | (simp [errW_none, errW_some] <;> rfl) | (simp [*, errW_none, errW_some] <;> rfl), by repeat (first | (with_reducible first | exact HB.out | apply below_alloc | apply pw_below_drewN | apply below_drew1 | refine below_set ?_ GE181.out) | exact HB.out)⟩
  · rw [if_neg c3] at H
    have c3b0 : decide (t182 < 0) = false := decide_eq_false c3
    clear c3
    replace H := Option.bind_eq_some_iff.mp H
    obtain ⟨⟨t183, t184⟩, A70, H⟩ := H
    replace H : ((spec_EncodeEntry.f k t183 t184).bind fun t185 => ((laws_toEntry.f a0_0 a0_1).bind fun bt188 => ((impl_EncodeEntry.f k bt188.1 bt188.2).bind fun t190 => ((laws_eqByteS.f k t190 t185).bind fun t193 => (if t193 = true then ((laws_markByteS.f k t190 1).bind fun bt194 => ((laws_heldByteS.f k bt194.2 1).bind fun t196 => (if t196 < 0 then (some false) else (if t196 = bt194.1 then ((laws_toEntry.f a0_0 a0_1).bind fun bt197 => ((impl_EncodeEntry.f k bt197.1 bt197.2).bind fun t199 => ((laws_eqByteS.f k t199 t185).bind fun t202 => (if t202 = true then ((laws_heldByteS.f k bt194.2 1).bind fun t203 => (if t203 < 0 then (some false) else (if t203 = bt194.1 then (some true) else (some false)))) else (some false))))) else (some false))))) else (some false)))))) = some r := H
    have A7 := Aside0.mk A70
    clear A70
    replace H := Option.bind_eq_some_iff.mp H
    obtain ⟨t185, A80, H⟩ := H
    replace H : ((laws_toEntry.f a0_0 a0_1).bind fun bt188 => ((impl_EncodeEntry.f k bt188.1 bt188.2).bind fun t190 => ((laws_eqByteS.f k t190 t185).bind fun t193 => (if t193 = true then ((laws_markByteS.f k t190 1).bind fun bt194 => ((laws_heldByteS.f k bt194.2 1).bind fun t196 => (if t196 < 0 then (some false) else (if t196 = bt194.1 then ((laws_toEntry.f a0_0 a0_1).bind fun bt197 => ((impl_EncodeEntry.f k bt197.1 bt197.2).bind fun t199 => ((laws_eqByteS.f k t199 t185).bind fun t202 => (if t202 = true then ((laws_heldByteS.f k bt194.2 1).bind fun t203 => (if t203 < 0 then (some false) else (if t203 = bt194.1 then (some true) else (some false)))) else (some false))))) else (some false))))) else (some false))))) = some r := H
    have A8 := Aside0.mk A80
    clear A80
    replace H := Option.bind_eq_some_iff.mp H
    obtain ⟨⟨t188, t189⟩, A90, H⟩ := H
    replace H : ((impl_EncodeEntry.f k t188 t189).bind fun t190 => ((laws_eqByteS.f k t190 t185).bind fun t193 => (if t193 = true then ((laws_markByteS.f k t190 1).bind fun bt194 => ((laws_heldByteS.f k bt194.2 1).bind fun t196 => (if t196 < 0 then (some false) else (if t196 = bt194.1 then ((laws_toEntry.f a0_0 a0_1).bind fun bt197 => ((impl_EncodeEntry.f k bt197.1 bt197.2).bind fun t199 => ((laws_eqByteS.f k t199 t185).bind fun t202 => (if t202 = true then ((laws_heldByteS.f k bt194.2 1).bind fun t203 => (if t203 < 0 then (some false) else (if t203 = bt194.1 then (some true) else (some false)))) else (some false))))) else (some false))))) else (some false)))) = some r := H
    have A9 := Aside0.mk A90
    clear A90
    replace H := Option.bind_eq_some_iff.mp H
    obtain ⟨t190, A100, H⟩ := H
    replace H : ((laws_eqByteS.f k t190 t185).bind fun t193 => (if t193 = true then ((laws_markByteS.f k t190 1).bind fun bt194 => ((laws_heldByteS.f k bt194.2 1).bind fun t196 => (if t196 < 0 then (some false) else (if t196 = bt194.1 then ((laws_toEntry.f a0_0 a0_1).bind fun bt197 => ((impl_EncodeEntry.f k bt197.1 bt197.2).bind fun t199 => ((laws_eqByteS.f k t199 t185).bind fun t202 => (if t202 = true then ((laws_heldByteS.f k bt194.2 1).bind fun t203 => (if t203 < 0 then (some false) else (if t203 = bt194.1 then (some true) else (some false)))) else (some false))))) else (some false))))) else (some false))) = some r := H
    have A10 := Aside0.mk A100
    clear A100
    replace H := Option.bind_eq_some_iff.mp H
    obtain ⟨t193, A110, H⟩ := H
    replace H : (if t193 = true then ((laws_markByteS.f k t190 1).bind fun bt194 => ((laws_heldByteS.f k bt194.2 1).bind fun t196 => (if t196 < 0 then (some false) else (if t196 = bt194.1 then ((laws_toEntry.f a0_0 a0_1).bind fun bt197 => ((impl_EncodeEntry.f k bt197.1 bt197.2).bind fun t199 => ((laws_eqByteS.f k t199 t185).bind fun t202 => (if t202 = true then ((laws_heldByteS.f k bt194.2 1).bind fun t203 => (if t203 < 0 then (some false) else (if t203 = bt194.1 then (some true) else (some false)))) else (some false))))) else (some false))))) else (some false)) = some r := H
    have A11 := Aside0.mk A110
    clear A110
    by_cases c12 : t193 = true
    · subst c12
      have H1 : ((laws_markByteS.f k t190 1).bind fun bt194 => ((laws_heldByteS.f k bt194.2 1).bind fun t196 => (if t196 < 0 then (some false) else (if t196 = bt194.1 then ((laws_toEntry.f a0_0 a0_1).bind fun bt197 => ((impl_EncodeEntry.f k bt197.1 bt197.2).bind fun t199 => ((laws_eqByteS.f k t199 t185).bind fun t202 => (if t202 = true then ((laws_heldByteS.f k bt194.2 1).bind fun t203 => (if t203 < 0 then (some false) else (if t203 = bt194.1 then (some true) else (some false)))) else (some false))))) else (some false))))) = some r := by rw [if_pos rfl] at H; exact H
      clear H
      have H := H1
      clear H1
      replace H := Option.bind_eq_some_iff.mp H
      obtain ⟨⟨t194, t195⟩, A130, H⟩ := H
      replace H : ((laws_heldByteS.f k t195 1).bind fun t196 => (if t196 < 0 then (some false) else (if t196 = t194 then ((laws_toEntry.f a0_0 a0_1).bind fun bt197 => ((impl_EncodeEntry.f k bt197.1 bt197.2).bind fun t199 => ((laws_eqByteS.f k t199 t185).bind fun t202 => (if t202 = true then ((laws_heldByteS.f k t195 1).bind fun t203 => (if t203 < 0 then (some false) else (if t203 = t194 then (some true) else (some false)))) else (some false))))) else (some false)))) = some r := H
      have A13 := Aside0.mk A130
      clear A130
      replace H := Option.bind_eq_some_iff.mp H
      obtain ⟨t196, A140, H⟩ := H
      replace H : (if t196 < 0 then (some false) else (if t196 = t194 then ((laws_toEntry.f a0_0 a0_1).bind fun bt197 => ((impl_EncodeEntry.f k bt197.1 bt197.2).bind fun t199 => ((laws_eqByteS.f k t199 t185).bind fun t202 => (if t202 = true then ((laws_heldByteS.f k t195 1).bind fun t203 => (if t203 < 0 then (some false) else (if t203 = t194 then (some true) else (some false)))) else (some false))))) else (some false))) = some r := H
      have A14 := Aside0.mk A140
      clear A140
      by_cases c15 : t196 < 0
      · rw [if_pos c15] at H
        have c15b0 : decide (t196 < 0) = true := decide_eq_true c15
        clear c15
        exact absurd ((Option.some.inj H).trans hrt.out) (by simp)
      · rw [if_neg c15] at H
        have c15b0 : decide (t196 < 0) = false := decide_eq_false c15
        clear c15
        by_cases c16 : t196 = t194
        · rw [if_pos c16] at H
          have c16b0 : (t196 == t194) = true := beq_iff_eq.mpr c16
          have c16b1 : (t196 != t194) = false := bne_eq_false_iff_eq.mpr c16
          clear c16
          replace H := Option.bind_eq_some_iff.mp H
          obtain ⟨⟨t197, t198⟩, A170, H⟩ := H
          replace H : ((impl_EncodeEntry.f k t197 t198).bind fun t199 => ((laws_eqByteS.f k t199 t185).bind fun t202 => (if t202 = true then ((laws_heldByteS.f k t195 1).bind fun t203 => (if t203 < 0 then (some false) else (if t203 = t194 then (some true) else (some false)))) else (some false)))) = some r := H
          have A17 := Aside0.mk A170
          clear A170
          replace H := Option.bind_eq_some_iff.mp H
          obtain ⟨t199, A180, H⟩ := H
          replace H : ((laws_eqByteS.f k t199 t185).bind fun t202 => (if t202 = true then ((laws_heldByteS.f k t195 1).bind fun t203 => (if t203 < 0 then (some false) else (if t203 = t194 then (some true) else (some false)))) else (some false))) = some r := H
          have A18 := Aside0.mk A180
          clear A180
          replace H := Option.bind_eq_some_iff.mp H
          obtain ⟨t202, A190, H⟩ := H
          replace H : (if t202 = true then ((laws_heldByteS.f k t195 1).bind fun t203 => (if t203 < 0 then (some false) else (if t203 = t194 then (some true) else (some false)))) else (some false)) = some r := H
          have A19 := Aside0.mk A190
          clear A190
          by_cases c20 : t202 = true
          · subst c20
            have H1 : ((laws_heldByteS.f k t195 1).bind fun t203 => (if t203 < 0 then (some false) else (if t203 = t194 then (some true) else (some false)))) = some r := by rw [if_pos rfl] at H; exact H
            clear H
            have H := H1
            clear H1
            replace H := Option.bind_eq_some_iff.mp H
            obtain ⟨t203, A210, H⟩ := H
            replace H : (if t203 < 0 then (some false) else (if t203 = t194 then (some true) else (some false))) = some r := H
            have A21 := Aside0.mk A210
            clear A210
            by_cases c22 : t203 < 0
            · rw [if_pos c22] at H
              have c22b0 : decide (t203 < 0) = true := decide_eq_true c22
              clear c22
              exact absurd ((Option.some.inj H).trans hrt.out) (by simp)
            · rw [if_neg c22] at H
              have c22b0 : decide (t203 < 0) = false := decide_eq_false c22
              clear c22
              by_cases c23 : t203 = t194
              · rw [if_pos c23] at H
                have c23b0 : (t203 == t194) = true := beq_iff_eq.mpr c23
                have c23b1 : (t203 != t194) = false := bne_eq_false_iff_eq.mpr c23
                clear c23
                obtain rfl := Option.some.inj H
                go_enter Try.func3, Try.ntmps3
                go_wp2_with (first | ((with_reducible refine gate_dst (N := 1) rfl ?_); refine box_event ?hg (N := 1) ?hd (cs := #[.int .i64 a0_0, .string a0_1]) (t := 23) ?hr ?_; (case hd => rfl); (case hg => rfl); (case hr => first | (go_simp; done) | (go_simp; rfl)); intro gb181 hg w24 hbox hb; have n0_ := Aside0.mk (below_step (by repeat (first | (with_reducible first | exact HB.out | apply below_alloc | apply pw_below_drewN | apply below_drew1) | exact HB.out)) hb); have n1_ := Aside0.mk (hbox); have n2_ := Aside0.mk ((by rw [hg]; exact (below_size (by repeat (first | (with_reducible first | exact HB.out | apply below_alloc | apply pw_below_drewN | apply below_drew1) | exact HB.out))) : w.heap.size ≤ gb181)); have n3_ := Aside0.mk ((by rw [hg]; exact (below_size (by repeat (first | (with_reducible first | exact HB.out | apply below_alloc | apply pw_below_drewN | apply below_drew1) | exact HB.out))) : w.heap.size ≤ gb181)); clear HB; have HB := n0_; have BK181 := n1_; have GW181 := n2_; have GE181 := n3_; clear n0_ n1_ n2_ n3_; clear hb hbox hg; have hcz25_0 : w24.cell? ⟨gb181, 0, none⟩ = some (.int .i64 a0_0) := (blk_cell BK181.out 0).trans rfl; have hcz25_1 : w24.cell? ⟨gb181, 1, none⟩ = some (.string a0_1) := (blk_cell BK181.out 1).trans rfl; have hfz25_0 := blk_frozen BK181.out 0; have hfz25_1 := blk_frozen BK181.out 1) | ((with_reducible refine gate_callee (f := 10) rfl ?_); refine goesL_ (some 11) rfl rfl Try.func10 (by kernel_rfl) rfl #[.agg #[.int .i64 a0_0, .string a0_1], .int .i64 1048576] rfl (by (try simp only [List.map_toArray, List.map_cons, List.map_nil]); first | done | rfl | (simp only [List.length_drop, List.length_take]; rfl)) ?_; (with_reducible refine (laws_szEntry.calls a0_0 a0_1 1048576 t182 _ A2.out).mono ?_); rintro e w26 ⟨rfl, hb⟩; refine ⟨_, rfl, ?_⟩; have n0_ := Aside0.mk (blk_below (g := gb181) (o := .cells #[.int .i64 a0_0, .string a0_1] 23 (0, 0)) (by (with_reducible repeat (first | refine blk_drewN ?_ _ | refine blk_drew ?_ | refine blk_alloc ?_ _)); exact BK181.out) hb); have n1_ := Aside0.mk (below_step (by repeat (first | (with_reducible first | exact HB.out | apply below_alloc | apply pw_below_drewN | apply below_drew1 | refine below_set ?_ GE181.out) | exact HB.out)) hb); clear BK181; clear HB; have BK181 := n0_; have HB := n1_; clear n0_ n1_; (try clear hb); (try clear hb2); (try clear hk); (try clear hi); have hcz27_0 : w26.cell? ⟨gb181, 0, none⟩ = some (.int .i64 a0_0) := (blk_cell BK181.out 0).trans rfl; have hcz27_1 : w26.cell? ⟨gb181, 1, none⟩ = some (.string a0_1) := (blk_cell BK181.out 1).trans rfl; have hfz27_0 := blk_frozen BK181.out 0; have hfz27_1 := blk_frozen BK181.out 1) | ((with_reducible refine gate_callee (f := 12) rfl ?_); refine goesL_ (some 15) rfl rfl Try.func12 (by kernel_rfl) rfl #[.agg #[.int .i64 a0_0, .string a0_1]] rfl (by (try simp only [List.map_toArray, List.map_cons, List.map_nil]); first | done | rfl | (simp only [List.length_drop, List.length_take]; rfl)) ?_; (with_reducible refine (laws_toEntry.calls a0_0 a0_1 t183 t184 _ A7.out).mono ?_); rintro e w28 ⟨rfl, hb⟩; refine ⟨_, rfl, ?_⟩; have n0_ := Aside0.mk (blk_below (g := gb181) (o := .cells #[.int .i64 a0_0, .string a0_1] 23 (0, 0)) (by (with_reducible repeat (first | refine blk_drewN ?_ _ | refine blk_drew ?_ | refine blk_alloc ?_ _)); exact BK181.out) hb); have n1_ := Aside0.mk (below_step (by repeat (first | (with_reducible first | exact HB.out | apply below_alloc | apply pw_below_drewN | apply below_drew1 | refine below_set ?_ GE181.out) | exact HB.out)) hb); clear BK181; clear HB; have BK181 := n0_; have HB := n1_; clear n0_ n1_; (try clear hb); (try clear hb2); (try clear hk); (try clear hi)) | ((with_reducible refine gate_callee (f := 11) rfl ?_); refine goesL_ (some 16) rfl rfl Try.func11 (by kernel_rfl) rfl #[.agg #[.int .i64 t183, .string t184]] rfl (by (try simp only [List.map_toArray, List.map_cons, List.map_nil]); first | done | rfl | (simp only [List.length_drop, List.length_take]; rfl)) ?_; (with_reducible refine (spec_EncodeEntry.calls k t183 t184 t185 _ A8.out).mono ?_); rintro e w29 ⟨v186, rfl, ho0, hb⟩; refine ⟨_, rfl, ?_⟩; have n0_ := Aside0.mk (Kd.R_lower ho0 (below_size (by repeat (first | (with_reducible first | exact HB.out | apply below_alloc | apply pw_below_drewN | apply below_drew1 | refine below_set ?_ GE181.out) | exact HB.out)))); have n1_ := Aside0.mk (blk_below (g := gb181) (o := .cells #[.int .i64 a0_0, .string a0_1] 23 (0, 0)) (by (with_reducible repeat (first | refine blk_drewN ?_ _ | refine blk_drew ?_ | refine blk_alloc ?_ _)); exact BK181.out) hb); have n2_ := Aside0.mk (below_step (by repeat (first | (with_reducible first | exact HB.out | apply below_alloc | apply pw_below_drewN | apply below_drew1 | refine below_set ?_ GE181.out) | exact HB.out)) hb); clear BK181; clear HB; have HO187 := n0_; have BK181 := n1_; have HB := n2_; clear n0_ n1_ n2_; (try clear hb); (try clear hb2); (try clear hk); (try clear hi); (try clear ho0); have hcz30_0 : w29.cell? ⟨gb181, 0, none⟩ = some (.int .i64 a0_0) := (blk_cell BK181.out 0).trans rfl; have hcz30_1 : w29.cell? ⟨gb181, 1, none⟩ = some (.string a0_1) := (blk_cell BK181.out 1).trans rfl; have hfz30_0 := blk_frozen BK181.out 0; have hfz30_1 := blk_frozen BK181.out 1) | ((with_reducible refine gate_callee (f := 12) rfl ?_); refine goesL_ (some 18) rfl rfl Try.func12 (by kernel_rfl) rfl #[.agg #[.int .i64 a0_0, .string a0_1]] rfl (by (try simp only [List.map_toArray, List.map_cons, List.map_nil]); first | done | rfl | (simp only [List.length_drop, List.length_take]; rfl)) ?_; (with_reducible refine (laws_toEntry.calls a0_0 a0_1 t188 t189 _ A9.out).mono ?_); rintro e w31 ⟨rfl, hb⟩; refine ⟨_, rfl, ?_⟩; have n0_ := Aside0.mk (Kd.R_below (by (with_reducible repeat (first | apply Kd.R_alloc | apply Kd.R_drewN | apply Kd.R_drew)); exact HO187.out) hb); have n1_ := Aside0.mk (blk_below (g := gb181) (o := .cells #[.int .i64 a0_0, .string a0_1] 23 (0, 0)) (by (with_reducible repeat (first | refine blk_drewN ?_ _ | refine blk_drew ?_ | refine blk_alloc ?_ _)); exact BK181.out) hb); have n2_ := Aside0.mk (below_step (by repeat (first | (with_reducible first | exact HB.out | apply below_alloc | apply pw_below_drewN | apply below_drew1 | refine below_set ?_ GE181.out) | exact HB.out)) hb); clear HO187; clear BK181; clear HB; have HO187 := n0_; have BK181 := n1_; have HB := n2_; clear n0_ n1_ n2_; (try clear hb); (try clear hb2); (try clear hk); (try clear hi)) | ((with_reducible refine gate_callee (f := 13) rfl ?_); refine goesL_ (some 19) rfl rfl Try.func13 (by kernel_rfl) rfl #[.agg #[.int .i64 t188, .string t189]] rfl (by (try simp only [List.map_toArray, List.map_cons, List.map_nil]); first | done | rfl | (simp only [List.length_drop, List.length_take]; rfl)) ?_; (with_reducible refine (impl_EncodeEntry.calls k t188 t189 t190 _ A10.out).mono ?_); rintro e w32 ⟨v191, rfl, ho0, hb⟩; refine ⟨_, rfl, ?_⟩; have n0_ := Aside0.mk (Kd.R_elder' (by (with_reducible repeat (first | apply Kd.R_alloc | apply Kd.R_drewN | apply Kd.R_drew)); exact HO187.out) (Kd.R_base ho0) hb); have n1_ := Aside0.mk (Kd.R_lower (Kd.R_new' ho0 (Kd.R_lt (by (with_reducible repeat (first | apply Kd.R_alloc | apply Kd.R_drewN | apply Kd.R_drew)); exact HO187.out))) (below_size (by repeat (first | (with_reducible first | exact HB.out | apply below_alloc | apply pw_below_drewN | apply below_drew1 | refine below_set ?_ GE181.out) | exact HB.out)))); have n2_ := Aside0.mk (blk_below (g := gb181) (o := .cells #[.int .i64 a0_0, .string a0_1] 23 (0, 0)) (by (with_reducible repeat (first | refine blk_drewN ?_ _ | refine blk_drew ?_ | refine blk_alloc ?_ _)); exact BK181.out) hb); have n3_ := Aside0.mk (below_step (by repeat (first | (with_reducible first | exact HB.out | apply below_alloc | apply pw_below_drewN | apply below_drew1 | refine below_set ?_ GE181.out) | exact HB.out)) hb); clear HO187; clear BK181; clear HB; have HO187 := n0_; have HO192 := n1_; have BK181 := n2_; have HB := n3_; clear n0_ n1_ n2_ n3_; (try clear hb); (try clear hb2); (try clear hk); (try clear hi); (try clear ho0); obtain ⟨Ao33, co33, eo33⟩ := Kd.R_slice HO192.out; subst eo33; obtain ⟨Ao34, co34, eo34⟩ := Kd.R_slice HO187.out; subst eo34) | ((with_reducible refine gate_callee (f := 14) rfl ?_); refine goesL_ (some 22) rfl rfl Try.func14 (by kernel_rfl) rfl #[.slice Ao33 t190.length co33, .slice Ao34 t185.length co34] rfl (by (try simp only [List.map_toArray, List.map_cons, List.map_nil]); first | done | rfl | (simp only [List.length_drop, List.length_take]; rfl)) ?_; (with_reducible refine (laws_eqByteS.calls k _ _ t190 _ _ t185 true _ ?side1 ?side2 ?side3 ?side4 A11.out).mono ?_); (case side1 => repeat (first | exact (Kd.R_reads' HO192.out).2.2 | (with_reducible refine Kd.C_alloc ?_ _) | (with_reducible refine Kd.C_drewN ?_ _) | (with_reducible refine Kd.C_drew ?_))); (case side2 => exact (Kd.R_reads' HO192.out).2.1); (case side3 => repeat (first | exact (Kd.R_reads' HO187.out).2.2 | (with_reducible refine Kd.C_alloc ?_ _) | (with_reducible refine Kd.C_drewN ?_ _) | (with_reducible refine Kd.C_drew ?_))); (case side4 => exact (Kd.R_reads' HO187.out).2.1); rintro e w' ⟨rfl, ⟨nd, rfl⟩⟩; refine ⟨_, rfl, ?_⟩) | ((with_reducible refine gate_callee (f := 15) rfl ?_); refine goesL_ (some 26) rfl rfl Try.func15 (by kernel_rfl) rfl #[.slice Ao33 t190.length co33, .int .i64 1] rfl (by (try simp only [List.map_toArray, List.map_cons, List.map_nil]); first | done | rfl | (simp only [List.length_drop, List.length_take]; rfl)) ?_; (with_reducible refine (laws_markByteS.calls k (fun k_ => some k_ = (.slice Ao33 t190.length co33 : Value).ownBlock) (.slice Ao33 t190.length co33) t190 1 t194 t195 w _ ?side1 ?side2 A13.out).mono ?_); (case side1 => repeat (first | (with_reducible first | exact HB.out | apply below_alloc | apply pw_below_drewN | apply below_drew1 | refine below_set ?_ GE181.out) | exact HB.out)); (case side2 => exact Kd.R_tight rfl HO192.out); rintro e w35 ⟨rfl, hy0, hb, hkp⟩; refine ⟨_, rfl, ?_⟩; have n0_ := Aside0.mk (blk_kept (by (with_reducible repeat (first | refine blk_drewN ?_ _ | refine blk_drew ?_ | refine blk_alloc ?_ _)); exact BK181.out) hkp (fun hs_ => (fun e_ => (Kd.R_ne HO192.out BK181.out (by decide)) e_) hs_)); have n1_ := Aside0.mk (Kd.R_mono (ok' := fun k_ => some k_ ≠ (.slice Ao33 t190.length co33 : Value).ownBlock) (Kd.R_keptB (HO187.out) hkp (fun k_ hk_ hs_ => (hk_.2) hs_)) (fun k_ hk_ => hk_.1.2)); have n2_ := Aside0.mk (Kd.R_reok rfl hy0 (fun k_ e_ => HO192.out.1 k_ e_)); have n3_ := Aside0.mk (hb); clear BK181; clear HO187; clear HO192; clear HB; have BK181 := n0_; have HO187 := n1_; have HO192 := n2_; have HB := n3_; clear n0_ n1_ n2_ n3_; (try clear hb); (try clear hkp); (try clear hy0)) | ((with_reducible refine gate_callee (f := 16) rfl ?_); refine goesL_ (some 29) rfl rfl Try.func16 (by kernel_rfl) rfl #[.slice Ao33 t195.length co33, .int .i64 1] rfl (by (try simp only [List.map_toArray, List.map_cons, List.map_nil]); first | done | (rw [show t195.length = t190.length from (Kd.R_reads' HO192.out).1.symm] <;> rfl) | rfl | (simp only [List.length_drop, List.length_take]; rfl)) ?_; (with_reducible refine (laws_heldByteS.calls k _ _ t195 1 t196 _ ?side1 ?side2 A14.out).mono ?_); (case side1 => repeat (first | exact (Kd.R_reads' HO192.out).2.2 | (with_reducible refine Kd.C_alloc ?_ _) | (with_reducible refine Kd.C_drewN ?_ _) | (with_reducible refine Kd.C_drew ?_))); (case side2 => rw [show t195.length = t190.length from (Kd.R_reads' HO192.out).1.symm]; exact (Kd.R_reads' HO192.out).2.1); rintro e w' ⟨rfl, ⟨nd, rfl⟩⟩; refine ⟨_, rfl, ?_⟩; have hcz36_0 : w35.cell? ⟨gb181, 0, none⟩ = some (.int .i64 a0_0) := (blk_cell BK181.out 0).trans rfl; have hcz36_1 : w35.cell? ⟨gb181, 1, none⟩ = some (.string a0_1) := (blk_cell BK181.out 1).trans rfl; have hfz36_0 := blk_frozen BK181.out 0; have hfz36_1 := blk_frozen BK181.out 1) | ((with_reducible refine gate_callee (f := 12) rfl ?_); refine goesL_ (some 36) rfl rfl Try.func12 (by kernel_rfl) rfl #[.agg #[.int .i64 a0_0, .string a0_1]] rfl (by (try simp only [List.map_toArray, List.map_cons, List.map_nil]); first | done | rfl | (simp only [List.length_drop, List.length_take]; rfl)) ?_; (with_reducible refine (laws_toEntry.calls a0_0 a0_1 t197 t198 _ A17.out).mono ?_); rintro e w37 ⟨rfl, hb⟩; refine ⟨_, rfl, ?_⟩; have n0_ := Aside0.mk (Kd.R_below (by (with_reducible repeat (first | apply Kd.R_alloc | apply Kd.R_drewN | apply Kd.R_drew)); exact HO187.out) hb); have n1_ := Aside0.mk (Kd.R_below (by (with_reducible repeat (first | apply Kd.R_alloc | apply Kd.R_drewN | apply Kd.R_drew)); exact HO192.out) hb); have n2_ := Aside0.mk (blk_below (g := gb181) (o := .cells #[.int .i64 a0_0, .string a0_1] 23 (0, 0)) (by (with_reducible repeat (first | refine blk_drewN ?_ _ | refine blk_drew ?_ | refine blk_alloc ?_ _)); exact BK181.out) hb); have n3_ := Aside0.mk (below_step (by repeat (first | (with_reducible first | exact HB.out | apply below_alloc | apply pw_below_drewN | apply below_drew1 | refine below_set ?_ GE181.out) | exact HB.out)) hb); clear HO187; clear HO192; clear BK181; clear HB; have HO187 := n0_; have HO192 := n1_; have BK181 := n2_; have HB := n3_; clear n0_ n1_ n2_ n3_; (try clear hb); (try clear hb2); (try clear hk); (try clear hi)) | ((with_reducible refine gate_callee (f := 13) rfl ?_); refine goesL_ (some 37) rfl rfl Try.func13 (by kernel_rfl) rfl #[.agg #[.int .i64 t197, .string t198]] rfl (by (try simp only [List.map_toArray, List.map_cons, List.map_nil]); first | done | rfl | (simp only [List.length_drop, List.length_take]; rfl)) ?_; (with_reducible refine (impl_EncodeEntry.calls k t197 t198 t199 _ A18.out).mono ?_); rintro e w38 ⟨v200, rfl, ho0, hb⟩; refine ⟨_, rfl, ?_⟩; have n0_ := Aside0.mk (Kd.R_elder' (by (with_reducible repeat (first | apply Kd.R_alloc | apply Kd.R_drewN | apply Kd.R_drew)); exact HO187.out) (Kd.R_base ho0) hb); have n1_ := Aside0.mk (Kd.R_elder' (by (with_reducible repeat (first | apply Kd.R_alloc | apply Kd.R_drewN | apply Kd.R_drew)); exact HO192.out) (Kd.R_base ho0) hb); have n2_ := Aside0.mk (Kd.R_lower (Kd.R_new' (Kd.R_new' ho0 (Kd.R_lt (by (with_reducible repeat (first | apply Kd.R_alloc | apply Kd.R_drewN | apply Kd.R_drew)); exact HO187.out))) (Kd.R_lt (by (with_reducible repeat (first | apply Kd.R_alloc | apply Kd.R_drewN | apply Kd.R_drew)); exact HO192.out))) (below_size (by repeat (first | (with_reducible first | exact HB.out | apply below_alloc | apply pw_below_drewN | apply below_drew1 | refine below_set ?_ GE181.out) | exact HB.out)))); have n3_ := Aside0.mk (blk_below (g := gb181) (o := .cells #[.int .i64 a0_0, .string a0_1] 23 (0, 0)) (by (with_reducible repeat (first | refine blk_drewN ?_ _ | refine blk_drew ?_ | refine blk_alloc ?_ _)); exact BK181.out) hb); have n4_ := Aside0.mk (below_step (by repeat (first | (with_reducible first | exact HB.out | apply below_alloc | apply pw_below_drewN | apply below_drew1 | refine below_set ?_ GE181.out) | exact HB.out)) hb); clear HO187; clear HO192; clear BK181; clear HB; have HO187 := n0_; have HO192 := n1_; have HO201 := n2_; have BK181 := n3_; have HB := n4_; clear n0_ n1_ n2_ n3_ n4_; (try clear hb); (try clear hb2); (try clear hk); (try clear hi); (try clear ho0); obtain ⟨Ao39, co39, eo39⟩ := Kd.R_slice HO201.out; subst eo39) | ((with_reducible refine gate_callee (f := 14) rfl ?_); refine goesL_ (some 40) rfl rfl Try.func14 (by kernel_rfl) rfl #[.slice Ao39 t199.length co39, .slice Ao34 t185.length co34] rfl (by (try simp only [List.map_toArray, List.map_cons, List.map_nil]); first | done | rfl | (simp only [List.length_drop, List.length_take]; rfl)) ?_; (with_reducible refine (laws_eqByteS.calls k _ _ t199 _ _ t185 true _ ?side1 ?side2 ?side3 ?side4 A19.out).mono ?_); (case side1 => repeat (first | exact (Kd.R_reads' HO201.out).2.2 | (with_reducible refine Kd.C_alloc ?_ _) | (with_reducible refine Kd.C_drewN ?_ _) | (with_reducible refine Kd.C_drew ?_))); (case side2 => exact (Kd.R_reads' HO201.out).2.1); (case side3 => repeat (first | exact (Kd.R_reads' HO187.out).2.2 | (with_reducible refine Kd.C_alloc ?_ _) | (with_reducible refine Kd.C_drewN ?_ _) | (with_reducible refine Kd.C_drew ?_))); (case side4 => exact (Kd.R_reads' HO187.out).2.1); rintro e w' ⟨rfl, ⟨nd, rfl⟩⟩; refine ⟨_, rfl, ?_⟩) | ((with_reducible refine gate_callee (f := 16) rfl ?_); refine goesL_ (some 44) rfl rfl Try.func16 (by kernel_rfl) rfl #[.slice Ao33 t195.length co33, .int .i64 1] rfl (by (try simp only [List.map_toArray, List.map_cons, List.map_nil]); first | done | (rw [show t195.length = t190.length from (Kd.R_reads' HO192.out).1.symm] <;> rfl) | rfl | (simp only [List.length_drop, List.length_take]; rfl)) ?_; (with_reducible refine (laws_heldByteS.calls k _ _ t195 1 t203 _ ?side1 ?side2 A21.out).mono ?_); (case side1 => repeat (first | exact (Kd.R_reads' HO192.out).2.2 | (with_reducible refine Kd.C_alloc ?_ _) | (with_reducible refine Kd.C_drewN ?_ _) | (with_reducible refine Kd.C_drew ?_))); (case side2 => rw [show t195.length = t190.length from (Kd.R_reads' HO192.out).1.symm]; exact (Kd.R_reads' HO192.out).2.1); rintro e w' ⟨rfl, ⟨nd, rfl⟩⟩; refine ⟨_, rfl, ?_⟩))
                go_ret
                exact ⟨by first | rfl | (simp [errW_none, errW_some] <;> rfl) | (simp [*, errW_none, errW_some] <;> rfl), by repeat (first | (with_reducible first | exact HB.out | apply below_alloc | apply pw_below_drewN | apply below_drew1 | refine below_set ?_ GE181.out) | exact HB.out)⟩
              · rw [if_neg c23] at H
                have c23b0 : (t203 == t194) = false := beq_eq_false_iff_ne.mpr c23
                have c23b1 : (t203 != t194) = true := bne_iff_ne.mpr c23
                exact absurd ((Option.some.inj H).trans hrt.out) (by simp)
          · replace c20 := Bool.eq_false_iff.mpr c20
            subst c20
            have H1 : (some false) = some r := by rw [if_neg (show ¬ (false = true) by decide)] at H; exact H
            clear H
            have H := H1
            clear H1
            exact absurd ((Option.some.inj H).trans hrt.out) (by simp)
        · rw [if_neg c16] at H
          have c16b0 : (t196 == t194) = false := beq_eq_false_iff_ne.mpr c16
          have c16b1 : (t196 != t194) = true := bne_iff_ne.mpr c16
          exact absurd ((Option.some.inj H).trans hrt.out) (by simp)
    · replace c12 := Bool.eq_false_iff.mpr c12
      subst c12
      have H1 : (some false) = some r := by rw [if_neg (show ¬ (false = true) by decide)] at H; exact H
      clear H
      have H := H1
      clear H1
      exact absurd ((Option.some.inj H).trans hrt.out) (by simp)

end Go.Proofs.Ytiiifeajcigigaa.PFnExactEncodeEntry
