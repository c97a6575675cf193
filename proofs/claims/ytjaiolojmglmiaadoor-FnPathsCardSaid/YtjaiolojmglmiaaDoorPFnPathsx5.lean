-- written by a program of this session (wip/src/print2.py)
import Derived.Test.YtjaiolojmglmiaaDoorPFnPathsx0
import Derived.Test.YtjaiolojmglmiaaDoorPFnPathsx1
import Derived.Test.YtjaiolojmglmiaaDoorPFnPathsx2
import Derived.Test.YtjaiolojmglmiaaDoorPFnPathsx4
namespace Go.Proofs.YtjaiolojmglmiaaDoor.PFnPaths
open Go.RowKit Go.Proofs.YtjaiolojmglmiaaDoorW.PrintWords Go.Proofs.YtjaiolojmglmiaaDoorW.PrintLast Go.Proofs.YtjaiolojmglmiaaDoorW.PrintMore
attribute [local go_sem] max2_int min2_int max_two min_two max_three min_three max_four min_four   -- for this text's walks alone
set_option linter.unusedVariables false
set_option linter.unusedSimpArgs false

/-! ### laws_FnPaths: function 4 -/
def laws_FnPaths.l0 : Nat → ByteArray → ByteArray → Int → Int → List ByteArray → Option (Bool)
  | 0, _, _, _, _, _ => none
  | k + 1, x3, x5, x6, x199000, x199001 => if x6 < (x199001.length : Int) then (if 0 ≤ x6 then ((impl_ValidName.f k (rdOf ByteArray.empty x199001 x6)).bind fun t204 => (if t204 = true then (if x5.size + 1 ≤ 9223372036854775807 then (if (x5 ++ (⟨#[47]⟩ : ByteArray)).size + (rdOf ByteArray.empty x199001 x6).size ≤ 9223372036854775807 then (laws_FnPaths.l0 k x3 ((x5 ++ (⟨#[47]⟩ : ByteArray)) ++ (rdOf ByteArray.empty x199001 x6)) (wrap64 (x6 + 1)) x199000 x199001) else (none)) else (none)) else (some false))) else (none)) else (if (x199001.length : Int) = 0 then (if ([47] : List UInt8) = x3.toList then (if (x199001.length : Int) ≤ 16 then (if x3.size + 1 ≤ 9223372036854775807 then ((impl_SplitPath.f k (x3 ++ (⟨#[47]⟩ : ByteArray))).bind fun bt206 => (if bt206.1 = 0 then (some false) else (if 1 + x3.size ≤ 9223372036854775807 then ((impl_SplitPath.f k ((⟨#[120]⟩ : ByteArray) ++ x3)).bind fun bt210 => (if bt210.1 = 30 then ((impl_ValidName.f k x3).bind fun t214 => (some (!t214))) else (some false))) else (none)))) else (none)) else (some false)) else (some false)) else (if x5.toList = x3.toList then (if (x199001.length : Int) ≤ 16 then (if x3.size + 1 ≤ 9223372036854775807 then ((impl_SplitPath.f k (x3 ++ (⟨#[47]⟩ : ByteArray))).bind fun bt215 => (if bt215.1 = 0 then (some false) else (if 1 + x3.size ≤ 9223372036854775807 then ((impl_SplitPath.f k ((⟨#[120]⟩ : ByteArray) ++ x3)).bind fun bt219 => (if bt219.1 = 30 then ((impl_ValidName.f k x3).bind fun t223 => (some (!t223))) else (some false))) else (none)))) else (none)) else (some false)) else (some false)))
def laws_FnPaths.f (k : Nat) (l0 : List Int) : Option (Bool) := if (l0.length : Int) > 1048576 then (some true) else ((spec_DrawSplitPath.f k l0).bind fun t193 => ((impl_SplitPath.f k t193).bind fun bt194 => ((spec_SplitPath.f k t193).bind fun bt199 => (if bt194.1 = bt199.1 then (if bt194.1 = 0 then (laws_FnPaths.l0 k t193 (⟨#[]⟩ : ByteArray) 0 bt194.1 bt194.2) else (some ((bt194.2.length : Int) == 0))) else (some false)))))
theorem laws_FnPaths.mono_l : ∀ k, (∀ y0 y1 y2 y3 y4, LeO (laws_FnPaths.l0 k y0 y1 y2 y3 y4) (laws_FnPaths.l0 (k + 1) y0 y1 y2 y3 y4))
  | 0 => fun _ _ _ _ _ r h => by simp [laws_FnPaths.l0] at h
  | k + 1 => by
    have ih0 := laws_FnPaths.mono_l k
    · intro y0 y1 y2 y3 y4
      unfold laws_FnPaths.l0
      repeat' first
      | (with_reducible exact ih0 _ _ _ _ _)
      | (with_reducible exact impl_SplitPath.mono _ _)
      | (with_reducible exact impl_ValidName.mono _ _)
      | (with_reducible exact spec_DrawSplitPath.mono _ _)
      | (with_reducible exact spec_SplitPath.mono _ _)
      | (with_reducible exact LeO.refl _)
      | (with_reducible exact LeO.none _)
      | (with_reducible refine LeO.ite ?_ ?_)
      | (with_reducible refine LeO.bind ?_ (fun _ => ?_))
      | exact ih0 _ _ _ _ _
      | exact impl_SplitPath.mono _ _
      | exact impl_ValidName.mono _ _
      | exact spec_DrawSplitPath.mono _ _
      | exact spec_SplitPath.mono _ _
      | exact LeO.none _
      | refine LeO.ite ?_ ?_
      | refine LeO.bind ?_ (fun _ => ?_)
theorem laws_FnPaths.mono : ∀ a0 k, LeO (laws_FnPaths.f k a0) (laws_FnPaths.f (k + 1) a0) := by
  intro a0 k
  have ih0 := laws_FnPaths.mono_l k
  unfold laws_FnPaths.f
  repeat' first
      | (with_reducible exact ih0 _ _ _ _ _)
      | (with_reducible exact impl_SplitPath.mono _ _)
      | (with_reducible exact impl_ValidName.mono _ _)
      | (with_reducible exact spec_DrawSplitPath.mono _ _)
      | (with_reducible exact spec_SplitPath.mono _ _)
      | (with_reducible exact LeO.refl _)
      | (with_reducible exact LeO.none _)
      | (with_reducible refine LeO.ite ?_ ?_)
      | (with_reducible refine LeO.bind ?_ (fun _ => ?_))
      | exact ih0 _ _ _ _ _
      | exact impl_SplitPath.mono _ _
      | exact impl_ValidName.mono _ _
      | exact spec_DrawSplitPath.mono _ _
      | exact spec_SplitPath.mono _ _
      | exact LeO.none _
      | refine LeO.ite ?_ ?_
      | refine LeO.bind ?_ (fun _ => ?_)
set_option maxHeartbeats 8000000 in
set_option maxRecDepth 100000 in
theorem laws_FnPaths.calls (k : Nat) (A0 : Option Addr) (c0 : Nat) (l0 : List Int) (r : Bool) (w : World) (hr0 : Kd.C (Kd.int .u8) w A0 l0.length l0) (hc0 : l0.length ≤ c0) (h : laws_FnPaths.f k l0 = some r) (hrt : Aside0 (r = true)) (hG0 : GlobM w) :
    Calls Tryd.prog 4 #[.slice A0 l0.length c0] w fun e w' => e = .returned (.bool r) ∧ Below w.heap.size w w' := by
  have hfd : ∀ (u v : Value) (W : World), (Instr.field 24 (.agg #[u, v]) 0).run Tryd.prog W = .ok u W := fun _ _ _ => by kernel_rfl
  have hu24 := Tryd.underlying24
  have HR0 := Aside0.mk hr0
  have HC0 := Aside0.mk hc0
  clear hr0 hc0
  have HB := Aside0.mk (Below.refl w.heap.size w)
  have H : (if (l0.length : Int) > 1048576 then (some true) else ((spec_DrawSplitPath.f k l0).bind fun t193 => ((impl_SplitPath.f k t193).bind fun bt194 => ((spec_SplitPath.f k t193).bind fun bt199 => (if bt194.1 = bt199.1 then (if bt194.1 = 0 then (laws_FnPaths.l0 k t193 (⟨#[]⟩ : ByteArray) 0 bt194.1 bt194.2) else (some ((bt194.2.length : Int) == 0))) else (some false)))))) = some r := h
  clear h
  by_cases c2 : (l0.length : Int) > 1048576
  · rw [if_pos c2] at H
    have c2b0 : decide (1048576 < (l0.length : Int)) = true := decide_eq_true c2
    have c2b1 : decide (1048576 < l0.length) = true := decide_eq_true (by omega)
    clear c2
    obtain rfl := Option.some.inj H
    go_enter Tryd.func4, Tryd.ntmps4
    go_wp2
    go_ret
    exact ⟨by first | rfl | (simp [errW_none, errW_some] <;> rfl) | (simp [*, errW_none, errW_some] <;> rfl), by repeat (first | (with_reducible first | exact HB.out | apply below_alloc | apply pw_below_drewN | apply below_drew1) | exact HB.out)⟩
  · rw [if_neg c2] at H
    have c2b0 : decide (1048576 < (l0.length : Int)) = false := decide_eq_false c2
    have c2b1 : decide (1048576 < l0.length) = false := decide_eq_false (by omega)
    clear c2
    replace H := Option.bind_eq_some_iff.mp H
    obtain ⟨t193, A30, H⟩ := H
    replace H : ((impl_SplitPath.f k t193).bind fun bt194 => ((spec_SplitPath.f k t193).bind fun bt199 => (if bt194.1 = bt199.1 then (if bt194.1 = 0 then (laws_FnPaths.l0 k t193 (⟨#[]⟩ : ByteArray) 0 bt194.1 bt194.2) else (some ((bt194.2.length : Int) == 0))) else (some false)))) = some r := H
    have A3 := Aside0.mk A30
    clear A30
    replace H := Option.bind_eq_some_iff.mp H
    obtain ⟨⟨t194, t195⟩, A40, H⟩ := H
    replace H : ((spec_SplitPath.f k t193).bind fun bt199 => (if t194 = bt199.1 then (if t194 = 0 then (laws_FnPaths.l0 k t193 (⟨#[]⟩ : ByteArray) 0 t194 t195) else (some ((t195.length : Int) == 0))) else (some false))) = some r := H
    have A4 := Aside0.mk A40
    clear A40
    replace H := Option.bind_eq_some_iff.mp H
    obtain ⟨⟨t199, t200⟩, A50, H⟩ := H
    replace H : (if t194 = t199 then (if t194 = 0 then (laws_FnPaths.l0 k t193 (⟨#[]⟩ : ByteArray) 0 t194 t195) else (some ((t195.length : Int) == 0))) else (some false)) = some r := H
    have A5 := Aside0.mk A50
    clear A50
    by_cases c6 : t194 = t199
    · rw [if_pos c6] at H
      have c6b0 : (t194 == t199) = true := beq_iff_eq.mpr c6
      have c6b1 : (t194 != t199) = false := bne_eq_false_iff_eq.mpr c6
      clear c6
      by_cases c7 : t194 = 0
      · rw [if_pos c7] at H
        have c7b0 : (t194 == 0) = true := beq_iff_eq.mpr c7
        have c7b1 : (t194 != 0) = false := bne_eq_false_iff_eq.mpr c7
        clear c7
        have H' := Aside0.mk H
        clear H
        go_enter Tryd.func4, Tryd.ntmps4
        try go_wp2_with (first | ((with_reducible refine gate_callee (f := 10) rfl ?_); refine goesL_ (some 11) rfl rfl Tryd.func10 (by kernel_rfl) rfl #[.slice A0 l0.length c0] rfl (by (try simp only [List.map_toArray, List.map_cons, List.map_nil]); first | done | rfl | (simp only [List.length_drop, List.length_take]; rfl)) ?_; (with_reducible refine (spec_DrawSplitPath.calls k _ _ l0 t193 _ ?side1 ?side2 A3.out).mono ?_); (case side1 => repeat (first | exact HR0.out | (with_reducible refine Kd.C_alloc ?_ _) | (with_reducible refine Kd.C_drewN ?_ _) | (with_reducible refine Kd.C_drew ?_))); (case side2 => exact HC0.out); rintro e w8 ⟨rfl, hb⟩; refine ⟨_, rfl, ?_⟩; have n0_ := Aside0.mk (below_step (by repeat (first | (with_reducible first | exact HB.out | apply below_alloc | apply pw_below_drewN | apply below_drew1) | exact HB.out)) hb); clear HB; have HB := n0_; clear n0_; (try clear hb); (try clear hb2); (try clear hk); (try clear hi)) | ((with_reducible refine gate_callee (f := 6) rfl ?_); refine goesL_ (some 13) rfl rfl Tryd.func6 (by kernel_rfl) rfl #[.string t193] rfl (by (try simp only [List.map_toArray, List.map_cons, List.map_nil]); first | done | rfl | (simp only [List.length_drop, List.length_take]; rfl)) ?_; (with_reducible refine (impl_SplitPath.calls k t193 t194 t195 _ A4.out (hG0.below (by repeat (first | (with_reducible first | exact HB.out | apply below_alloc | apply pw_below_drewN | apply below_drew1) | exact HB.out)))).mono ?_); rintro e w9 ⟨v196, rfl, ho0, hb⟩; refine ⟨_, rfl, ?_⟩; have n0_ := Aside0.mk (Kd.R_lower ho0 (below_size (by repeat (first | (with_reducible first | exact HB.out | apply below_alloc | apply pw_below_drewN | apply below_drew1) | exact HB.out)))); have n1_ := Aside0.mk (below_step (by repeat (first | (with_reducible first | exact HB.out | apply below_alloc | apply pw_below_drewN | apply below_drew1) | exact HB.out)) hb); clear HB; have HO197 := n0_; have HB := n1_; clear n0_ n1_; (try clear hb); (try clear hb2); (try clear hk); (try clear hi); (try clear ho0)) | ((with_reducible refine gate_dst (N := 4) rfl ?_); (try (refine gate_guard (by rfl) ?_; dsimp only)); refine box_event ?hg (N := 4) ?hd (cs := #[.int .i64 0, .slice none 0 0]) (t := 24) ?hr ?_; (case hd => rfl); (case hg => rfl); (case hr => first | (go_simp; done) | (go_simp; rfl)); intro gb198 hg w10 hbox hb; have n0_ := Aside0.mk (Kd.R_below (by (with_reducible repeat (first | apply Kd.R_alloc | apply Kd.R_drewN | apply Kd.R_drew)); exact HO197.out) hb); have n1_ := Aside0.mk (below_step (by repeat (first | (with_reducible first | exact HB.out | apply below_alloc | apply pw_below_drewN | apply below_drew1) | exact HB.out)) hb); have n2_ := Aside0.mk (hbox); have n3_ := Aside0.mk ((by rw [hg]; exact (below_size (by repeat (first | (with_reducible first | exact HB.out | apply below_alloc | apply pw_below_drewN | apply below_drew1) | exact HB.out))) : w.heap.size ≤ gb198)); have n4_ := Aside0.mk ((by rw [hg]; exact (below_size (by repeat (first | (with_reducible first | exact HB.out | apply below_alloc | apply pw_below_drewN | apply below_drew1) | exact HB.out))) : w.heap.size ≤ gb198)); clear HO197; clear HB; have HO197 := n0_; have HB := n1_; have BK198 := n2_; have GW198 := n3_; have GE198 := n4_; clear n0_ n1_ n2_ n3_ n4_; clear hb hbox hg; have hcz11_0 : w10.cell? ⟨gb198, 0, none⟩ = some (.int .i64 0) := (blk_cell BK198.out 0).trans rfl; have hcz11_1 : w10.cell? ⟨gb198, 1, none⟩ = some (.slice none 0 0) := (blk_cell BK198.out 1).trans rfl; have hfz11_0 := blk_frozen BK198.out 0; have hfz11_1 := blk_frozen BK198.out 1; obtain ⟨Ao12, co12, eo12⟩ := Kd.R_slice HO197.out; subst eo12))
        have n0_ : Aside0 (Kd.R Kd.string 9 ((w10.setCell ⟨gb198, 0, none⟩ (.int .i64 t194)).setCell ⟨gb198, 1, none⟩ (.slice Ao12 t195.length co12)) w.heap.size (fun _ => True) (.slice Ao12 t195.length co12) t195) := ⟨by (with_reducible repeat (first | apply Kd.R_alloc | apply Kd.R_drewN | apply Kd.R_drew)); exact Kd.R_mono (Kd.R_far (p := ⟨gb198, 1, none⟩) (Kd.R_far (p := ⟨gb198, 0, none⟩) (Kd.R_types HO197.out BK198.out (by decide)) (fun _ hk => hk.2) (.int .i64 t194)) (fun _ hk => hk.2) (.slice Ao12 t195.length co12)) (fun _ hk => trivial)⟩
        have n1_ : Aside0 (((w10.setCell ⟨gb198, 0, none⟩ (.int .i64 t194)).setCell ⟨gb198, 1, none⟩ (.slice Ao12 t195.length co12)).heap[gb198]? = some (.cells #[.int .i64 t194, .slice Ao12 t195.length co12] 24 (0, 0))) := ⟨by (with_reducible repeat (first | refine blk_drewN ?_ _ | refine blk_drew ?_ | refine blk_alloc ?_ _)); refine blk_put (cs := #[.int .i64 t194, .slice none 0 0]) ?_ 1 _ rfl; (with_reducible repeat (first | refine blk_drewN ?_ _ | refine blk_drew ?_ | refine blk_alloc ?_ _)); refine blk_put (cs := #[.int .i64 0, .slice none 0 0]) ?_ 0 _ rfl; (with_reducible repeat (first | refine blk_drewN ?_ _ | refine blk_drew ?_ | refine blk_alloc ?_ _)); exact BK198.out⟩
        have n2_ : Aside0 (Below w.heap.size w ((w10.setCell ⟨gb198, 0, none⟩ (.int .i64 t194)).setCell ⟨gb198, 1, none⟩ (.slice Ao12 t195.length co12))) := ⟨by repeat (first | (with_reducible first | exact HB.out | apply below_alloc | apply pw_below_drewN | apply below_drew1 | refine below_set ?_ GE198.out) | exact HB.out)⟩
        (try clear HO197)
        (try clear BK198)
        (try clear HB)
        generalize ((w10.setCell ⟨gb198, 0, none⟩ (.int .i64 t194)).setCell ⟨gb198, 1, none⟩ (.slice Ao12 t195.length co12)) = w13 at n0_ n1_ n2_ ⊢
        have HO197 := n0_
        have BK198 := n1_
        have HB := n2_
        clear n0_ n1_ n2_
        have n0_ := Aside0.mk (Kd.R_drew HO197.out)
        have n1_ := Aside0.mk (blk_drew BK198.out)
        have n2_ := Aside0.mk (below_drew1 HB.out)
        clear HO197
        clear BK198
        clear HB
        have HO197 := n0_
        have BK198 := n1_
        have HB := n2_
        clear n0_ n1_ n2_
        refine start_ (n := 6) (S := fun w' => w'.cell? ⟨gb198, 0, none⟩ = some (.int .i64 t194) ∧ w'.cell? ⟨gb198, 1, none⟩ = some (.slice Ao12 t195.length co12)) (ds := []) #[false, false, false, false, false, false] (by kernel_rfl) rfl rfl ⟨(blk_cell BK198.out 0).trans rfl, (blk_cell BK198.out 1).trans rfl⟩ (fun hHeld => ?_)
        generalize w13.drew = w14 at HO197 BK198 HB hHeld ⊢
        refine pure_ (i := 0) (N := some 14) (v := ?_) (a' := ?_) #[true, false, false, false, false, false] rfl rfl (by kernel_rfl) (fun _ _ _ h => h) (Or.inl ⟨by rfl, ?_⟩) ?_ ?_
        rotate_left
        · intro w'
          go_simp
          with_reducible rfl
        rotate_left
        · simp only [Act.put, List.setIfInBounds_toArray, List.set_cons_zero, List.set_cons_succ, i64_w, i32_w]
          rfl
        refine pure_ (i := 2) (N := some 16) (v := ?_) (a' := ?_) #[true, false, true, false, false, false] rfl rfl (by kernel_rfl) (fun _ _ _ h => h) (Or.inl ⟨by rfl, ?_⟩) ?_ ?_
        rotate_left
        · intro w'
          go_simp
          with_reducible rfl
        rotate_left
        · simp only [Act.put, List.setIfInBounds_toArray, List.set_cons_zero, List.set_cons_succ, i64_w, i32_w]
          rfl
        refine take_ (i := 1) (N := some 15) (v := ?_) (a' := ?_) #[true, true, true, false, false, false] rfl rfl (by kernel_rfl) (fun _ _ _ h => h) (Or.inl ⟨by rfl, ?_⟩) hHeld ?_ ?_
        rotate_left
        · rintro w' ⟨s0, s1⟩
          go_simp
          with_reducible rfl
        rotate_left
        · simp only [Act.put, List.setIfInBounds_toArray, List.set_cons_zero, List.set_cons_succ, i64_w, i32_w]
          rfl
        refine one_ (i := 3) (N := some 17) #[true, true, true, true, false, false] rfl rfl (by kernel_rfl) (by decide) (fun K hK => ?_)
        refine goes_ Tryd.func5 (by kernel_rfl) rfl #[.string t193] (by rfl) rfl rfl (by (try simp only [List.map_toArray, List.map_cons, List.map_nil]); first | done | rfl | (simp only [List.length_drop, List.length_take]; rfl)) ?_
        with_reducible refine (spec_SplitPath.calls k t193 t199 t200 _ A5.out).mono ?_
        rintro e w15 ⟨v201, rfl, ho0, hb⟩
        refine ⟨_, rfl, ?_⟩
        have n0_ := Aside0.mk (Kd.R_elder' (by (with_reducible repeat (first | apply Kd.R_alloc | apply Kd.R_drewN | apply Kd.R_drew)); exact HO197.out) (Kd.R_base ho0) hb)
        have n1_ := Aside0.mk (Kd.R_lower (Kd.R_new' ho0 (Kd.R_lt (by (with_reducible repeat (first | apply Kd.R_alloc | apply Kd.R_drewN | apply Kd.R_drew)); exact HO197.out))) (below_size (by repeat (first | (with_reducible first | exact HB.out | apply below_alloc | apply pw_below_drewN | apply below_drew1 | refine below_set ?_ GE198.out) | exact HB.out))))
        have n2_ := Aside0.mk (blk_below (g := gb198) (o := .cells #[.int .i64 t194, .slice Ao12 t195.length co12] 24 (0, 0)) (by (with_reducible repeat (first | refine blk_drewN ?_ _ | refine blk_drew ?_ | refine blk_alloc ?_ _)); exact BK198.out) hb)
        have n3_ := Aside0.mk (below_step (by repeat (first | (with_reducible first | exact HB.out | apply below_alloc | apply pw_below_drewN | apply below_drew1 | refine below_set ?_ GE198.out) | exact HB.out)) hb)
        clear HO197
        clear BK198
        clear HB
        have HO197 := n0_
        have HO202 := n1_
        have BK198 := n2_
        have HB := n3_
        clear n0_ n1_ n2_ n3_
        (try clear hb)
        (try clear hb2)
        (try clear hk)
        (try clear hi)
        (try clear ho0)
        refine hK.out _ _ ⟨(blk_cell BK198.out 0).trans rfl, (blk_cell BK198.out 1).trans rfl⟩ (fun hHeld => ?_)
        clear hK K
        refine norm_ (a' := ?_) ?_ ?_
        rotate_left
        · show Act.put _ (some 17) _ = _
          simp only [Act.put, List.setIfInBounds_toArray, List.set_cons_zero, List.set_cons_succ, i64_w, i32_w]
          rfl
        refine pure_ (i := 4) (N := some 18) (v := ?_) (a' := ?_) #[true, true, true, true, true, false] rfl rfl (by kernel_rfl) (fun _ _ _ h => h) (Or.inl ⟨by rfl, ?_⟩) ?_ ?_
        rotate_left
        · intro w'
          go_simp
          with_reducible rfl
        rotate_left
        · simp only [Act.put, List.setIfInBounds_toArray, List.set_cons_zero, List.set_cons_succ, i64_w, i32_w]
          rfl
        refine pure_ (i := 5) (N := some 19) (v := ?_) (a' := ?_) #[true, true, true, true, true, true] rfl rfl (by kernel_rfl) (fun _ _ _ h => h) (Or.inl ⟨by rfl, ?_⟩) ?_ ?_
        rotate_left
        · intro w'
          go_simp
          with_reducible rfl
        rotate_left
        · simp only [Act.put, List.setIfInBounds_toArray, List.set_cons_zero, List.set_cons_succ, i64_w, i32_w]
          rfl
        refine done_ (by kernel_rfl) ?_
        have hcz16_0 : w15.cell? ⟨gb198, 0, none⟩ = some (.int .i64 t194) := (blk_cell BK198.out 0).trans rfl
        have hcz16_1 : w15.cell? ⟨gb198, 1, none⟩ = some (.slice Ao12 t195.length co12) := (blk_cell BK198.out 1).trans rfl
        have hfz16_0 := blk_frozen BK198.out 0
        have hfz16_1 := blk_frozen BK198.out 1
        try go_wp2
        go_loopg [5, 6] k (fun kq v5 v6 w' => ∃ (x5_1 : ByteArray) (x6_1 : Int), v5 = .string x5_1 ∧ v6 = .int .i64 x6_1 ∧ Aside0 (laws_FnPaths.l0 kq t193 x5_1 x6_1 t194 t195 = some r) ∧ Aside0 (kq ≤ k) ∧ Aside0 (Kd.R Kd.string 9 w' w.heap.size (fun _ => True) (.slice Ao12 t195.length co12) t195) ∧ Aside0 (w'.heap[gb198]? = some (.cells #[.int .i64 t194, (.slice Ao12 t195.length co12)] 24 (0, 0))) ∧ Aside0 (Below w.heap.size w w'))
        case atStart => exact ⟨((⟨#[]⟩ : ByteArray)), (0), (by first | rfl | (simp; done) | (simp [*]; done)), (by first | rfl | (simp; done) | (simp [*]; done)), H', ⟨Nat.le_refl _⟩, ⟨by (with_reducible repeat (first | apply Kd.R_alloc | apply Kd.R_drewN | apply Kd.R_drew)); exact Kd.R_mono HO197.out (fun _ hk => trivial)⟩, ⟨by (with_reducible repeat (first | refine blk_drewN ?_ _ | refine blk_drew ?_ | refine blk_alloc ?_ _)); exact BK198.out⟩, ⟨by repeat (first | (with_reducible first | exact HB.out | apply below_alloc | apply pw_below_drewN | apply below_drew1 | refine below_set ?_ GE198.out) | exact HB.out)⟩⟩
        case round =>
          clear H'
          try clear c1
          try clear c2
          try clear c2b0
          try clear c2b1
          try clear p2
          try clear c4
          try clear c5
          try clear c6
          try clear c6b0
          try clear c6b1
          try clear c7
          try clear c7b0
          try clear c7b1
          try clear c10
          try clear hcz11_0
          try clear hcz11_1
          try clear hcz16_0
          try clear hcz16_1
          try clear hfz11_0
          try clear hfz11_1
          try clear hfz16_0
          try clear hfz16_1
          obtain ⟨x5_1, x6_1, rfl, rfl, HA, HK1, HO_199001, BK198, HB⟩ := hrel
          cases gk with
          | zero => exact absurd HA.out (by simp [laws_FnPaths.l0])
          | succ k1 =>
            have H := HA.out
            clear HA
            simp only [laws_FnPaths.l0] at H
            by_cases c17 : x6_1 < (t195.length : Int)
            · rw [if_pos c17] at H
              have c17b0 : decide (x6_1 < (t195.length : Int)) = true := decide_eq_true c17
              clear c17
              by_cases c18 : 0 ≤ x6_1
              · rw [if_pos c18] at H
                have c18b0 : decide (0 ≤ x6_1) = true := decide_eq_true c18
                clear c18
                replace H := Option.bind_eq_some_iff.mp H
                obtain ⟨t204, A190, H⟩ := H
                replace H : (if t204 = true then (if x5_1.size + 1 ≤ 9223372036854775807 then (if (x5_1 ++ (⟨#[47]⟩ : ByteArray)).size + (rdOf ByteArray.empty t195 x6_1).size ≤ 9223372036854775807 then (laws_FnPaths.l0 k1 t193 ((x5_1 ++ (⟨#[47]⟩ : ByteArray)) ++ (rdOf ByteArray.empty t195 x6_1)) (wrap64 (x6_1 + 1)) t194 t195) else (none)) else (none)) else (some false)) = some r := H
                have A19 := Aside0.mk A190
                clear A190
                by_cases c20 : t204 = true
                · subst c20
                  have H1 : (if x5_1.size + 1 ≤ 9223372036854775807 then (if (x5_1 ++ (⟨#[47]⟩ : ByteArray)).size + (rdOf ByteArray.empty t195 x6_1).size ≤ 9223372036854775807 then (laws_FnPaths.l0 k1 t193 ((x5_1 ++ (⟨#[47]⟩ : ByteArray)) ++ (rdOf ByteArray.empty t195 x6_1)) (wrap64 (x6_1 + 1)) t194 t195) else (none)) else (none)) = some r := by rw [if_pos rfl] at H; exact H
                  clear H
                  have H := H1
                  clear H1
                  by_cases c21 : x5_1.size + 1 ≤ 9223372036854775807
                  · rw [if_pos c21] at H
                    have c21b0 := eq_true c21
                    have c21b1 : decide (x5_1.size + 1 ≤ 9223372036854775807) = true := decide_eq_true c21
                    try have c21b2 : (9223372036854775807 < x5_1.size + 1) = False := eq_false (Nat.not_lt.2 c21)
                    by_cases c22 : (x5_1 ++ (⟨#[47]⟩ : ByteArray)).size + (rdOf ByteArray.empty t195 x6_1).size ≤ 9223372036854775807
                    · rw [if_pos c22] at H
                      have c22b0 := eq_true c22
                      have c22n : x5_1.size + 1 + (rdOf ByteArray.empty t195 x6_1).size ≤ 9223372036854775807 := by have h_ := c22; simp only [ByteArray.size_append] at h_; exact h_
                      have c22n0 := eq_true c22n
                      have c22n1 : decide (x5_1.size + 1 + (rdOf ByteArray.empty t195 x6_1).size ≤ 9223372036854775807) = true := decide_eq_true c22n
                      have c22n2 : (9223372036854775807 < x5_1.size + 1 + (rdOf ByteArray.empty t195 x6_1).size) = False := eq_false (Nat.not_lt.2 c22n)
                      have c22b1 : decide ((x5_1 ++ (⟨#[47]⟩ : ByteArray)).size + (rdOf ByteArray.empty t195 x6_1).size ≤ 9223372036854775807) = true := decide_eq_true c22
                      try have c22b2 : (9223372036854775807 < (x5_1 ++ (⟨#[47]⟩ : ByteArray)).size + (rdOf ByteArray.empty t195 x6_1).size) = False := eq_false (Nat.not_lt.2 c22)
                      have H' := Aside0.mk H
                      clear H
                      have hcz23_0 : wr.cell? ⟨gb198, 0, none⟩ = some (.int .i64 t194) := (blk_cell BK198.out 0).trans rfl
                      have hcz23_1 : wr.cell? ⟨gb198, 1, none⟩ = some (.slice Ao12 t195.length co12) := (blk_cell BK198.out 1).trans rfl
                      have hfz23_0 := blk_frozen BK198.out 0
                      have hfz23_1 := blk_frozen BK198.out 1
                      have p203 : 0 ≤ (x6_1 : Int) := of_decide_eq_true (by first | (with_reducible assumption) | assumption)
                      have q203 : x6_1 < (t195.length : Int) := of_decide_eq_true (by first | (with_reducible assumption) | assumption)
                      obtain ⟨ad203, e203, hx203_0⟩ := Kd.at_string (Kd.R_reads' HO_199001.out).2.2 x6_1 p203 q203
                      cases e203
                      replace p203 := eq_true p203
                      replace q203 := eq_true q203
                      go_wp2_with (first | ((with_reducible refine gate_callee (f := 11) rfl ?_); refine goesL_ (some 39) rfl rfl Tryd.func11 (by kernel_rfl) rfl #[.string (rdOf ByteArray.empty t195 x6_1)] rfl (by (try simp only [List.map_toArray, List.map_cons, List.map_nil]); first | done | rfl | (simp only [List.length_drop, List.length_take]; rfl)) ?_; (with_reducible refine (impl_ValidName.calls k1 (rdOf ByteArray.empty t195 x6_1) true _ A19.out).mono ?_); rintro e w24 ⟨rfl, hb⟩; refine ⟨_, rfl, ?_⟩; have n0_ := Aside0.mk (Kd.R_below (by (with_reducible repeat (first | apply Kd.R_alloc | apply Kd.R_drewN | apply Kd.R_drew)); exact HO_199001.out) hb); have n1_ := Aside0.mk (blk_below (g := gb198) (o := .cells #[.int .i64 t194, .slice (some ad203) t195.length co12] 24 (0, 0)) (by (with_reducible repeat (first | refine blk_drewN ?_ _ | refine blk_drew ?_ | refine blk_alloc ?_ _)); exact BK198.out) hb); have n2_ := Aside0.mk (below_step (by repeat (first | (with_reducible first | exact HB.out | apply below_alloc | apply pw_below_drewN | apply below_drew1 | refine below_set ?_ GE198.out) | exact HB.out)) hb); clear HO_199001; clear BK198; clear HB; have HO_199001 := n0_; have BK198 := n1_; have HB := n2_; clear n0_ n1_ n2_; (try clear hb); (try clear hb2); (try clear hk); (try clear hi); have hcz25_0 : w24.cell? ⟨gb198, 0, none⟩ = some (.int .i64 t194) := (blk_cell BK198.out 0).trans rfl; have hcz25_1 : w24.cell? ⟨gb198, 1, none⟩ = some (.slice (some ad203) t195.length co12) := (blk_cell BK198.out 1).trans rfl; have hfz25_0 := blk_frozen BK198.out 0; have hfz25_1 := blk_frozen BK198.out 1; have p205 : 0 ≤ (x6_1 : Int) := of_decide_eq_true (by first | (with_reducible assumption) | assumption); have q205 : x6_1 < (t195.length : Int) := of_decide_eq_true (by first | (with_reducible assumption) | assumption); obtain ⟨ad205, e205, hx205_0⟩ := Kd.at_string (Kd.R_reads' HO_199001.out).2.2 x6_1 p205 q205; obtain rfl : ad203 = ad205 := (by injection e205); replace p205 := eq_true p205; replace q205 := eq_true q205))
                      go_roundg k1
                      case measure => have := HK1.out; omega
                      case rel => exact ⟨((x5_1 ++ (⟨#[47]⟩ : ByteArray)) ++ (rdOf ByteArray.empty t195 x6_1)), (wrap64 (x6_1 + 1)), (by first | rfl | (simp; done) | (simp [*]; done)), (by first | rfl | (simp; done) | (simp [*]; done)), H', ⟨by have := HK1.out; omega⟩, ⟨by (with_reducible repeat (first | apply Kd.R_alloc | apply Kd.R_drewN | apply Kd.R_drew)); exact HO_199001.out⟩, ⟨by (with_reducible repeat (first | refine blk_drewN ?_ _ | refine blk_drew ?_ | refine blk_alloc ?_ _)); exact BK198.out⟩, ⟨by repeat (first | (with_reducible first | exact HB.out | apply below_alloc | apply pw_below_drewN | apply below_drew1 | refine below_set ?_ GE198.out) | exact HB.out)⟩⟩
                    · rw [if_neg c22] at H
                      exact absurd H (by simp)
                  · rw [if_neg c21] at H
                    exact absurd H (by simp)
                · replace c20 := Bool.eq_false_iff.mpr c20
                  subst c20
                  have H1 : (some false) = some r := by rw [if_neg (show ¬ (false = true) by decide)] at H; exact H
                  clear H
                  have H := H1
                  clear H1
                  exact absurd ((Option.some.inj H).trans hrt.out) (by simp)
              · rw [if_neg c18] at H
                exact absurd H (by simp)
            · rw [if_neg c17] at H
              have c17b0 : decide (x6_1 < (t195.length : Int)) = false := decide_eq_false c17
              clear c17
              by_cases c26 : (t195.length : Int) = 0
              · rw [if_pos c26] at H
                have c26b0 : ((t195.length : Int) == 0) = true := beq_iff_eq.mpr c26
                have c26b1 : ((t195.length : Int) != 0) = false := bne_eq_false_iff_eq.mpr c26
                clear c26
                by_cases c27 : ([47] : List UInt8) = t193.toList
                · rw [if_pos c27] at H
                  have c27b0 : (([47] : List UInt8) == t193.toList) = true := beq_iff_eq.mpr c27
                  have c27b1 : (([47] : List UInt8) != t193.toList) = false := bne_eq_false_iff_eq.mpr c27
                  clear c27
                  by_cases c28 : (t195.length : Int) ≤ 16
                  · rw [if_pos c28] at H
                    have c28b0 : decide ((t195.length : Int) ≤ 16) = true := decide_eq_true c28
                    have c28b1 : decide (t195.length ≤ 16) = true := decide_eq_true (by omega)
                    clear c28
                    by_cases c29 : t193.size + 1 ≤ 9223372036854775807
                    · rw [if_pos c29] at H
                      have c29b0 := eq_true c29
                      have c29b1 : decide (t193.size + 1 ≤ 9223372036854775807) = true := decide_eq_true c29
                      try have c29b2 : (9223372036854775807 < t193.size + 1) = False := eq_false (Nat.not_lt.2 c29)
                      replace H := Option.bind_eq_some_iff.mp H
                      obtain ⟨⟨t206, t207⟩, A300, H⟩ := H
                      replace H : (if t206 = 0 then (some false) else (if 1 + t193.size ≤ 9223372036854775807 then ((impl_SplitPath.f k1 ((⟨#[120]⟩ : ByteArray) ++ t193)).bind fun bt210 => (if bt210.1 = 30 then ((impl_ValidName.f k1 t193).bind fun t214 => (some (!t214))) else (some false))) else (none))) = some r := H
                      have A30 := Aside0.mk A300
                      clear A300
                      by_cases c31 : t206 = 0
                      · rw [if_pos c31] at H
                        have c31b0 : (t206 == 0) = true := beq_iff_eq.mpr c31
                        have c31b1 : (t206 != 0) = false := bne_eq_false_iff_eq.mpr c31
                        clear c31
                        exact absurd ((Option.some.inj H).trans hrt.out) (by simp)
                      · rw [if_neg c31] at H
                        have c31b0 : (t206 == 0) = false := beq_eq_false_iff_ne.mpr c31
                        have c31b1 : (t206 != 0) = true := bne_iff_ne.mpr c31
                        by_cases c32 : 1 + t193.size ≤ 9223372036854775807
                        · rw [if_pos c32] at H
                          have c32b0 := eq_true c32
                          have c32b1 : decide (1 + t193.size ≤ 9223372036854775807) = true := decide_eq_true c32
                          try have c32b2 : (9223372036854775807 < 1 + t193.size) = False := eq_false (Nat.not_lt.2 c32)
                          replace H := Option.bind_eq_some_iff.mp H
                          obtain ⟨⟨t210, t211⟩, A330, H⟩ := H
                          replace H : (if t210 = 30 then ((impl_ValidName.f k1 t193).bind fun t214 => (some (!t214))) else (some false)) = some r := H
                          have A33 := Aside0.mk A330
                          clear A330
                          by_cases c34 : t210 = 30
                          · rw [if_pos c34] at H
                            have c34b0 : (t210 == 30) = true := beq_iff_eq.mpr c34
                            have c34b1 : (t210 != 30) = false := bne_eq_false_iff_eq.mpr c34
                            clear c34
                            replace H := Option.bind_eq_some_iff.mp H
                            obtain ⟨t214, A350, H⟩ := H
                            replace H : (some (!t214)) = some r := H
                            have A35 := Aside0.mk A350
                            clear A350
                            obtain rfl := Option.some.inj H
                            have hcz36_0 : wr.cell? ⟨gb198, 0, none⟩ = some (.int .i64 t194) := (blk_cell BK198.out 0).trans rfl
                            have hcz36_1 : wr.cell? ⟨gb198, 1, none⟩ = some (.slice Ao12 t195.length co12) := (blk_cell BK198.out 1).trans rfl
                            have hfz36_0 := blk_frozen BK198.out 0
                            have hfz36_1 := blk_frozen BK198.out 1
                            go_wp2_with (first | (go_at_call 6; (with_reducible refine (impl_SplitPath.calls k1 (t193 ++ (⟨#[47]⟩ : ByteArray)) t206 t207 _ A30.out (hG0.below (by repeat (first | (with_reducible first | exact HB.out | apply below_alloc | apply pw_below_drewN | apply below_drew1 | refine below_set ?_ GE198.out) | exact HB.out)))).mono ?_); rintro e w37 ⟨v208, rfl, ho0, hb⟩; have n0_ := Aside0.mk (Kd.R_elder' (by (with_reducible repeat (first | apply Kd.R_alloc | apply Kd.R_drewN | apply Kd.R_drew)); exact HO_199001.out) (Kd.R_base ho0) hb); have n1_ := Aside0.mk (Kd.R_lower (Kd.R_new' ho0 (Kd.R_lt (by (with_reducible repeat (first | apply Kd.R_alloc | apply Kd.R_drewN | apply Kd.R_drew)); exact HO_199001.out))) (below_size (by repeat (first | (with_reducible first | exact HB.out | apply below_alloc | apply pw_below_drewN | apply below_drew1 | refine below_set ?_ GE198.out) | exact HB.out)))); have n2_ := Aside0.mk (blk_below (g := gb198) (o := .cells #[.int .i64 t194, .slice Ao12 t195.length co12] 24 (0, 0)) (by (with_reducible repeat (first | refine blk_drewN ?_ _ | refine blk_drew ?_ | refine blk_alloc ?_ _)); exact BK198.out) hb); have n3_ := Aside0.mk (below_step (by repeat (first | (with_reducible first | exact HB.out | apply below_alloc | apply pw_below_drewN | apply below_drew1 | refine below_set ?_ GE198.out) | exact HB.out)) hb); clear HO_199001; clear BK198; clear HB; have HO_199001 := n0_; have HO209 := n1_; have BK198 := n2_; have HB := n3_; clear n0_ n1_ n2_ n3_; (try clear hb); (try clear hb2); (try clear hk); (try clear hi); (try clear ho0)) | (go_at_call 6; (with_reducible refine (impl_SplitPath.calls k1 ((⟨#[120]⟩ : ByteArray) ++ t193) t210 t211 _ A33.out (hG0.below (by repeat (first | (with_reducible first | exact HB.out | apply below_alloc | apply pw_below_drewN | apply below_drew1 | refine below_set ?_ GE198.out) | exact HB.out)))).mono ?_); rintro e w38 ⟨v212, rfl, ho0, hb⟩; have n0_ := Aside0.mk (Kd.R_elder' (by (with_reducible repeat (first | apply Kd.R_alloc | apply Kd.R_drewN | apply Kd.R_drew)); exact HO_199001.out) (Kd.R_base ho0) hb); have n1_ := Aside0.mk (Kd.R_elder' (by (with_reducible repeat (first | apply Kd.R_alloc | apply Kd.R_drewN | apply Kd.R_drew)); exact HO209.out) (Kd.R_base ho0) hb); have n2_ := Aside0.mk (Kd.R_lower (Kd.R_new' (Kd.R_new' ho0 (Kd.R_lt (by (with_reducible repeat (first | apply Kd.R_alloc | apply Kd.R_drewN | apply Kd.R_drew)); exact HO_199001.out))) (Kd.R_lt (by (with_reducible repeat (first | apply Kd.R_alloc | apply Kd.R_drewN | apply Kd.R_drew)); exact HO209.out))) (below_size (by repeat (first | (with_reducible first | exact HB.out | apply below_alloc | apply pw_below_drewN | apply below_drew1 | refine below_set ?_ GE198.out) | exact HB.out)))); have n3_ := Aside0.mk (blk_below (g := gb198) (o := .cells #[.int .i64 t194, .slice Ao12 t195.length co12] 24 (0, 0)) (by (with_reducible repeat (first | refine blk_drewN ?_ _ | refine blk_drew ?_ | refine blk_alloc ?_ _)); exact BK198.out) hb); have n4_ := Aside0.mk (below_step (by repeat (first | (with_reducible first | exact HB.out | apply below_alloc | apply pw_below_drewN | apply below_drew1 | refine below_set ?_ GE198.out) | exact HB.out)) hb); clear HO_199001; clear HO209; clear BK198; clear HB; have HO_199001 := n0_; have HO209 := n1_; have HO213 := n2_; have BK198 := n3_; have HB := n4_; clear n0_ n1_ n2_ n3_ n4_; (try clear hb); (try clear hb2); (try clear hk); (try clear hi); (try clear ho0)) | (go_at_call 11; (with_reducible refine (impl_ValidName.calls k1 t193 t214 _ A35.out).mono ?_); rintro e w39 ⟨rfl, hb⟩; have n0_ := Aside0.mk (Kd.R_below (by (with_reducible repeat (first | apply Kd.R_alloc | apply Kd.R_drewN | apply Kd.R_drew)); exact HO_199001.out) hb); have n1_ := Aside0.mk (Kd.R_below (by (with_reducible repeat (first | apply Kd.R_alloc | apply Kd.R_drewN | apply Kd.R_drew)); exact HO209.out) hb); have n2_ := Aside0.mk (Kd.R_below (by (with_reducible repeat (first | apply Kd.R_alloc | apply Kd.R_drewN | apply Kd.R_drew)); exact HO213.out) hb); have n3_ := Aside0.mk (blk_below (g := gb198) (o := .cells #[.int .i64 t194, .slice Ao12 t195.length co12] 24 (0, 0)) (by (with_reducible repeat (first | refine blk_drewN ?_ _ | refine blk_drew ?_ | refine blk_alloc ?_ _)); exact BK198.out) hb); have n4_ := Aside0.mk (below_step (by repeat (first | (with_reducible first | exact HB.out | apply below_alloc | apply pw_below_drewN | apply below_drew1 | refine below_set ?_ GE198.out) | exact HB.out)) hb); clear HO_199001; clear HO209; clear HO213; clear BK198; clear HB; have HO_199001 := n0_; have HO209 := n1_; have HO213 := n2_; have BK198 := n3_; have HB := n4_; clear n0_ n1_ n2_ n3_ n4_; (try clear hb); (try clear hb2); (try clear hk); (try clear hi)))
                            go_ret
                            exact ⟨by first | rfl | (simp [errW_none, errW_some] <;> rfl) | (simp [*, errW_none, errW_some] <;> rfl), by repeat (first | (with_reducible first | exact HB.out | apply below_alloc | apply pw_below_drewN | apply below_drew1 | refine below_set ?_ GE198.out) | exact HB.out)⟩
                          · rw [if_neg c34] at H
                            have c34b0 : (t210 == 30) = false := beq_eq_false_iff_ne.mpr c34
                            have c34b1 : (t210 != 30) = true := bne_iff_ne.mpr c34
                            exact absurd ((Option.some.inj H).trans hrt.out) (by simp)
                        · rw [if_neg c32] at H
                          exact absurd H (by simp)
                    · rw [if_neg c29] at H
                      exact absurd H (by simp)
                  · rw [if_neg c28] at H
                    have c28b0 : decide ((t195.length : Int) ≤ 16) = false := decide_eq_false c28
                    have c28b1 : decide (t195.length ≤ 16) = false := decide_eq_false (by omega)
                    clear c28
                    exact absurd ((Option.some.inj H).trans hrt.out) (by simp)
                · rw [if_neg c27] at H
                  have c27b0 : (([47] : List UInt8) == t193.toList) = false := beq_eq_false_iff_ne.mpr c27
                  have c27b1 : (([47] : List UInt8) != t193.toList) = true := bne_iff_ne.mpr c27
                  exact absurd ((Option.some.inj H).trans hrt.out) (by simp)
              · rw [if_neg c26] at H
                have c26b0 : ((t195.length : Int) == 0) = false := beq_eq_false_iff_ne.mpr c26
                have c26b1 : ((t195.length : Int) != 0) = true := bne_iff_ne.mpr c26
                have c26b2 : ¬ (t195 = []) := fun h_ => c26 (by rw [h_]; rfl)
                by_cases c40 : x5_1.toList = t193.toList
                · rw [if_pos c40] at H
                  have c40b0 : (x5_1.toList == t193.toList) = true := beq_iff_eq.mpr c40
                  have c40b1 : (x5_1.toList != t193.toList) = false := bne_eq_false_iff_eq.mpr c40
                  clear c40
                  by_cases c41 : (t195.length : Int) ≤ 16
                  · rw [if_pos c41] at H
                    have c41b0 : decide ((t195.length : Int) ≤ 16) = true := decide_eq_true c41
                    have c41b1 : decide (t195.length ≤ 16) = true := decide_eq_true (by omega)
                    clear c41
                    by_cases c42 : t193.size + 1 ≤ 9223372036854775807
                    · rw [if_pos c42] at H
                      have c42b0 := eq_true c42
                      have c42b1 : decide (t193.size + 1 ≤ 9223372036854775807) = true := decide_eq_true c42
                      try have c42b2 : (9223372036854775807 < t193.size + 1) = False := eq_false (Nat.not_lt.2 c42)
                      replace H := Option.bind_eq_some_iff.mp H
                      obtain ⟨⟨t215, t216⟩, A430, H⟩ := H
                      replace H : (if t215 = 0 then (some false) else (if 1 + t193.size ≤ 9223372036854775807 then ((impl_SplitPath.f k1 ((⟨#[120]⟩ : ByteArray) ++ t193)).bind fun bt219 => (if bt219.1 = 30 then ((impl_ValidName.f k1 t193).bind fun t223 => (some (!t223))) else (some false))) else (none))) = some r := H
                      have A43 := Aside0.mk A430
                      clear A430
                      by_cases c44 : t215 = 0
                      · rw [if_pos c44] at H
                        have c44b0 : (t215 == 0) = true := beq_iff_eq.mpr c44
                        have c44b1 : (t215 != 0) = false := bne_eq_false_iff_eq.mpr c44
                        clear c44
                        exact absurd ((Option.some.inj H).trans hrt.out) (by simp)
                      · rw [if_neg c44] at H
                        have c44b0 : (t215 == 0) = false := beq_eq_false_iff_ne.mpr c44
                        have c44b1 : (t215 != 0) = true := bne_iff_ne.mpr c44
                        by_cases c45 : 1 + t193.size ≤ 9223372036854775807
                        · rw [if_pos c45] at H
                          have c45b0 := eq_true c45
                          have c45b1 : decide (1 + t193.size ≤ 9223372036854775807) = true := decide_eq_true c45
                          try have c45b2 : (9223372036854775807 < 1 + t193.size) = False := eq_false (Nat.not_lt.2 c45)
                          replace H := Option.bind_eq_some_iff.mp H
                          obtain ⟨⟨t219, t220⟩, A460, H⟩ := H
                          replace H : (if t219 = 30 then ((impl_ValidName.f k1 t193).bind fun t223 => (some (!t223))) else (some false)) = some r := H
                          have A46 := Aside0.mk A460
                          clear A460
                          by_cases c47 : t219 = 30
                          · rw [if_pos c47] at H
                            have c47b0 : (t219 == 30) = true := beq_iff_eq.mpr c47
                            have c47b1 : (t219 != 30) = false := bne_eq_false_iff_eq.mpr c47
                            clear c47
                            replace H := Option.bind_eq_some_iff.mp H
                            obtain ⟨t223, A480, H⟩ := H
                            replace H : (some (!t223)) = some r := H
                            have A48 := Aside0.mk A480
                            clear A480
                            obtain rfl := Option.some.inj H
                            have hcz49_0 : wr.cell? ⟨gb198, 0, none⟩ = some (.int .i64 t194) := (blk_cell BK198.out 0).trans rfl
                            have hcz49_1 : wr.cell? ⟨gb198, 1, none⟩ = some (.slice Ao12 t195.length co12) := (blk_cell BK198.out 1).trans rfl
                            have hfz49_0 := blk_frozen BK198.out 0
                            have hfz49_1 := blk_frozen BK198.out 1
                            go_wp2_with (first | (go_at_call 6; (with_reducible refine (impl_SplitPath.calls k1 (t193 ++ (⟨#[47]⟩ : ByteArray)) t215 t216 _ A43.out (hG0.below (by repeat (first | (with_reducible first | exact HB.out | apply below_alloc | apply pw_below_drewN | apply below_drew1 | refine below_set ?_ GE198.out) | exact HB.out)))).mono ?_); rintro e w50 ⟨v217, rfl, ho0, hb⟩; have n0_ := Aside0.mk (Kd.R_elder' (by (with_reducible repeat (first | apply Kd.R_alloc | apply Kd.R_drewN | apply Kd.R_drew)); exact HO_199001.out) (Kd.R_base ho0) hb); have n1_ := Aside0.mk (Kd.R_lower (Kd.R_new' ho0 (Kd.R_lt (by (with_reducible repeat (first | apply Kd.R_alloc | apply Kd.R_drewN | apply Kd.R_drew)); exact HO_199001.out))) (below_size (by repeat (first | (with_reducible first | exact HB.out | apply below_alloc | apply pw_below_drewN | apply below_drew1 | refine below_set ?_ GE198.out) | exact HB.out)))); have n2_ := Aside0.mk (blk_below (g := gb198) (o := .cells #[.int .i64 t194, .slice Ao12 t195.length co12] 24 (0, 0)) (by (with_reducible repeat (first | refine blk_drewN ?_ _ | refine blk_drew ?_ | refine blk_alloc ?_ _)); exact BK198.out) hb); have n3_ := Aside0.mk (below_step (by repeat (first | (with_reducible first | exact HB.out | apply below_alloc | apply pw_below_drewN | apply below_drew1 | refine below_set ?_ GE198.out) | exact HB.out)) hb); clear HO_199001; clear BK198; clear HB; have HO_199001 := n0_; have HO218 := n1_; have BK198 := n2_; have HB := n3_; clear n0_ n1_ n2_ n3_; (try clear hb); (try clear hb2); (try clear hk); (try clear hi); (try clear ho0)) | (go_at_call 6; (with_reducible refine (impl_SplitPath.calls k1 ((⟨#[120]⟩ : ByteArray) ++ t193) t219 t220 _ A46.out (hG0.below (by repeat (first | (with_reducible first | exact HB.out | apply below_alloc | apply pw_below_drewN | apply below_drew1 | refine below_set ?_ GE198.out) | exact HB.out)))).mono ?_); rintro e w51 ⟨v221, rfl, ho0, hb⟩; have n0_ := Aside0.mk (Kd.R_elder' (by (with_reducible repeat (first | apply Kd.R_alloc | apply Kd.R_drewN | apply Kd.R_drew)); exact HO_199001.out) (Kd.R_base ho0) hb); have n1_ := Aside0.mk (Kd.R_elder' (by (with_reducible repeat (first | apply Kd.R_alloc | apply Kd.R_drewN | apply Kd.R_drew)); exact HO218.out) (Kd.R_base ho0) hb); have n2_ := Aside0.mk (Kd.R_lower (Kd.R_new' (Kd.R_new' ho0 (Kd.R_lt (by (with_reducible repeat (first | apply Kd.R_alloc | apply Kd.R_drewN | apply Kd.R_drew)); exact HO_199001.out))) (Kd.R_lt (by (with_reducible repeat (first | apply Kd.R_alloc | apply Kd.R_drewN | apply Kd.R_drew)); exact HO218.out))) (below_size (by repeat (first | (with_reducible first | exact HB.out | apply below_alloc | apply pw_below_drewN | apply below_drew1 | refine below_set ?_ GE198.out) | exact HB.out)))); have n3_ := Aside0.mk (blk_below (g := gb198) (o := .cells #[.int .i64 t194, .slice Ao12 t195.length co12] 24 (0, 0)) (by (with_reducible repeat (first | refine blk_drewN ?_ _ | refine blk_drew ?_ | refine blk_alloc ?_ _)); exact BK198.out) hb); have n4_ := Aside0.mk (below_step (by repeat (first | (with_reducible first | exact HB.out | apply below_alloc | apply pw_below_drewN | apply below_drew1 | refine below_set ?_ GE198.out) | exact HB.out)) hb); clear HO_199001; clear HO218; clear BK198; clear HB; have HO_199001 := n0_; have HO218 := n1_; have HO222 := n2_; have BK198 := n3_; have HB := n4_; clear n0_ n1_ n2_ n3_ n4_; (try clear hb); (try clear hb2); (try clear hk); (try clear hi); (try clear ho0)) | (go_at_call 11; (with_reducible refine (impl_ValidName.calls k1 t193 t223 _ A48.out).mono ?_); rintro e w52 ⟨rfl, hb⟩; have n0_ := Aside0.mk (Kd.R_below (by (with_reducible repeat (first | apply Kd.R_alloc | apply Kd.R_drewN | apply Kd.R_drew)); exact HO_199001.out) hb); have n1_ := Aside0.mk (Kd.R_below (by (with_reducible repeat (first | apply Kd.R_alloc | apply Kd.R_drewN | apply Kd.R_drew)); exact HO218.out) hb); have n2_ := Aside0.mk (Kd.R_below (by (with_reducible repeat (first | apply Kd.R_alloc | apply Kd.R_drewN | apply Kd.R_drew)); exact HO222.out) hb); have n3_ := Aside0.mk (blk_below (g := gb198) (o := .cells #[.int .i64 t194, .slice Ao12 t195.length co12] 24 (0, 0)) (by (with_reducible repeat (first | refine blk_drewN ?_ _ | refine blk_drew ?_ | refine blk_alloc ?_ _)); exact BK198.out) hb); have n4_ := Aside0.mk (below_step (by repeat (first | (with_reducible first | exact HB.out | apply below_alloc | apply pw_below_drewN | apply below_drew1 | refine below_set ?_ GE198.out) | exact HB.out)) hb); clear HO_199001; clear HO218; clear HO222; clear BK198; clear HB; have HO_199001 := n0_; have HO218 := n1_; have HO222 := n2_; have BK198 := n3_; have HB := n4_; clear n0_ n1_ n2_ n3_ n4_; (try clear hb); (try clear hb2); (try clear hk); (try clear hi)))
                            go_ret
                            exact ⟨by first | rfl | (simp [errW_none, errW_some] <;> rfl) | (simp [*, errW_none, errW_some] <;> rfl), by repeat (first | (with_reducible first | exact HB.out | apply below_alloc | apply pw_below_drewN | apply below_drew1 | refine below_set ?_ GE198.out) | exact HB.out)⟩
                          · rw [if_neg c47] at H
                            have c47b0 : (t219 == 30) = false := beq_eq_false_iff_ne.mpr c47
                            have c47b1 : (t219 != 30) = true := bne_iff_ne.mpr c47
                            exact absurd ((Option.some.inj H).trans hrt.out) (by simp)
                        · rw [if_neg c45] at H
                          exact absurd H (by simp)
                    · rw [if_neg c42] at H
                      exact absurd H (by simp)
                  · rw [if_neg c41] at H
                    have c41b0 : decide ((t195.length : Int) ≤ 16) = false := decide_eq_false c41
                    have c41b1 : decide (t195.length ≤ 16) = false := decide_eq_false (by omega)
                    clear c41
                    exact absurd ((Option.some.inj H).trans hrt.out) (by simp)
                · rw [if_neg c40] at H
                  have c40b0 : (x5_1.toList == t193.toList) = false := beq_eq_false_iff_ne.mpr c40
                  have c40b1 : (x5_1.toList != t193.toList) = true := bne_iff_ne.mpr c40
                  exact absurd ((Option.some.inj H).trans hrt.out) (by simp)
      · rw [if_neg c7] at H
        have c7b0 : (t194 == 0) = false := beq_eq_false_iff_ne.mpr c7
        have c7b1 : (t194 != 0) = true := bne_iff_ne.mpr c7
        obtain rfl := Option.some.inj H
        go_enter Tryd.func4, Tryd.ntmps4
        try go_wp2_with (first | ((with_reducible refine gate_callee (f := 10) rfl ?_); refine goesL_ (some 11) rfl rfl Tryd.func10 (by kernel_rfl) rfl #[.slice A0 l0.length c0] rfl (by (try simp only [List.map_toArray, List.map_cons, List.map_nil]); first | done | rfl | (simp only [List.length_drop, List.length_take]; rfl)) ?_; (with_reducible refine (spec_DrawSplitPath.calls k _ _ l0 t193 _ ?side1 ?side2 A3.out).mono ?_); (case side1 => repeat (first | exact HR0.out | (with_reducible refine Kd.C_alloc ?_ _) | (with_reducible refine Kd.C_drewN ?_ _) | (with_reducible refine Kd.C_drew ?_))); (case side2 => exact HC0.out); rintro e w53 ⟨rfl, hb⟩; refine ⟨_, rfl, ?_⟩; have n0_ := Aside0.mk (below_step (by repeat (first | (with_reducible first | exact HB.out | apply below_alloc | apply pw_below_drewN | apply below_drew1) | exact HB.out)) hb); clear HB; have HB := n0_; clear n0_; (try clear hb); (try clear hb2); (try clear hk); (try clear hi)) | ((with_reducible refine gate_callee (f := 6) rfl ?_); refine goesL_ (some 13) rfl rfl Tryd.func6 (by kernel_rfl) rfl #[.string t193] rfl (by (try simp only [List.map_toArray, List.map_cons, List.map_nil]); first | done | rfl | (simp only [List.length_drop, List.length_take]; rfl)) ?_; (with_reducible refine (impl_SplitPath.calls k t193 t194 t195 _ A4.out (hG0.below (by repeat (first | (with_reducible first | exact HB.out | apply below_alloc | apply pw_below_drewN | apply below_drew1) | exact HB.out)))).mono ?_); rintro e w54 ⟨v196, rfl, ho0, hb⟩; refine ⟨_, rfl, ?_⟩; have n0_ := Aside0.mk (Kd.R_lower ho0 (below_size (by repeat (first | (with_reducible first | exact HB.out | apply below_alloc | apply pw_below_drewN | apply below_drew1) | exact HB.out)))); have n1_ := Aside0.mk (below_step (by repeat (first | (with_reducible first | exact HB.out | apply below_alloc | apply pw_below_drewN | apply below_drew1) | exact HB.out)) hb); clear HB; have HO197 := n0_; have HB := n1_; clear n0_ n1_; (try clear hb); (try clear hb2); (try clear hk); (try clear hi); (try clear ho0)) | ((with_reducible refine gate_dst (N := 4) rfl ?_); (try (refine gate_guard (by rfl) ?_; dsimp only)); refine box_event ?hg (N := 4) ?hd (cs := #[.int .i64 0, .slice none 0 0]) (t := 24) ?hr ?_; (case hd => rfl); (case hg => rfl); (case hr => first | (go_simp; done) | (go_simp; rfl)); intro gb198 hg w55 hbox hb; have n0_ := Aside0.mk (Kd.R_below (by (with_reducible repeat (first | apply Kd.R_alloc | apply Kd.R_drewN | apply Kd.R_drew)); exact HO197.out) hb); have n1_ := Aside0.mk (below_step (by repeat (first | (with_reducible first | exact HB.out | apply below_alloc | apply pw_below_drewN | apply below_drew1) | exact HB.out)) hb); have n2_ := Aside0.mk (hbox); have n3_ := Aside0.mk ((by rw [hg]; exact (below_size (by repeat (first | (with_reducible first | exact HB.out | apply below_alloc | apply pw_below_drewN | apply below_drew1) | exact HB.out))) : w.heap.size ≤ gb198)); have n4_ := Aside0.mk ((by rw [hg]; exact (below_size (by repeat (first | (with_reducible first | exact HB.out | apply below_alloc | apply pw_below_drewN | apply below_drew1) | exact HB.out))) : w.heap.size ≤ gb198)); clear HO197; clear HB; have HO197 := n0_; have HB := n1_; have BK198 := n2_; have GW198 := n3_; have GE198 := n4_; clear n0_ n1_ n2_ n3_ n4_; clear hb hbox hg; have hcz56_0 : w55.cell? ⟨gb198, 0, none⟩ = some (.int .i64 0) := (blk_cell BK198.out 0).trans rfl; have hcz56_1 : w55.cell? ⟨gb198, 1, none⟩ = some (.slice none 0 0) := (blk_cell BK198.out 1).trans rfl; have hfz56_0 := blk_frozen BK198.out 0; have hfz56_1 := blk_frozen BK198.out 1; obtain ⟨Ao57, co57, eo57⟩ := Kd.R_slice HO197.out; subst eo57))
        have n0_ : Aside0 (Kd.R Kd.string 9 ((w55.setCell ⟨gb198, 0, none⟩ (.int .i64 t194)).setCell ⟨gb198, 1, none⟩ (.slice Ao57 t195.length co57)) w.heap.size (fun _ => True) (.slice Ao57 t195.length co57) t195) := ⟨by (with_reducible repeat (first | apply Kd.R_alloc | apply Kd.R_drewN | apply Kd.R_drew)); exact Kd.R_mono (Kd.R_far (p := ⟨gb198, 1, none⟩) (Kd.R_far (p := ⟨gb198, 0, none⟩) (Kd.R_types HO197.out BK198.out (by decide)) (fun _ hk => hk.2) (.int .i64 t194)) (fun _ hk => hk.2) (.slice Ao57 t195.length co57)) (fun _ hk => trivial)⟩
        have n1_ : Aside0 (((w55.setCell ⟨gb198, 0, none⟩ (.int .i64 t194)).setCell ⟨gb198, 1, none⟩ (.slice Ao57 t195.length co57)).heap[gb198]? = some (.cells #[.int .i64 t194, .slice Ao57 t195.length co57] 24 (0, 0))) := ⟨by (with_reducible repeat (first | refine blk_drewN ?_ _ | refine blk_drew ?_ | refine blk_alloc ?_ _)); refine blk_put (cs := #[.int .i64 t194, .slice none 0 0]) ?_ 1 _ rfl; (with_reducible repeat (first | refine blk_drewN ?_ _ | refine blk_drew ?_ | refine blk_alloc ?_ _)); refine blk_put (cs := #[.int .i64 0, .slice none 0 0]) ?_ 0 _ rfl; (with_reducible repeat (first | refine blk_drewN ?_ _ | refine blk_drew ?_ | refine blk_alloc ?_ _)); exact BK198.out⟩
        have n2_ : Aside0 (Below w.heap.size w ((w55.setCell ⟨gb198, 0, none⟩ (.int .i64 t194)).setCell ⟨gb198, 1, none⟩ (.slice Ao57 t195.length co57))) := ⟨by repeat (first | (with_reducible first | exact HB.out | apply below_alloc | apply pw_below_drewN | apply below_drew1 | refine below_set ?_ GE198.out) | exact HB.out)⟩
        (try clear HO197)
        (try clear BK198)
        (try clear HB)
        generalize ((w55.setCell ⟨gb198, 0, none⟩ (.int .i64 t194)).setCell ⟨gb198, 1, none⟩ (.slice Ao57 t195.length co57)) = w58 at n0_ n1_ n2_ ⊢
        have HO197 := n0_
        have BK198 := n1_
        have HB := n2_
        clear n0_ n1_ n2_
        have n0_ := Aside0.mk (Kd.R_drew HO197.out)
        have n1_ := Aside0.mk (blk_drew BK198.out)
        have n2_ := Aside0.mk (below_drew1 HB.out)
        clear HO197
        clear BK198
        clear HB
        have HO197 := n0_
        have BK198 := n1_
        have HB := n2_
        clear n0_ n1_ n2_
        refine start_ (n := 6) (S := fun w' => w'.cell? ⟨gb198, 0, none⟩ = some (.int .i64 t194) ∧ w'.cell? ⟨gb198, 1, none⟩ = some (.slice Ao57 t195.length co57)) (ds := []) #[false, false, false, false, false, false] (by kernel_rfl) rfl rfl ⟨(blk_cell BK198.out 0).trans rfl, (blk_cell BK198.out 1).trans rfl⟩ (fun hHeld => ?_)
        generalize w58.drew = w59 at HO197 BK198 HB hHeld ⊢
        refine pure_ (i := 0) (N := some 14) (v := ?_) (a' := ?_) #[true, false, false, false, false, false] rfl rfl (by kernel_rfl) (fun _ _ _ h => h) (Or.inl ⟨by rfl, ?_⟩) ?_ ?_
        rotate_left
        · intro w'
          go_simp
          with_reducible rfl
        rotate_left
        · simp only [Act.put, List.setIfInBounds_toArray, List.set_cons_zero, List.set_cons_succ, i64_w, i32_w]
          rfl
        refine pure_ (i := 2) (N := some 16) (v := ?_) (a' := ?_) #[true, false, true, false, false, false] rfl rfl (by kernel_rfl) (fun _ _ _ h => h) (Or.inl ⟨by rfl, ?_⟩) ?_ ?_
        rotate_left
        · intro w'
          go_simp
          with_reducible rfl
        rotate_left
        · simp only [Act.put, List.setIfInBounds_toArray, List.set_cons_zero, List.set_cons_succ, i64_w, i32_w]
          rfl
        refine take_ (i := 1) (N := some 15) (v := ?_) (a' := ?_) #[true, true, true, false, false, false] rfl rfl (by kernel_rfl) (fun _ _ _ h => h) (Or.inl ⟨by rfl, ?_⟩) hHeld ?_ ?_
        rotate_left
        · rintro w' ⟨s0, s1⟩
          go_simp
          with_reducible rfl
        rotate_left
        · simp only [Act.put, List.setIfInBounds_toArray, List.set_cons_zero, List.set_cons_succ, i64_w, i32_w]
          rfl
        refine one_ (i := 3) (N := some 17) #[true, true, true, true, false, false] rfl rfl (by kernel_rfl) (by decide) (fun K hK => ?_)
        refine goes_ Tryd.func5 (by kernel_rfl) rfl #[.string t193] (by rfl) rfl rfl (by (try simp only [List.map_toArray, List.map_cons, List.map_nil]); first | done | rfl | (simp only [List.length_drop, List.length_take]; rfl)) ?_
        with_reducible refine (spec_SplitPath.calls k t193 t199 t200 _ A5.out).mono ?_
        rintro e w60 ⟨v201, rfl, ho0, hb⟩
        refine ⟨_, rfl, ?_⟩
        have n0_ := Aside0.mk (Kd.R_elder' (by (with_reducible repeat (first | apply Kd.R_alloc | apply Kd.R_drewN | apply Kd.R_drew)); exact HO197.out) (Kd.R_base ho0) hb)
        have n1_ := Aside0.mk (Kd.R_lower (Kd.R_new' ho0 (Kd.R_lt (by (with_reducible repeat (first | apply Kd.R_alloc | apply Kd.R_drewN | apply Kd.R_drew)); exact HO197.out))) (below_size (by repeat (first | (with_reducible first | exact HB.out | apply below_alloc | apply pw_below_drewN | apply below_drew1 | refine below_set ?_ GE198.out) | exact HB.out))))
        have n2_ := Aside0.mk (blk_below (g := gb198) (o := .cells #[.int .i64 t194, .slice Ao57 t195.length co57] 24 (0, 0)) (by (with_reducible repeat (first | refine blk_drewN ?_ _ | refine blk_drew ?_ | refine blk_alloc ?_ _)); exact BK198.out) hb)
        have n3_ := Aside0.mk (below_step (by repeat (first | (with_reducible first | exact HB.out | apply below_alloc | apply pw_below_drewN | apply below_drew1 | refine below_set ?_ GE198.out) | exact HB.out)) hb)
        clear HO197
        clear BK198
        clear HB
        have HO197 := n0_
        have HO202 := n1_
        have BK198 := n2_
        have HB := n3_
        clear n0_ n1_ n2_ n3_
        (try clear hb)
        (try clear hb2)
        (try clear hk)
        (try clear hi)
        (try clear ho0)
        refine hK.out _ _ ⟨(blk_cell BK198.out 0).trans rfl, (blk_cell BK198.out 1).trans rfl⟩ (fun hHeld => ?_)
        clear hK K
        refine norm_ (a' := ?_) ?_ ?_
        rotate_left
        · show Act.put _ (some 17) _ = _
          simp only [Act.put, List.setIfInBounds_toArray, List.set_cons_zero, List.set_cons_succ, i64_w, i32_w]
          rfl
        refine pure_ (i := 4) (N := some 18) (v := ?_) (a' := ?_) #[true, true, true, true, true, false] rfl rfl (by kernel_rfl) (fun _ _ _ h => h) (Or.inl ⟨by rfl, ?_⟩) ?_ ?_
        rotate_left
        · intro w'
          go_simp
          with_reducible rfl
        rotate_left
        · simp only [Act.put, List.setIfInBounds_toArray, List.set_cons_zero, List.set_cons_succ, i64_w, i32_w]
          rfl
        refine pure_ (i := 5) (N := some 19) (v := ?_) (a' := ?_) #[true, true, true, true, true, true] rfl rfl (by kernel_rfl) (fun _ _ _ h => h) (Or.inl ⟨by rfl, ?_⟩) ?_ ?_
        rotate_left
        · intro w'
          go_simp
          with_reducible rfl
        rotate_left
        · simp only [Act.put, List.setIfInBounds_toArray, List.set_cons_zero, List.set_cons_succ, i64_w, i32_w]
          rfl
        refine done_ (by kernel_rfl) ?_
        have hcz61_0 : w60.cell? ⟨gb198, 0, none⟩ = some (.int .i64 t194) := (blk_cell BK198.out 0).trans rfl
        have hcz61_1 : w60.cell? ⟨gb198, 1, none⟩ = some (.slice Ao57 t195.length co57) := (blk_cell BK198.out 1).trans rfl
        have hfz61_0 := blk_frozen BK198.out 0
        have hfz61_1 := blk_frozen BK198.out 1
        try go_wp2
        go_ret
        exact ⟨by first | rfl | (simp [errW_none, errW_some] <;> rfl) | (simp [*, errW_none, errW_some] <;> rfl), by repeat (first | (with_reducible first | exact HB.out | apply below_alloc | apply pw_below_drewN | apply below_drew1 | refine below_set ?_ GE198.out) | exact HB.out)⟩
    · rw [if_neg c6] at H
      have c6b0 : (t194 == t199) = false := beq_eq_false_iff_ne.mpr c6
      have c6b1 : (t194 != t199) = true := bne_iff_ne.mpr c6
      exact absurd ((Option.some.inj H).trans hrt.out) (by simp)

/-- THE ONE PURE STATEMENT of laws_FnPaths: yours. -/
def laws_FnPaths.Pure : Prop := ∀ (l0 : List Int), l0.length ≤ maxLen → l0.length * 1 ≤ 140737488351232 → (∀ x ∈ l0, (Lit.int .u8 x).wf = true) → ∃ k, laws_FnPaths.f k l0 = some true
theorem laws_FnPaths.walk (P : laws_FnPaths.Pure) (a0 : Option Addr) (len0 cap0 : Nat) (z0 : List Int) (w : World) (hG0 : GlobM w) (w0 : (a0 = none ∧ len0 = 0 ∧ cap0 = 0 ∧ z0 = []) ∨ ∃ x, a0 = some x ∧ len0 ≤ cap0 ∧ cap0 ≤ maxLen ∧ z0.length = cap0 ∧ (∀ i, i < z0.length → w.cell? (x.add i) = some (.int .u8 (z0.getD i 0))) ∧ ∀ n ∈ z0, (Lit.int .u8 n).wf = true) (y0 : len0 * 1 ≤ 140737488351232) :
    Calls Tryd.prog 4 #[.slice a0 len0 cap0] w fun e w' => e = .returned (.bool true) ∧ Below w.heap.size w w' := by
  obtain ⟨l0, rfl, hr0, hm0, hw0, hc0⟩ := ReadsInt.ofRowC w0
  obtain ⟨k, h⟩ := P l0 hm0 y0 hw0
  refine (laws_FnPaths.calls k _ _ l0 true w (Kd.C_of_reads (d := (0 : Int)) (h1 := fun _ => rfl) hr0) hc0 h ⟨rfl⟩ hG0).mono ?_
  rintro e w' ⟨rfl, hd⟩
  exact ⟨rfl, hd⟩

end Go.Proofs.YtjaiolojmglmiaaDoor.PFnPaths
