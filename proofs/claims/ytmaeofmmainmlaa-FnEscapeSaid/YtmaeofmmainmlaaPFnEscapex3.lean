-- written by a program of this session (wip/src/print2.py)
import Derived.Test.YtmaeofmmainmlaaPFnEscapex0
import Derived.Test.YtmaeofmmainmlaaPFnEscapex1
import Derived.Test.YtmaeofmmainmlaaPFnEscapex2
namespace Go.Proofs.Ytmaeofmmainmlaa.PFnEscape
open Go.RowKit Go.Proofs.YtmaeofmmainmlaaW.PrintWords Go.Proofs.YtmaeofmmainmlaaW.PrintLast Go.Proofs.YtmaeofmmainmlaaW.PrintMore
attribute [local go_sem] max2_int min2_int max_two min_two max_three min_three max_four min_four   -- for this text's walks alone
set_option linter.unusedVariables false
set_option linter.unusedSimpArgs false

/-! ### laws_FnEscape: function 5 -/
mutual
def laws_FnEscape.j0 : Nat → List Int → Bool → Bool → List Int → Bool → Option (Bool)
  | 0, _, _, _, _, _ => none
  | k + 1, x3, x5, x180000, x180001, x180002 => if x180000 = true then (if (x180001.length : Int) = 64 then (if (x180002 != x5) = true then (laws_FnEscape.j1 k x3 x5 true x180000 x180001 x180002) else ((impl_BlockKind.f x180001).bind fun t184 => (laws_FnEscape.j1 k x3 x5 (t184 != 0) x180000 x180001 x180002))) else (laws_FnEscape.j1 k x3 x5 true x180000 x180001 x180002)) else (laws_FnEscape.j1 k x3 x5 true x180000 x180001 x180002)
def laws_FnEscape.j1 : Nat → List Int → Bool → Bool → Bool → List Int → Bool → Option (Bool)
  | 0, _, _, _, _, _, _ => none
  | k + 1, x3, x5, x71, x180000, x180001, x180002 => if x71 = true then (some false) else ((some (([] : List Int) : List Int)).bind fun y185 => (if y185.length + x180001.length < 140737488355328 then ((impl_Unescape.f (y185 ++ x180001) x180002).bind fun t191 => (if 0 < (x3.length : Int) then (if (rd x3 0) = 0 then (if 1 < (x3.length : Int) then (if (rd x3 1) = 0 then (if 2 < (x3.length : Int) then (if (rd x3 2) = 0 then (if 3 < (x3.length : Int) then ((some (([] : List Int) : List Int)).bind fun y198 => (if y198.length + x3.length < 140737488355328 then ((impl_Unescape.f (y198 ++ x3) (!x5)).bind fun t204 => ((laws_lwSameBytes.f t191 x3).bind fun t207 => (if t207 = true then (some ((decide ((t204.length : Int) > 0)) == ((rd x3 3) == 0))) else (some false)))) else (none))) else (none)) else ((some (([] : List Int) : List Int)).bind fun y208 => (if y208.length + x3.length < 140737488355328 then ((impl_Unescape.f (y208 ++ x3) (!x5)).bind fun t214 => ((laws_lwSameBytes.f t191 x3).bind fun t217 => (if t217 = true then (some ((decide ((t214.length : Int) > 0)) == false)) else (some false)))) else (none)))) else (none)) else ((some (([] : List Int) : List Int)).bind fun y218 => (if y218.length + x3.length < 140737488355328 then ((impl_Unescape.f (y218 ++ x3) (!x5)).bind fun t224 => ((laws_lwSameBytes.f t191 x3).bind fun t227 => (if t227 = true then (some ((decide ((t224.length : Int) > 0)) == false)) else (some false)))) else (none)))) else (none)) else ((some (([] : List Int) : List Int)).bind fun y228 => (if y228.length + x3.length < 140737488355328 then ((impl_Unescape.f (y228 ++ x3) (!x5)).bind fun t234 => ((laws_lwSameBytes.f t191 x3).bind fun t237 => (if t237 = true then (some ((decide ((t234.length : Int) > 0)) == false)) else (some false)))) else (none)))) else (none))) else (none)))
end
def laws_FnEscape.f (k : Nat) (l0 : List Int) : Option (Bool) := if (l0.length : Int) > 1048576 then (some true) else ((spec_DrawEscape.f k l0).bind fun t168 => ((spec_DrawEscape.f k l0).bind fun t171 => ((impl_Escape.f t171).bind fun bt174 => (if (t168.length : Int) = 64 then (if 0 < (t168.length : Int) then (if (rd t168 0) = 106 then (if 1 < (t168.length : Int) then (if (rd t168 1) = 108 then (if 2 < (t168.length : Int) then (if (rd t168 2) = 111 then (if 3 < (t168.length : Int) then (laws_FnEscape.j0 k t168 ((rd t168 3) == 103) bt174.1 bt174.2.1 bt174.2.2) else (none)) else (laws_FnEscape.j0 k t168 false bt174.1 bt174.2.1 bt174.2.2)) else (none)) else (laws_FnEscape.j0 k t168 false bt174.1 bt174.2.1 bt174.2.2)) else (none)) else (laws_FnEscape.j0 k t168 false bt174.1 bt174.2.1 bt174.2.2)) else (none)) else (if bt174.1 = true then (some false) else (some ((bt174.2.1.length : Int) == 0)))))))
theorem laws_FnEscape.mono_l : ∀ k, (∀ y0 y1 y2 y3 y4, LeO (laws_FnEscape.j0 k y0 y1 y2 y3 y4) (laws_FnEscape.j0 (k + 1) y0 y1 y2 y3 y4)) ∧ (∀ y0 y1 y2 y3 y4 y5, LeO (laws_FnEscape.j1 k y0 y1 y2 y3 y4 y5) (laws_FnEscape.j1 (k + 1) y0 y1 y2 y3 y4 y5))
  | 0 => ⟨fun _ _ _ _ _ r h => by simp [laws_FnEscape.j0] at h, fun _ _ _ _ _ _ r h => by simp [laws_FnEscape.j1] at h⟩
  | k + 1 => by
    obtain ⟨ih0, ih1⟩ := laws_FnEscape.mono_l k
    refine ⟨?_, ?_⟩
    · intro y0 y1 y2 y3 y4
      unfold laws_FnEscape.j0
      repeat' first
      | (with_reducible exact ih0 _ _ _ _ _)
      | (with_reducible exact ih1 _ _ _ _ _ _)
      | (with_reducible exact spec_DrawEscape.mono _ _)
      | (with_reducible exact LeO.refl _)
      | (with_reducible exact LeO.none _)
      | (with_reducible refine LeO.ite ?_ ?_)
      | (with_reducible refine LeO.bind ?_ (fun _ => ?_))
      | exact ih0 _ _ _ _ _
      | exact ih1 _ _ _ _ _ _
      | exact spec_DrawEscape.mono _ _
      | exact LeO.none _
      | refine LeO.ite ?_ ?_
      | refine LeO.bind ?_ (fun _ => ?_)
    · intro y0 y1 y2 y3 y4 y5
      unfold laws_FnEscape.j1
      repeat' first
      | (with_reducible exact ih0 _ _ _ _ _)
      | (with_reducible exact ih1 _ _ _ _ _ _)
      | (with_reducible exact spec_DrawEscape.mono _ _)
      | (with_reducible exact LeO.refl _)
      | (with_reducible exact LeO.none _)
      | (with_reducible refine LeO.ite ?_ ?_)
      | (with_reducible refine LeO.bind ?_ (fun _ => ?_))
      | exact ih0 _ _ _ _ _
      | exact ih1 _ _ _ _ _ _
      | exact spec_DrawEscape.mono _ _
      | exact LeO.none _
      | refine LeO.ite ?_ ?_
      | refine LeO.bind ?_ (fun _ => ?_)
theorem laws_FnEscape.mono : ∀ a0 k, LeO (laws_FnEscape.f k a0) (laws_FnEscape.f (k + 1) a0) := by
  intro a0 k
  obtain ⟨ih0, ih1⟩ := laws_FnEscape.mono_l k
  unfold laws_FnEscape.f
  repeat' first
      | (with_reducible exact ih0 _ _ _ _ _)
      | (with_reducible exact ih1 _ _ _ _ _ _)
      | (with_reducible exact spec_DrawEscape.mono _ _)
      | (with_reducible exact LeO.refl _)
      | (with_reducible exact LeO.none _)
      | (with_reducible refine LeO.ite ?_ ?_)
      | (with_reducible refine LeO.bind ?_ (fun _ => ?_))
      | exact ih0 _ _ _ _ _
      | exact ih1 _ _ _ _ _ _
      | exact spec_DrawEscape.mono _ _
      | exact LeO.none _
      | refine LeO.ite ?_ ?_
      | refine LeO.bind ?_ (fun _ => ?_)
def laws_FnEscape.T10 : Bool × List (List Nat × List Nat) := (true, [([], []), ([], []), ([1], [1]), ([0, 2], [0, 2]), ([], []), ([4], [4]), ([3, 5, 3], [3, 5]), ([6, 6, 0, 1, 2, 3, 4, 5, 6], [6])])
def laws_FnEscape.B10 : List Nat := [0, 0, 2, 7, 0, 16, 63, 127]
theorem laws_FnEscape.tab10 : rtab .any (opsOf Try.f5 10) = laws_FnEscape.T10 := by kernel_rfl
theorem laws_FnEscape.bits10 : waitsOk laws_FnEscape.T10.2 laws_FnEscape.B10 = true := by kernel_rfl
set_option maxHeartbeats 8000000 in
set_option maxRecDepth 100000 in
theorem laws_FnEscape.calls (k : Nat) (A0 : Option Addr) (c0 : Nat) (l0 : List Int) (r : Bool) (w : World) (hr0 : Kd.C (Kd.int .u8) w A0 l0.length l0) (hc0 : l0.length ≤ c0) (h : laws_FnEscape.f k l0 = some r) (hrt : Aside0 (r = true)) :
    Calls Try.prog 5 #[.slice A0 l0.length c0] w fun e w' => e = .returned (.bool r) ∧ Below w.heap.size w w' := by
  have hu29 := Try.underlying29
  have HR0 := Aside0.mk hr0
  have HC0 := Aside0.mk hc0
  clear hr0 hc0
  have HB := Aside0.mk (Below.refl w.heap.size w)
  have H : (if (l0.length : Int) > 1048576 then (some true) else ((spec_DrawEscape.f k l0).bind fun t168 => ((spec_DrawEscape.f k l0).bind fun t171 => ((impl_Escape.f t171).bind fun bt174 => (if (t168.length : Int) = 64 then (if 0 < (t168.length : Int) then (if (rd t168 0) = 106 then (if 1 < (t168.length : Int) then (if (rd t168 1) = 108 then (if 2 < (t168.length : Int) then (if (rd t168 2) = 111 then (if 3 < (t168.length : Int) then (laws_FnEscape.j0 k t168 ((rd t168 3) == 103) bt174.1 bt174.2.1 bt174.2.2) else (none)) else (laws_FnEscape.j0 k t168 false bt174.1 bt174.2.1 bt174.2.2)) else (none)) else (laws_FnEscape.j0 k t168 false bt174.1 bt174.2.1 bt174.2.2)) else (none)) else (laws_FnEscape.j0 k t168 false bt174.1 bt174.2.1 bt174.2.2)) else (none)) else (if bt174.1 = true then (some false) else (some ((bt174.2.1.length : Int) == 0)))))))) = some r := h
  clear h
  by_cases c2 : (l0.length : Int) > 1048576
  · rw [if_pos c2] at H
    have c2b0 : decide (1048576 < (l0.length : Int)) = true := decide_eq_true c2
    have c2b1 : decide (1048576 < l0.length) = true := decide_eq_true (by omega)
    clear c2
    obtain rfl := Option.some.inj H
    go_enter Try.func5, Try.ntmps5
    go_wp2
    go_ret
    exact ⟨by first | rfl | (simp [errW_none, errW_some] <;> rfl) | (simp [*, errW_none, errW_some] <;> rfl), by repeat (first | (with_reducible first | exact HB.out | apply below_alloc | apply pw_below_drewN | apply below_drew1) | exact HB.out)⟩
  · rw [if_neg c2] at H
    have c2b0 : decide (1048576 < (l0.length : Int)) = false := decide_eq_false c2
    have c2b1 : decide (1048576 < l0.length) = false := decide_eq_false (by omega)
    clear c2
    replace H := Option.bind_eq_some_iff.mp H
    obtain ⟨t168, A30, H⟩ := H
    replace H : ((spec_DrawEscape.f k l0).bind fun t171 => ((impl_Escape.f t171).bind fun bt174 => (if (t168.length : Int) = 64 then (if 0 < (t168.length : Int) then (if (rd t168 0) = 106 then (if 1 < (t168.length : Int) then (if (rd t168 1) = 108 then (if 2 < (t168.length : Int) then (if (rd t168 2) = 111 then (if 3 < (t168.length : Int) then (laws_FnEscape.j0 k t168 ((rd t168 3) == 103) bt174.1 bt174.2.1 bt174.2.2) else (none)) else (laws_FnEscape.j0 k t168 false bt174.1 bt174.2.1 bt174.2.2)) else (none)) else (laws_FnEscape.j0 k t168 false bt174.1 bt174.2.1 bt174.2.2)) else (none)) else (laws_FnEscape.j0 k t168 false bt174.1 bt174.2.1 bt174.2.2)) else (none)) else (if bt174.1 = true then (some false) else (some ((bt174.2.1.length : Int) == 0)))))) = some r := H
    have A3 := Aside0.mk A30
    clear A30
    replace H := Option.bind_eq_some_iff.mp H
    obtain ⟨t171, A40, H⟩ := H
    replace H : ((impl_Escape.f t171).bind fun bt174 => (if (t168.length : Int) = 64 then (if 0 < (t168.length : Int) then (if (rd t168 0) = 106 then (if 1 < (t168.length : Int) then (if (rd t168 1) = 108 then (if 2 < (t168.length : Int) then (if (rd t168 2) = 111 then (if 3 < (t168.length : Int) then (laws_FnEscape.j0 k t168 ((rd t168 3) == 103) bt174.1 bt174.2.1 bt174.2.2) else (none)) else (laws_FnEscape.j0 k t168 false bt174.1 bt174.2.1 bt174.2.2)) else (none)) else (laws_FnEscape.j0 k t168 false bt174.1 bt174.2.1 bt174.2.2)) else (none)) else (laws_FnEscape.j0 k t168 false bt174.1 bt174.2.1 bt174.2.2)) else (none)) else (if bt174.1 = true then (some false) else (some ((bt174.2.1.length : Int) == 0))))) = some r := H
    have A4 := Aside0.mk A40
    clear A40
    replace H := Option.bind_eq_some_iff.mp H
    obtain ⟨⟨t174, t175, t178⟩, A50, H⟩ := H
    replace H : (if (t168.length : Int) = 64 then (if 0 < (t168.length : Int) then (if (rd t168 0) = 106 then (if 1 < (t168.length : Int) then (if (rd t168 1) = 108 then (if 2 < (t168.length : Int) then (if (rd t168 2) = 111 then (if 3 < (t168.length : Int) then (laws_FnEscape.j0 k t168 ((rd t168 3) == 103) t174 t175 t178) else (none)) else (laws_FnEscape.j0 k t168 false t174 t175 t178)) else (none)) else (laws_FnEscape.j0 k t168 false t174 t175 t178)) else (none)) else (laws_FnEscape.j0 k t168 false t174 t175 t178)) else (none)) else (if t174 = true then (some false) else (some ((t175.length : Int) == 0)))) = some r := H
    have A5 := Aside0.mk A50
    clear A50
    by_cases c6 : (t168.length : Int) = 64
    · rw [if_pos c6] at H
      have c6b0 : ((t168.length : Int) == 64) = true := beq_iff_eq.mpr c6
      have c6b1 : ((t168.length : Int) != 64) = false := bne_eq_false_iff_eq.mpr c6
      clear c6
      have HC7 := Aside0.mk H
      clear H
      go_enter Try.func5, Try.ntmps5
      go_upto_region 7 with (first | ((with_reducible refine gate_callee (f := 26) rfl ?_); refine goesL_ (some 13) rfl rfl Try.func26 (by kernel_rfl) rfl #[.slice A0 l0.length c0] rfl (by (try simp only [List.map_toArray, List.map_cons, List.map_nil]); first | done | rfl | (simp only [List.length_drop, List.length_take]; rfl)) ?_; (with_reducible refine (spec_DrawEscape.calls k _ _ l0 t168 _ ?side1 ?side2 A3.out).mono ?_); (case side1 => repeat (first | exact HR0.out | (with_reducible refine Kd.C_alloc ?_ _) | (with_reducible refine Kd.C_drewN ?_ _) | (with_reducible refine Kd.C_drew ?_))); (case side2 => exact HC0.out); rintro e w8 ⟨v169, rfl, ho0, hb⟩; refine ⟨_, rfl, ?_⟩; have n0_ := Aside0.mk (Kd.R_lower ho0 (below_size (by repeat (first | (with_reducible first | exact HB.out | apply below_alloc | apply pw_below_drewN | apply below_drew1) | exact HB.out)))); have n1_ := Aside0.mk (below_step (by repeat (first | (with_reducible first | exact HB.out | apply below_alloc | apply pw_below_drewN | apply below_drew1) | exact HB.out)) hb); clear HB; have HO170 := n0_; have HB := n1_; clear n0_ n1_; (try clear hb); (try clear hb2); (try clear hk); (try clear hi); (try clear ho0)) | ((with_reducible refine gate_callee (f := 26) rfl ?_); refine goesL_ (some 15) rfl rfl Try.func26 (by kernel_rfl) rfl #[.slice A0 l0.length c0] rfl (by (try simp only [List.map_toArray, List.map_cons, List.map_nil]); first | done | rfl | (simp only [List.length_drop, List.length_take]; rfl)) ?_; (with_reducible refine (spec_DrawEscape.calls k _ _ l0 t171 _ ?side1 ?side2 A4.out).mono ?_); (case side1 => repeat (first | exact (Kd.C_below HR0.out HB.out) | (with_reducible refine Kd.C_alloc ?_ _) | (with_reducible refine Kd.C_drewN ?_ _) | (with_reducible refine Kd.C_drew ?_))); (case side2 => exact HC0.out); rintro e w9 ⟨v172, rfl, ho0, hb⟩; refine ⟨_, rfl, ?_⟩; have n0_ := Aside0.mk (Kd.R_elder' (by (with_reducible repeat (first | apply Kd.R_alloc | apply Kd.R_drewN | apply Kd.R_drew)); exact HO170.out) (Kd.R_base ho0) hb); have n1_ := Aside0.mk (Kd.R_lower (Kd.R_new' ho0 (Kd.R_lt (by (with_reducible repeat (first | apply Kd.R_alloc | apply Kd.R_drewN | apply Kd.R_drew)); exact HO170.out))) (below_size (by repeat (first | (with_reducible first | exact HB.out | apply below_alloc | apply pw_below_drewN | apply below_drew1) | exact HB.out)))); have n2_ := Aside0.mk (below_step (by repeat (first | (with_reducible first | exact HB.out | apply below_alloc | apply pw_below_drewN | apply below_drew1) | exact HB.out)) hb); clear HO170; clear HB; have HO170 := n0_; have HO173 := n1_; have HB := n2_; clear n0_ n1_ n2_; (try clear hb); (try clear hb2); (try clear hk); (try clear hi); (try clear ho0); obtain ⟨Ao10, co10, eo10⟩ := Kd.R_slice HO173.out; subst eo10) | ((with_reducible refine gate_callee (f := 22) rfl ?_); refine goesL_ (some 16) rfl rfl Try.func22 (by kernel_rfl) rfl #[.slice Ao10 t171.length co10] rfl (by (try simp only [List.map_toArray, List.map_cons, List.map_nil]); first | done | rfl | (simp only [List.length_drop, List.length_take]; rfl)) ?_; (with_reducible refine (impl_Escape.calls _ _ t171 t174 t175 t178 _ ?side1 ?side2 A5.out).mono ?_); (case side1 => repeat (first | exact (Kd.R_reads' HO173.out).2.2 | (with_reducible refine Kd.C_alloc ?_ _) | (with_reducible refine Kd.C_drewN ?_ _) | (with_reducible refine Kd.C_drew ?_))); (case side2 => exact (Kd.R_reads' HO173.out).2.1); rintro e w11 ⟨v176, rfl, ho0, hb⟩; refine ⟨_, rfl, ?_⟩; have n0_ := Aside0.mk (Kd.R_elder' (by (with_reducible repeat (first | apply Kd.R_alloc | apply Kd.R_drewN | apply Kd.R_drew)); exact HO170.out) (Kd.R_base ho0) hb); have n1_ := Aside0.mk (Kd.R_elder' (by (with_reducible repeat (first | apply Kd.R_alloc | apply Kd.R_drewN | apply Kd.R_drew)); exact HO173.out) (Kd.R_base ho0) hb); have n2_ := Aside0.mk (Kd.R_lower (Kd.R_new' (Kd.R_new' ho0 (Kd.R_lt (by (with_reducible repeat (first | apply Kd.R_alloc | apply Kd.R_drewN | apply Kd.R_drew)); exact HO170.out))) (Kd.R_lt (by (with_reducible repeat (first | apply Kd.R_alloc | apply Kd.R_drewN | apply Kd.R_drew)); exact HO173.out))) (below_size (by repeat (first | (with_reducible first | exact HB.out | apply below_alloc | apply pw_below_drewN | apply below_drew1) | exact HB.out)))); have n3_ := Aside0.mk (below_step (by repeat (first | (with_reducible first | exact HB.out | apply below_alloc | apply pw_below_drewN | apply below_drew1) | exact HB.out)) hb); clear HO170; clear HO173; clear HB; have HO170 := n0_; have HO173 := n1_; have HO177 := n2_; have HB := n3_; clear n0_ n1_ n2_ n3_; (try clear hb); (try clear hb2); (try clear hk); (try clear hi); (try clear ho0)) | ((with_reducible refine gate_dst (N := 4) rfl ?_); (try (refine gate_guard (by rfl) ?_; dsimp only)); refine box_event ?hg (N := 4) ?hd (cs := #[.bool false, .slice none 0 0, .bool false]) (t := 29) ?hr ?_; (case hd => rfl); (case hg => rfl); (case hr => first | (go_simp; done) | (go_simp; rfl)); intro gb179 hg w12 hbox hb; have n0_ := Aside0.mk (Kd.R_below (by (with_reducible repeat (first | apply Kd.R_alloc | apply Kd.R_drewN | apply Kd.R_drew)); exact HO170.out) hb); have n1_ := Aside0.mk (Kd.R_below (by (with_reducible repeat (first | apply Kd.R_alloc | apply Kd.R_drewN | apply Kd.R_drew)); exact HO173.out) hb); have n2_ := Aside0.mk (Kd.R_below (by (with_reducible repeat (first | apply Kd.R_alloc | apply Kd.R_drewN | apply Kd.R_drew)); exact HO177.out) hb); have n3_ := Aside0.mk (below_step (by repeat (first | (with_reducible first | exact HB.out | apply below_alloc | apply pw_below_drewN | apply below_drew1) | exact HB.out)) hb); have n4_ := Aside0.mk (hbox); have n5_ := Aside0.mk ((by rw [hg]; exact (below_size (by repeat (first | (with_reducible first | exact HB.out | apply below_alloc | apply pw_below_drewN | apply below_drew1) | exact HB.out))) : w.heap.size ≤ gb179)); have n6_ := Aside0.mk ((by rw [hg]; exact (below_size (by repeat (first | (with_reducible first | exact HB.out | apply below_alloc | apply pw_below_drewN | apply below_drew1) | exact HB.out))) : w.heap.size ≤ gb179)); clear HO170; clear HO173; clear HO177; clear HB; have HO170 := n0_; have HO173 := n1_; have HO177 := n2_; have HB := n3_; have BK179 := n4_; have GW179 := n5_; have GE179 := n6_; clear n0_ n1_ n2_ n3_ n4_ n5_ n6_; clear hb hbox hg; have hcz13_0 : w12.cell? ⟨gb179, 0, none⟩ = some (.bool false) := (blk_cell BK179.out 0).trans rfl; have hcz13_1 : w12.cell? ⟨gb179, 1, none⟩ = some (.slice none 0 0) := (blk_cell BK179.out 1).trans rfl; have hcz13_2 : w12.cell? ⟨gb179, 2, none⟩ = some (.bool false) := (blk_cell BK179.out 2).trans rfl; have hfz13_0 := blk_frozen BK179.out 0; have hfz13_1 := blk_frozen BK179.out 1; have hfz13_2 := blk_frozen BK179.out 2; obtain ⟨Ao14, co14, eo14⟩ := Kd.R_slice HO177.out; subst eo14; obtain ⟨Ao15, co15, eo15⟩ := Kd.R_slice HO170.out; subst eo15))
      (try simp only [Act.put, List.setIfInBounds_toArray, List.set_cons_zero, List.set_cons_succ])
      go_cut [5] (fun v5 wc => ∃ (kq : Nat) (x5_6 : Bool), v5 = .bool x5_6 ∧ Aside0 (laws_FnEscape.j0 kq t168 x5_6 t174 t175 t178 = some r) ∧ Aside0 (kq ≤ k) ∧ Aside0 (Kd.R (Kd.int .u8) 5 wc w.heap.size (fun k_ => some k_ ≠ ((.slice Ao14 t175.length co14) : Value).ownBlock) (.slice Ao15 t168.length co15) t168) ∧ Aside0 (Kd.R (Kd.int .u8) 5 wc w.heap.size (fun k_ => some k_ ≠ ((.slice Ao15 t168.length co15) : Value).ownBlock) (.slice Ao14 t175.length co14) t175) ∧ Aside0 (wc.heap[gb179]? = some (.cells #[.bool t174, (.slice Ao14 t175.length co14), .bool t178] 29 (0, 0))) ∧ Aside0 (Below w.heap.size w wc))
      case first =>
        have H := HC7.out
        clear HC7
        by_cases c16 : 0 < (t168.length : Int)
        · rw [if_pos c16] at H
          have c16b0 : decide (0 < (t168.length : Int)) = true := decide_eq_true c16
          have c16b1 : decide (0 < t168.length) = true := decide_eq_true (by omega)
          clear c16
          (first | rw [c16b0] | (simp only [i64_w, i32_w]; rw [c16b0]) | skip)
          by_cases c17 : (rd t168 0) = 106
          · rw [if_pos c17] at H
            have c17b0 : ((rd t168 0) == 106) = true := beq_iff_eq.mpr c17
            have c17b1 : ((rd t168 0) != 106) = false := bne_eq_false_iff_eq.mpr c17
            clear c17
            by_cases c18 : 1 < (t168.length : Int)
            · rw [if_pos c18] at H
              have c18b0 : decide (1 < (t168.length : Int)) = true := decide_eq_true c18
              have c18b1 : decide (1 < t168.length) = true := decide_eq_true (by omega)
              clear c18
              by_cases c19 : (rd t168 1) = 108
              · rw [if_pos c19] at H
                have c19b0 : ((rd t168 1) == 108) = true := beq_iff_eq.mpr c19
                have c19b1 : ((rd t168 1) != 108) = false := bne_eq_false_iff_eq.mpr c19
                clear c19
                by_cases c20 : 2 < (t168.length : Int)
                · rw [if_pos c20] at H
                  have c20b0 : decide (2 < (t168.length : Int)) = true := decide_eq_true c20
                  have c20b1 : decide (2 < t168.length) = true := decide_eq_true (by omega)
                  clear c20
                  by_cases c21 : (rd t168 2) = 111
                  · rw [if_pos c21] at H
                    have c21b0 : ((rd t168 2) == 111) = true := beq_iff_eq.mpr c21
                    have c21b1 : ((rd t168 2) != 111) = false := bne_eq_false_iff_eq.mpr c21
                    clear c21
                    by_cases c22 : 3 < (t168.length : Int)
                    · rw [if_pos c22] at H
                      have c22b0 : decide (3 < (t168.length : Int)) = true := decide_eq_true c22
                      have c22b1 : decide (3 < t168.length) = true := decide_eq_true (by omega)
                      clear c22
                      have H' := Aside0.mk H
                      clear H
                      have p180 : 0 ≤ (0 : Int) := (by omega)
                      have q180 : 0 < (t168.length : Int) := of_decide_eq_true (by first | (with_reducible assumption) | assumption)
                      obtain ⟨ad180, e180, hx180_0⟩ := Kd.at_int (Kd.R_reads' HO170.out).2.2 0 p180 q180
                      cases e180
                      have qi180 : (0 < t168.length) = True := eq_true (by omega)
                      (try rw [show ((0 : Int)).toNat = 0 from rfl] at hx180_0)
                      (try rw [Addr.add_zero'] at hx180_0)
                      have hn180_0 : ad180.block ≠ gb179 := Kd.own_blk (Kd.R_ne HO170.out BK179.out (by decide))
                      have hn180_1 : ad180.block ≠ gb179 := Kd.own_blk (Kd.R_ne HO170.out BK179.out (by decide))
                      have hn180_2 : ad180.block ≠ gb179 := Kd.own_blk (Kd.R_ne HO170.out BK179.out (by decide))
                      replace hx180_0 := (cell_far (p := ⟨gb179, 0, none⟩) (by first | (rw [add_block]; exact hn180_0) | (show (Addr.add _ _).block ≠ _; rw [add_block]; exact hn180_0) | exact hn180_0) (.bool t174)).trans hx180_0
                      replace hx180_0 := (cell_far (p := ⟨gb179, 1, none⟩) (by first | (rw [add_block]; exact hn180_1) | (show (Addr.add _ _).block ≠ _; rw [add_block]; exact hn180_1) | exact hn180_1) (.slice Ao14 t175.length co14)).trans hx180_0
                      replace hx180_0 := (cell_far (p := ⟨gb179, 2, none⟩) (by first | (rw [add_block]; exact hn180_2) | (show (Addr.add _ _).block ≠ _; rw [add_block]; exact hn180_2) | exact hn180_2) (.bool t178)).trans hx180_0
                      clear hn180_0
                      clear hn180_1
                      clear hn180_2
                      replace p180 := eq_true p180
                      replace q180 := eq_true q180
                      have p181 : 0 ≤ (1 : Int) := (by omega)
                      have q181 : 1 < (t168.length : Int) := of_decide_eq_true (by first | (with_reducible assumption) | assumption)
                      obtain ⟨ad181, e181, hx181_0⟩ := Kd.at_int (Kd.R_reads' HO170.out).2.2 1 p181 q181
                      obtain rfl : ad180 = ad181 := (by injection e181)
                      (try simp only [show (1 : Int).toNat = 1 from rfl, Nat.reduceMul, Nat.reduceEqDiff, Go.Addr.add, ↓reduceIte] at hx181_0)
                      have qi181 : (1 < t168.length) = True := eq_true (by omega)
                      (try rw [show ((1 : Int)).toNat = 1 from rfl] at hx181_0)
                      have hn181_0 : ad180.block ≠ gb179 := Kd.own_blk (Kd.R_ne HO170.out BK179.out (by decide))
                      have hn181_1 : ad180.block ≠ gb179 := Kd.own_blk (Kd.R_ne HO170.out BK179.out (by decide))
                      have hn181_2 : ad180.block ≠ gb179 := Kd.own_blk (Kd.R_ne HO170.out BK179.out (by decide))
                      replace hx181_0 := (cell_far (p := ⟨gb179, 0, none⟩) (by first | (rw [add_block]; exact hn181_0) | (show (Addr.add _ _).block ≠ _; rw [add_block]; exact hn181_0) | exact hn181_0) (.bool t174)).trans hx181_0
                      replace hx181_0 := (cell_far (p := ⟨gb179, 1, none⟩) (by first | (rw [add_block]; exact hn181_1) | (show (Addr.add _ _).block ≠ _; rw [add_block]; exact hn181_1) | exact hn181_1) (.slice Ao14 t175.length co14)).trans hx181_0
                      replace hx181_0 := (cell_far (p := ⟨gb179, 2, none⟩) (by first | (rw [add_block]; exact hn181_2) | (show (Addr.add _ _).block ≠ _; rw [add_block]; exact hn181_2) | exact hn181_2) (.bool t178)).trans hx181_0
                      clear hn181_0
                      clear hn181_1
                      clear hn181_2
                      replace p181 := eq_true p181
                      replace q181 := eq_true q181
                      have p182 : 0 ≤ (2 : Int) := (by omega)
                      have q182 : 2 < (t168.length : Int) := of_decide_eq_true (by first | (with_reducible assumption) | assumption)
                      obtain ⟨ad182, e182, hx182_0⟩ := Kd.at_int (Kd.R_reads' HO170.out).2.2 2 p182 q182
                      obtain rfl : ad180 = ad182 := (by injection e182)
                      (try simp only [show (2 : Int).toNat = 2 from rfl, Nat.reduceMul, Nat.reduceEqDiff, Go.Addr.add, ↓reduceIte] at hx182_0)
                      have qi182 : (2 < t168.length) = True := eq_true (by omega)
                      (try rw [show ((2 : Int)).toNat = 2 from rfl] at hx182_0)
                      have hn182_0 : ad180.block ≠ gb179 := Kd.own_blk (Kd.R_ne HO170.out BK179.out (by decide))
                      have hn182_1 : ad180.block ≠ gb179 := Kd.own_blk (Kd.R_ne HO170.out BK179.out (by decide))
                      have hn182_2 : ad180.block ≠ gb179 := Kd.own_blk (Kd.R_ne HO170.out BK179.out (by decide))
                      replace hx182_0 := (cell_far (p := ⟨gb179, 0, none⟩) (by first | (rw [add_block]; exact hn182_0) | (show (Addr.add _ _).block ≠ _; rw [add_block]; exact hn182_0) | exact hn182_0) (.bool t174)).trans hx182_0
                      replace hx182_0 := (cell_far (p := ⟨gb179, 1, none⟩) (by first | (rw [add_block]; exact hn182_1) | (show (Addr.add _ _).block ≠ _; rw [add_block]; exact hn182_1) | exact hn182_1) (.slice Ao14 t175.length co14)).trans hx182_0
                      replace hx182_0 := (cell_far (p := ⟨gb179, 2, none⟩) (by first | (rw [add_block]; exact hn182_2) | (show (Addr.add _ _).block ≠ _; rw [add_block]; exact hn182_2) | exact hn182_2) (.bool t178)).trans hx182_0
                      clear hn182_0
                      clear hn182_1
                      clear hn182_2
                      replace p182 := eq_true p182
                      replace q182 := eq_true q182
                      have p183 : 0 ≤ (3 : Int) := (by omega)
                      have q183 : 3 < (t168.length : Int) := of_decide_eq_true (by first | (with_reducible assumption) | assumption)
                      obtain ⟨ad183, e183, hx183_0⟩ := Kd.at_int (Kd.R_reads' HO170.out).2.2 3 p183 q183
                      obtain rfl : ad180 = ad183 := (by injection e183)
                      (try simp only [show (3 : Int).toNat = 3 from rfl, Nat.reduceMul, Nat.reduceEqDiff, Go.Addr.add, ↓reduceIte] at hx183_0)
                      have qi183 : (3 < t168.length) = True := eq_true (by omega)
                      (try rw [show ((3 : Int)).toNat = 3 from rfl] at hx183_0)
                      have hn183_0 : ad180.block ≠ gb179 := Kd.own_blk (Kd.R_ne HO170.out BK179.out (by decide))
                      have hn183_1 : ad180.block ≠ gb179 := Kd.own_blk (Kd.R_ne HO170.out BK179.out (by decide))
                      have hn183_2 : ad180.block ≠ gb179 := Kd.own_blk (Kd.R_ne HO170.out BK179.out (by decide))
                      replace hx183_0 := (cell_far (p := ⟨gb179, 0, none⟩) (by first | (rw [add_block]; exact hn183_0) | (show (Addr.add _ _).block ≠ _; rw [add_block]; exact hn183_0) | exact hn183_0) (.bool t174)).trans hx183_0
                      replace hx183_0 := (cell_far (p := ⟨gb179, 1, none⟩) (by first | (rw [add_block]; exact hn183_1) | (show (Addr.add _ _).block ≠ _; rw [add_block]; exact hn183_1) | exact hn183_1) (.slice Ao14 t175.length co14)).trans hx183_0
                      replace hx183_0 := (cell_far (p := ⟨gb179, 2, none⟩) (by first | (rw [add_block]; exact hn183_2) | (show (Addr.add _ _).block ≠ _; rw [add_block]; exact hn183_2) | exact hn183_2) (.bool t178)).trans hx183_0
                      clear hn183_0
                      clear hn183_1
                      clear hn183_2
                      replace p183 := eq_true p183
                      replace q183 := eq_true q183
                      go_wp2
                      go_meet
                      case rel => exact ⟨_, (((rd t168 3) == 103)), (by first | rfl | (simp; done) | (simp [*]; done)), H', ⟨by first | omega | exact Nat.le_refl _⟩, ⟨by (with_reducible repeat (first | apply Kd.R_alloc | apply Kd.R_drewN | apply Kd.R_drew)); exact Kd.R_mono (Kd.R_far (p := ⟨gb179, 2, none⟩) (Kd.R_far (p := ⟨gb179, 1, none⟩) (Kd.R_far (p := ⟨gb179, 0, none⟩) (Kd.R_types HO170.out BK179.out (by decide)) (fun _ hk => hk.2) (.bool t174)) (fun _ hk => hk.2) (.slice Ao14 t175.length co14)) (fun _ hk => hk.2) (.bool t178)) (fun _ hk => hk.1.2)⟩, ⟨by (with_reducible repeat (first | apply Kd.R_alloc | apply Kd.R_drewN | apply Kd.R_drew)); exact Kd.R_mono (Kd.R_far (p := ⟨gb179, 2, none⟩) (Kd.R_far (p := ⟨gb179, 1, none⟩) (Kd.R_far (p := ⟨gb179, 0, none⟩) (Kd.R_types HO177.out BK179.out (by decide)) (fun _ hk => hk.2) (.bool t174)) (fun _ hk => hk.2) (.slice Ao14 t175.length co14)) (fun _ hk => hk.2) (.bool t178)) (fun _ hk => hk.1.1.2)⟩, ⟨by (with_reducible repeat (first | refine blk_drewN ?_ _ | refine blk_drew ?_ | refine blk_alloc ?_ _)); refine blk_put (cs := #[.bool t174, .slice Ao14 t175.length co14, .bool false]) ?_ 2 _ rfl; (with_reducible repeat (first | refine blk_drewN ?_ _ | refine blk_drew ?_ | refine blk_alloc ?_ _)); refine blk_put (cs := #[.bool t174, .slice none 0 0, .bool false]) ?_ 1 _ rfl; (with_reducible repeat (first | refine blk_drewN ?_ _ | refine blk_drew ?_ | refine blk_alloc ?_ _)); refine blk_put (cs := #[.bool false, .slice none 0 0, .bool false]) ?_ 0 _ rfl; (with_reducible repeat (first | refine blk_drewN ?_ _ | refine blk_drew ?_ | refine blk_alloc ?_ _)); exact BK179.out⟩, ⟨by repeat (first | (with_reducible first | exact HB.out | apply below_alloc | apply pw_below_drewN | apply below_drew1 | refine below_set ?_ GE179.out) | exact HB.out)⟩⟩
                    · rw [if_neg c22] at H
                      exact absurd H (by simp)
                  · rw [if_neg c21] at H
                    have c21b0 : ((rd t168 2) == 111) = false := beq_eq_false_iff_ne.mpr c21
                    have c21b1 : ((rd t168 2) != 111) = true := bne_iff_ne.mpr c21
                    have H' := Aside0.mk H
                    clear H
                    have p180 : 0 ≤ (0 : Int) := (by omega)
                    have q180 : 0 < (t168.length : Int) := of_decide_eq_true (by first | (with_reducible assumption) | assumption)
                    obtain ⟨ad180, e180, hx180_0⟩ := Kd.at_int (Kd.R_reads' HO170.out).2.2 0 p180 q180
                    cases e180
                    have qi180 : (0 < t168.length) = True := eq_true (by omega)
                    (try rw [show ((0 : Int)).toNat = 0 from rfl] at hx180_0)
                    (try rw [Addr.add_zero'] at hx180_0)
                    have hn180_0 : ad180.block ≠ gb179 := Kd.own_blk (Kd.R_ne HO170.out BK179.out (by decide))
                    have hn180_1 : ad180.block ≠ gb179 := Kd.own_blk (Kd.R_ne HO170.out BK179.out (by decide))
                    have hn180_2 : ad180.block ≠ gb179 := Kd.own_blk (Kd.R_ne HO170.out BK179.out (by decide))
                    replace hx180_0 := (cell_far (p := ⟨gb179, 0, none⟩) (by first | (rw [add_block]; exact hn180_0) | (show (Addr.add _ _).block ≠ _; rw [add_block]; exact hn180_0) | exact hn180_0) (.bool t174)).trans hx180_0
                    replace hx180_0 := (cell_far (p := ⟨gb179, 1, none⟩) (by first | (rw [add_block]; exact hn180_1) | (show (Addr.add _ _).block ≠ _; rw [add_block]; exact hn180_1) | exact hn180_1) (.slice Ao14 t175.length co14)).trans hx180_0
                    replace hx180_0 := (cell_far (p := ⟨gb179, 2, none⟩) (by first | (rw [add_block]; exact hn180_2) | (show (Addr.add _ _).block ≠ _; rw [add_block]; exact hn180_2) | exact hn180_2) (.bool t178)).trans hx180_0
                    clear hn180_0
                    clear hn180_1
                    clear hn180_2
                    replace p180 := eq_true p180
                    replace q180 := eq_true q180
                    have p181 : 0 ≤ (1 : Int) := (by omega)
                    have q181 : 1 < (t168.length : Int) := of_decide_eq_true (by first | (with_reducible assumption) | assumption)
                    obtain ⟨ad181, e181, hx181_0⟩ := Kd.at_int (Kd.R_reads' HO170.out).2.2 1 p181 q181
                    obtain rfl : ad180 = ad181 := (by injection e181)
                    (try simp only [show (1 : Int).toNat = 1 from rfl, Nat.reduceMul, Nat.reduceEqDiff, Go.Addr.add, ↓reduceIte] at hx181_0)
                    have qi181 : (1 < t168.length) = True := eq_true (by omega)
                    (try rw [show ((1 : Int)).toNat = 1 from rfl] at hx181_0)
                    have hn181_0 : ad180.block ≠ gb179 := Kd.own_blk (Kd.R_ne HO170.out BK179.out (by decide))
                    have hn181_1 : ad180.block ≠ gb179 := Kd.own_blk (Kd.R_ne HO170.out BK179.out (by decide))
                    have hn181_2 : ad180.block ≠ gb179 := Kd.own_blk (Kd.R_ne HO170.out BK179.out (by decide))
                    replace hx181_0 := (cell_far (p := ⟨gb179, 0, none⟩) (by first | (rw [add_block]; exact hn181_0) | (show (Addr.add _ _).block ≠ _; rw [add_block]; exact hn181_0) | exact hn181_0) (.bool t174)).trans hx181_0
                    replace hx181_0 := (cell_far (p := ⟨gb179, 1, none⟩) (by first | (rw [add_block]; exact hn181_1) | (show (Addr.add _ _).block ≠ _; rw [add_block]; exact hn181_1) | exact hn181_1) (.slice Ao14 t175.length co14)).trans hx181_0
                    replace hx181_0 := (cell_far (p := ⟨gb179, 2, none⟩) (by first | (rw [add_block]; exact hn181_2) | (show (Addr.add _ _).block ≠ _; rw [add_block]; exact hn181_2) | exact hn181_2) (.bool t178)).trans hx181_0
                    clear hn181_0
                    clear hn181_1
                    clear hn181_2
                    replace p181 := eq_true p181
                    replace q181 := eq_true q181
                    have p182 : 0 ≤ (2 : Int) := (by omega)
                    have q182 : 2 < (t168.length : Int) := of_decide_eq_true (by first | (with_reducible assumption) | assumption)
                    obtain ⟨ad182, e182, hx182_0⟩ := Kd.at_int (Kd.R_reads' HO170.out).2.2 2 p182 q182
                    obtain rfl : ad180 = ad182 := (by injection e182)
                    (try simp only [show (2 : Int).toNat = 2 from rfl, Nat.reduceMul, Nat.reduceEqDiff, Go.Addr.add, ↓reduceIte] at hx182_0)
                    have qi182 : (2 < t168.length) = True := eq_true (by omega)
                    (try rw [show ((2 : Int)).toNat = 2 from rfl] at hx182_0)
                    have hn182_0 : ad180.block ≠ gb179 := Kd.own_blk (Kd.R_ne HO170.out BK179.out (by decide))
                    have hn182_1 : ad180.block ≠ gb179 := Kd.own_blk (Kd.R_ne HO170.out BK179.out (by decide))
                    have hn182_2 : ad180.block ≠ gb179 := Kd.own_blk (Kd.R_ne HO170.out BK179.out (by decide))
                    replace hx182_0 := (cell_far (p := ⟨gb179, 0, none⟩) (by first | (rw [add_block]; exact hn182_0) | (show (Addr.add _ _).block ≠ _; rw [add_block]; exact hn182_0) | exact hn182_0) (.bool t174)).trans hx182_0
                    replace hx182_0 := (cell_far (p := ⟨gb179, 1, none⟩) (by first | (rw [add_block]; exact hn182_1) | (show (Addr.add _ _).block ≠ _; rw [add_block]; exact hn182_1) | exact hn182_1) (.slice Ao14 t175.length co14)).trans hx182_0
                    replace hx182_0 := (cell_far (p := ⟨gb179, 2, none⟩) (by first | (rw [add_block]; exact hn182_2) | (show (Addr.add _ _).block ≠ _; rw [add_block]; exact hn182_2) | exact hn182_2) (.bool t178)).trans hx182_0
                    clear hn182_0
                    clear hn182_1
                    clear hn182_2
                    replace p182 := eq_true p182
                    replace q182 := eq_true q182
                    go_wp2
                    go_meet
                    case rel => exact ⟨_, (false), (by first | rfl | (simp; done) | (simp [*]; done)), H', ⟨by first | omega | exact Nat.le_refl _⟩, ⟨by (with_reducible repeat (first | apply Kd.R_alloc | apply Kd.R_drewN | apply Kd.R_drew)); exact Kd.R_mono (Kd.R_far (p := ⟨gb179, 2, none⟩) (Kd.R_far (p := ⟨gb179, 1, none⟩) (Kd.R_far (p := ⟨gb179, 0, none⟩) (Kd.R_types HO170.out BK179.out (by decide)) (fun _ hk => hk.2) (.bool t174)) (fun _ hk => hk.2) (.slice Ao14 t175.length co14)) (fun _ hk => hk.2) (.bool t178)) (fun _ hk => hk.1.2)⟩, ⟨by (with_reducible repeat (first | apply Kd.R_alloc | apply Kd.R_drewN | apply Kd.R_drew)); exact Kd.R_mono (Kd.R_far (p := ⟨gb179, 2, none⟩) (Kd.R_far (p := ⟨gb179, 1, none⟩) (Kd.R_far (p := ⟨gb179, 0, none⟩) (Kd.R_types HO177.out BK179.out (by decide)) (fun _ hk => hk.2) (.bool t174)) (fun _ hk => hk.2) (.slice Ao14 t175.length co14)) (fun _ hk => hk.2) (.bool t178)) (fun _ hk => hk.1.1.2)⟩, ⟨by (with_reducible repeat (first | refine blk_drewN ?_ _ | refine blk_drew ?_ | refine blk_alloc ?_ _)); refine blk_put (cs := #[.bool t174, .slice Ao14 t175.length co14, .bool false]) ?_ 2 _ rfl; (with_reducible repeat (first | refine blk_drewN ?_ _ | refine blk_drew ?_ | refine blk_alloc ?_ _)); refine blk_put (cs := #[.bool t174, .slice none 0 0, .bool false]) ?_ 1 _ rfl; (with_reducible repeat (first | refine blk_drewN ?_ _ | refine blk_drew ?_ | refine blk_alloc ?_ _)); refine blk_put (cs := #[.bool false, .slice none 0 0, .bool false]) ?_ 0 _ rfl; (with_reducible repeat (first | refine blk_drewN ?_ _ | refine blk_drew ?_ | refine blk_alloc ?_ _)); exact BK179.out⟩, ⟨by repeat (first | (with_reducible first | exact HB.out | apply below_alloc | apply pw_below_drewN | apply below_drew1 | refine below_set ?_ GE179.out) | exact HB.out)⟩⟩
                · rw [if_neg c20] at H
                  exact absurd H (by simp)
              · rw [if_neg c19] at H
                have c19b0 : ((rd t168 1) == 108) = false := beq_eq_false_iff_ne.mpr c19
                have c19b1 : ((rd t168 1) != 108) = true := bne_iff_ne.mpr c19
                have H' := Aside0.mk H
                clear H
                have p180 : 0 ≤ (0 : Int) := (by omega)
                have q180 : 0 < (t168.length : Int) := of_decide_eq_true (by first | (with_reducible assumption) | assumption)
                obtain ⟨ad180, e180, hx180_0⟩ := Kd.at_int (Kd.R_reads' HO170.out).2.2 0 p180 q180
                cases e180
                have qi180 : (0 < t168.length) = True := eq_true (by omega)
                (try rw [show ((0 : Int)).toNat = 0 from rfl] at hx180_0)
                (try rw [Addr.add_zero'] at hx180_0)
                have hn180_0 : ad180.block ≠ gb179 := Kd.own_blk (Kd.R_ne HO170.out BK179.out (by decide))
                have hn180_1 : ad180.block ≠ gb179 := Kd.own_blk (Kd.R_ne HO170.out BK179.out (by decide))
                have hn180_2 : ad180.block ≠ gb179 := Kd.own_blk (Kd.R_ne HO170.out BK179.out (by decide))
                replace hx180_0 := (cell_far (p := ⟨gb179, 0, none⟩) (by first | (rw [add_block]; exact hn180_0) | (show (Addr.add _ _).block ≠ _; rw [add_block]; exact hn180_0) | exact hn180_0) (.bool t174)).trans hx180_0
                replace hx180_0 := (cell_far (p := ⟨gb179, 1, none⟩) (by first | (rw [add_block]; exact hn180_1) | (show (Addr.add _ _).block ≠ _; rw [add_block]; exact hn180_1) | exact hn180_1) (.slice Ao14 t175.length co14)).trans hx180_0
                replace hx180_0 := (cell_far (p := ⟨gb179, 2, none⟩) (by first | (rw [add_block]; exact hn180_2) | (show (Addr.add _ _).block ≠ _; rw [add_block]; exact hn180_2) | exact hn180_2) (.bool t178)).trans hx180_0
                clear hn180_0
                clear hn180_1
                clear hn180_2
                replace p180 := eq_true p180
                replace q180 := eq_true q180
                have p181 : 0 ≤ (1 : Int) := (by omega)
                have q181 : 1 < (t168.length : Int) := of_decide_eq_true (by first | (with_reducible assumption) | assumption)
                obtain ⟨ad181, e181, hx181_0⟩ := Kd.at_int (Kd.R_reads' HO170.out).2.2 1 p181 q181
                obtain rfl : ad180 = ad181 := (by injection e181)
                (try simp only [show (1 : Int).toNat = 1 from rfl, Nat.reduceMul, Nat.reduceEqDiff, Go.Addr.add, ↓reduceIte] at hx181_0)
                have qi181 : (1 < t168.length) = True := eq_true (by omega)
                (try rw [show ((1 : Int)).toNat = 1 from rfl] at hx181_0)
                have hn181_0 : ad180.block ≠ gb179 := Kd.own_blk (Kd.R_ne HO170.out BK179.out (by decide))
                have hn181_1 : ad180.block ≠ gb179 := Kd.own_blk (Kd.R_ne HO170.out BK179.out (by decide))
                have hn181_2 : ad180.block ≠ gb179 := Kd.own_blk (Kd.R_ne HO170.out BK179.out (by decide))
                replace hx181_0 := (cell_far (p := ⟨gb179, 0, none⟩) (by first | (rw [add_block]; exact hn181_0) | (show (Addr.add _ _).block ≠ _; rw [add_block]; exact hn181_0) | exact hn181_0) (.bool t174)).trans hx181_0
                replace hx181_0 := (cell_far (p := ⟨gb179, 1, none⟩) (by first | (rw [add_block]; exact hn181_1) | (show (Addr.add _ _).block ≠ _; rw [add_block]; exact hn181_1) | exact hn181_1) (.slice Ao14 t175.length co14)).trans hx181_0
                replace hx181_0 := (cell_far (p := ⟨gb179, 2, none⟩) (by first | (rw [add_block]; exact hn181_2) | (show (Addr.add _ _).block ≠ _; rw [add_block]; exact hn181_2) | exact hn181_2) (.bool t178)).trans hx181_0
                clear hn181_0
                clear hn181_1
                clear hn181_2
                replace p181 := eq_true p181
                replace q181 := eq_true q181
                go_wp2
                go_meet
                case rel => exact ⟨_, (false), (by first | rfl | (simp; done) | (simp [*]; done)), H', ⟨by first | omega | exact Nat.le_refl _⟩, ⟨by (with_reducible repeat (first | apply Kd.R_alloc | apply Kd.R_drewN | apply Kd.R_drew)); exact Kd.R_mono (Kd.R_far (p := ⟨gb179, 2, none⟩) (Kd.R_far (p := ⟨gb179, 1, none⟩) (Kd.R_far (p := ⟨gb179, 0, none⟩) (Kd.R_types HO170.out BK179.out (by decide)) (fun _ hk => hk.2) (.bool t174)) (fun _ hk => hk.2) (.slice Ao14 t175.length co14)) (fun _ hk => hk.2) (.bool t178)) (fun _ hk => hk.1.2)⟩, ⟨by (with_reducible repeat (first | apply Kd.R_alloc | apply Kd.R_drewN | apply Kd.R_drew)); exact Kd.R_mono (Kd.R_far (p := ⟨gb179, 2, none⟩) (Kd.R_far (p := ⟨gb179, 1, none⟩) (Kd.R_far (p := ⟨gb179, 0, none⟩) (Kd.R_types HO177.out BK179.out (by decide)) (fun _ hk => hk.2) (.bool t174)) (fun _ hk => hk.2) (.slice Ao14 t175.length co14)) (fun _ hk => hk.2) (.bool t178)) (fun _ hk => hk.1.1.2)⟩, ⟨by (with_reducible repeat (first | refine blk_drewN ?_ _ | refine blk_drew ?_ | refine blk_alloc ?_ _)); refine blk_put (cs := #[.bool t174, .slice Ao14 t175.length co14, .bool false]) ?_ 2 _ rfl; (with_reducible repeat (first | refine blk_drewN ?_ _ | refine blk_drew ?_ | refine blk_alloc ?_ _)); refine blk_put (cs := #[.bool t174, .slice none 0 0, .bool false]) ?_ 1 _ rfl; (with_reducible repeat (first | refine blk_drewN ?_ _ | refine blk_drew ?_ | refine blk_alloc ?_ _)); refine blk_put (cs := #[.bool false, .slice none 0 0, .bool false]) ?_ 0 _ rfl; (with_reducible repeat (first | refine blk_drewN ?_ _ | refine blk_drew ?_ | refine blk_alloc ?_ _)); exact BK179.out⟩, ⟨by repeat (first | (with_reducible first | exact HB.out | apply below_alloc | apply pw_below_drewN | apply below_drew1 | refine below_set ?_ GE179.out) | exact HB.out)⟩⟩
            · rw [if_neg c18] at H
              exact absurd H (by simp)
          · rw [if_neg c17] at H
            have c17b0 : ((rd t168 0) == 106) = false := beq_eq_false_iff_ne.mpr c17
            have c17b1 : ((rd t168 0) != 106) = true := bne_iff_ne.mpr c17
            have H' := Aside0.mk H
            clear H
            have p180 : 0 ≤ (0 : Int) := (by omega)
            have q180 : 0 < (t168.length : Int) := of_decide_eq_true (by first | (with_reducible assumption) | assumption)
            obtain ⟨ad180, e180, hx180_0⟩ := Kd.at_int (Kd.R_reads' HO170.out).2.2 0 p180 q180
            cases e180
            have qi180 : (0 < t168.length) = True := eq_true (by omega)
            (try rw [show ((0 : Int)).toNat = 0 from rfl] at hx180_0)
            (try rw [Addr.add_zero'] at hx180_0)
            have hn180_0 : ad180.block ≠ gb179 := Kd.own_blk (Kd.R_ne HO170.out BK179.out (by decide))
            have hn180_1 : ad180.block ≠ gb179 := Kd.own_blk (Kd.R_ne HO170.out BK179.out (by decide))
            have hn180_2 : ad180.block ≠ gb179 := Kd.own_blk (Kd.R_ne HO170.out BK179.out (by decide))
            replace hx180_0 := (cell_far (p := ⟨gb179, 0, none⟩) (by first | (rw [add_block]; exact hn180_0) | (show (Addr.add _ _).block ≠ _; rw [add_block]; exact hn180_0) | exact hn180_0) (.bool t174)).trans hx180_0
            replace hx180_0 := (cell_far (p := ⟨gb179, 1, none⟩) (by first | (rw [add_block]; exact hn180_1) | (show (Addr.add _ _).block ≠ _; rw [add_block]; exact hn180_1) | exact hn180_1) (.slice Ao14 t175.length co14)).trans hx180_0
            replace hx180_0 := (cell_far (p := ⟨gb179, 2, none⟩) (by first | (rw [add_block]; exact hn180_2) | (show (Addr.add _ _).block ≠ _; rw [add_block]; exact hn180_2) | exact hn180_2) (.bool t178)).trans hx180_0
            clear hn180_0
            clear hn180_1
            clear hn180_2
            replace p180 := eq_true p180
            replace q180 := eq_true q180
            go_wp2
            go_meet
            case rel => exact ⟨_, (false), (by first | rfl | (simp; done) | (simp [*]; done)), H', ⟨by first | omega | exact Nat.le_refl _⟩, ⟨by (with_reducible repeat (first | apply Kd.R_alloc | apply Kd.R_drewN | apply Kd.R_drew)); exact Kd.R_mono (Kd.R_far (p := ⟨gb179, 2, none⟩) (Kd.R_far (p := ⟨gb179, 1, none⟩) (Kd.R_far (p := ⟨gb179, 0, none⟩) (Kd.R_types HO170.out BK179.out (by decide)) (fun _ hk => hk.2) (.bool t174)) (fun _ hk => hk.2) (.slice Ao14 t175.length co14)) (fun _ hk => hk.2) (.bool t178)) (fun _ hk => hk.1.2)⟩, ⟨by (with_reducible repeat (first | apply Kd.R_alloc | apply Kd.R_drewN | apply Kd.R_drew)); exact Kd.R_mono (Kd.R_far (p := ⟨gb179, 2, none⟩) (Kd.R_far (p := ⟨gb179, 1, none⟩) (Kd.R_far (p := ⟨gb179, 0, none⟩) (Kd.R_types HO177.out BK179.out (by decide)) (fun _ hk => hk.2) (.bool t174)) (fun _ hk => hk.2) (.slice Ao14 t175.length co14)) (fun _ hk => hk.2) (.bool t178)) (fun _ hk => hk.1.1.2)⟩, ⟨by (with_reducible repeat (first | refine blk_drewN ?_ _ | refine blk_drew ?_ | refine blk_alloc ?_ _)); refine blk_put (cs := #[.bool t174, .slice Ao14 t175.length co14, .bool false]) ?_ 2 _ rfl; (with_reducible repeat (first | refine blk_drewN ?_ _ | refine blk_drew ?_ | refine blk_alloc ?_ _)); refine blk_put (cs := #[.bool t174, .slice none 0 0, .bool false]) ?_ 1 _ rfl; (with_reducible repeat (first | refine blk_drewN ?_ _ | refine blk_drew ?_ | refine blk_alloc ?_ _)); refine blk_put (cs := #[.bool false, .slice none 0 0, .bool false]) ?_ 0 _ rfl; (with_reducible repeat (first | refine blk_drewN ?_ _ | refine blk_drew ?_ | refine blk_alloc ?_ _)); exact BK179.out⟩, ⟨by repeat (first | (with_reducible first | exact HB.out | apply below_alloc | apply pw_below_drewN | apply below_drew1 | refine below_set ?_ GE179.out) | exact HB.out)⟩⟩
        · rw [if_neg c16] at H
          exact absurd H (by simp)
      case rest =>
        clear HC7
        try clear c1
        try clear p1
        try clear q1
        try clear hx1
        try clear qi1
        try clear c2
        try clear c2b0
        try clear c2b1
        try clear p2
        try clear c5
        try clear c6
        try clear c6b0
        try clear c6b1
        try clear c16
        try clear c16b0
        try clear c16b1
        try clear c17
        try clear c17b0
        try clear c17b1
        try clear c18
        try clear c18b0
        try clear c18b1
        try clear p18
        try clear q18
        try clear hx18
        try clear qi18
        try clear c19
        try clear c19b0
        try clear c19b1
        try clear c20
        try clear c20b0
        try clear c20b1
        try clear c21
        try clear c21b0
        try clear c21b1
        try clear c22
        try clear c22b0
        try clear c22b1
        try clear hcz13_0
        try clear hcz13_1
        try clear hcz13_2
        try clear hfz13_0
        try clear hfz13_1
        try clear hfz13_2
        try clear hx180_0
        try clear hx181_0
        try clear hx182_0
        try clear hx183_0
        try clear p180
        try clear p181
        try clear p182
        try clear p183
        try clear q180
        try clear q181
        try clear q182
        try clear q183
        obtain ⟨kq, x5_6, rfl, HA, HJ6, HO_3, HO_180001, BK179, HB⟩ := hcut
        cases kq with
        | zero => exact absurd HA.out (by simp [laws_FnEscape.j0])
        | succ kj6 =>
          have H := HA.out
          clear HA
          simp only [laws_FnEscape.j0] at H
          have HC23 := Aside0.mk H
          clear H
          go_upto_region 8 with (fail)
          go_cut [71] (fun v71 wc => ∃ (kq : Nat) (x71_22 : Bool), v71 = .bool x71_22 ∧ Aside0 (laws_FnEscape.j1 kq t168 x5_6 x71_22 t174 t175 t178 = some r) ∧ Aside0 (kq ≤ kj6) ∧ Aside0 (Kd.R (Kd.int .u8) 5 wc w.heap.size (fun k_ => some k_ ≠ ((.slice Ao14 t175.length co14) : Value).ownBlock) (.slice Ao15 t168.length co15) t168) ∧ Aside0 (Kd.R (Kd.int .u8) 5 wc w.heap.size (fun k_ => some k_ ≠ ((.slice Ao15 t168.length co15) : Value).ownBlock) (.slice Ao14 t175.length co14) t175) ∧ Aside0 (wc.heap[gb179]? = some (.cells #[.bool t174, (.slice Ao14 t175.length co14), .bool t178] 29 (0, 0))) ∧ Aside0 (Below w.heap.size w wc))
          case first =>
            have H := HC23.out
            clear HC23
            by_cases c24 : t174 = true
            · subst c24
              have H1 : (if (t175.length : Int) = 64 then (if (t178 != x5_6) = true then (laws_FnEscape.j1 kj6 t168 x5_6 true true t175 t178) else ((impl_BlockKind.f t175).bind fun t184 => (laws_FnEscape.j1 kj6 t168 x5_6 (t184 != 0) true t175 t178))) else (laws_FnEscape.j1 kj6 t168 x5_6 true true t175 t178)) = some r := by rw [if_pos rfl] at H; exact H
              clear H
              have H := H1
              clear H1
              by_cases c25 : (t175.length : Int) = 64
              · rw [if_pos c25] at H
                have c25b0 : ((t175.length : Int) == 64) = true := beq_iff_eq.mpr c25
                have c25b1 : ((t175.length : Int) != 64) = false := bne_eq_false_iff_eq.mpr c25
                clear c25
                (first | rw [c25b0] | (simp only [i64_w, i32_w]; rw [c25b0]) | skip)
                by_cases c26 : (t178 != x5_6) = true
                · rw [if_pos c26] at H
                  have c26b0 : (t178 != x5_6) = true := c26
                  (try (have c26b1 : decide (t178 = x5_6) = false := by simpa using c26))
                  (try (have c26b2 : (t178 == x5_6) = false := by simpa using c26))
                  (try (have c26b3 : ¬ (t178 = x5_6) := by simpa using c26))
                  clear c26
                  have H' := Aside0.mk H
                  clear H
                  have hcz27_0 : wc.cell? ⟨gb179, 0, none⟩ = some (.bool true) := (blk_cell BK179.out 0).trans rfl
                  have hcz27_1 : wc.cell? ⟨gb179, 1, none⟩ = some (.slice Ao14 t175.length co14) := (blk_cell BK179.out 1).trans rfl
                  have hcz27_2 : wc.cell? ⟨gb179, 2, none⟩ = some (.bool t178) := (blk_cell BK179.out 2).trans rfl
                  have hfz27_0 := blk_frozen BK179.out 0
                  have hfz27_1 := blk_frozen BK179.out 1
                  have hfz27_2 := blk_frozen BK179.out 2
                  go_wp2
                  go_meet
                  case rel => exact ⟨_, (true), (by first | rfl | (simp; done) | (simp [*]; done)), H', ⟨by have := HJ6.out; first | omega | exact Nat.le_refl _⟩, ⟨by (with_reducible repeat (first | apply Kd.R_alloc | apply Kd.R_drewN | apply Kd.R_drew)); exact HO_3.out⟩, ⟨by (with_reducible repeat (first | apply Kd.R_alloc | apply Kd.R_drewN | apply Kd.R_drew)); exact HO_180001.out⟩, ⟨by (with_reducible repeat (first | refine blk_drewN ?_ _ | refine blk_drew ?_ | refine blk_alloc ?_ _)); exact BK179.out⟩, ⟨by repeat (first | (with_reducible first | exact HB.out | apply below_alloc | apply pw_below_drewN | apply below_drew1 | refine below_set ?_ GE179.out) | exact HB.out)⟩⟩
                · rw [if_neg c26] at H
                  have c26b0 : (t178 != x5_6) = false := by simpa using c26
                  (try (have c26b1 : decide (t178 = x5_6) = true := by simpa using c26))
                  (try (have c26b2 : (t178 == x5_6) = true := by simpa using c26))
                  clear c26
                  replace H := Option.bind_eq_some_iff.mp H
                  obtain ⟨t184, A280, H⟩ := H
                  replace H : (laws_FnEscape.j1 kj6 t168 x5_6 (t184 != 0) true t175 t178) = some r := H
                  have A28 := Aside0.mk A280
                  clear A280
                  have H' := Aside0.mk H
                  clear H
                  have hcz29_0 : wc.cell? ⟨gb179, 0, none⟩ = some (.bool true) := (blk_cell BK179.out 0).trans rfl
                  have hcz29_1 : wc.cell? ⟨gb179, 1, none⟩ = some (.slice Ao14 t175.length co14) := (blk_cell BK179.out 1).trans rfl
                  have hcz29_2 : wc.cell? ⟨gb179, 2, none⟩ = some (.bool t178) := (blk_cell BK179.out 2).trans rfl
                  have hfz29_0 := blk_frozen BK179.out 0
                  have hfz29_1 := blk_frozen BK179.out 1
                  have hfz29_2 := blk_frozen BK179.out 2
                  go_wp2_with (first | (go_at_call 27; (with_reducible refine (impl_BlockKind.calls _ _ t175 t184 _ ?side1 ?side2 A28.out).mono ?_); (case side1 => repeat (first | exact (Kd.R_reads' HO_180001.out).2.2 | (with_reducible refine Kd.C_alloc ?_ _) | (with_reducible refine Kd.C_drewN ?_ _) | (with_reducible refine Kd.C_drew ?_))); (case side2 => exact (Kd.R_reads' HO_180001.out).2.1); rintro e w' ⟨rfl, ⟨nd, rfl⟩⟩))
                  go_meet
                  case rel => exact ⟨_, ((t184 != 0)), (by first | rfl | (simp; done) | (simp [*]; done)), H', ⟨by have := HJ6.out; first | omega | exact Nat.le_refl _⟩, ⟨by (with_reducible repeat (first | apply Kd.R_alloc | apply Kd.R_drewN | apply Kd.R_drew)); exact HO_3.out⟩, ⟨by (with_reducible repeat (first | apply Kd.R_alloc | apply Kd.R_drewN | apply Kd.R_drew)); exact HO_180001.out⟩, ⟨by (with_reducible repeat (first | refine blk_drewN ?_ _ | refine blk_drew ?_ | refine blk_alloc ?_ _)); exact BK179.out⟩, ⟨by repeat (first | (with_reducible first | exact HB.out | apply below_alloc | apply pw_below_drewN | apply below_drew1 | refine below_set ?_ GE179.out) | exact HB.out)⟩⟩
              · rw [if_neg c25] at H
                have c25b0 : ((t175.length : Int) == 64) = false := beq_eq_false_iff_ne.mpr c25
                have c25b1 : ((t175.length : Int) != 64) = true := bne_iff_ne.mpr c25
                (first | rw [c25b0] | (simp only [i64_w, i32_w]; rw [c25b0]) | skip)
                have H' := Aside0.mk H
                clear H
                have hcz30_0 : wc.cell? ⟨gb179, 0, none⟩ = some (.bool true) := (blk_cell BK179.out 0).trans rfl
                have hcz30_1 : wc.cell? ⟨gb179, 1, none⟩ = some (.slice Ao14 t175.length co14) := (blk_cell BK179.out 1).trans rfl
                have hcz30_2 : wc.cell? ⟨gb179, 2, none⟩ = some (.bool t178) := (blk_cell BK179.out 2).trans rfl
                have hfz30_0 := blk_frozen BK179.out 0
                have hfz30_1 := blk_frozen BK179.out 1
                have hfz30_2 := blk_frozen BK179.out 2
                go_wp2
                go_meet
                case rel => exact ⟨_, (true), (by first | rfl | (simp; done) | (simp [*]; done)), H', ⟨by have := HJ6.out; first | omega | exact Nat.le_refl _⟩, ⟨by (with_reducible repeat (first | apply Kd.R_alloc | apply Kd.R_drewN | apply Kd.R_drew)); exact HO_3.out⟩, ⟨by (with_reducible repeat (first | apply Kd.R_alloc | apply Kd.R_drewN | apply Kd.R_drew)); exact HO_180001.out⟩, ⟨by (with_reducible repeat (first | refine blk_drewN ?_ _ | refine blk_drew ?_ | refine blk_alloc ?_ _)); exact BK179.out⟩, ⟨by repeat (first | (with_reducible first | exact HB.out | apply below_alloc | apply pw_below_drewN | apply below_drew1 | refine below_set ?_ GE179.out) | exact HB.out)⟩⟩
            · replace c24 := Bool.eq_false_iff.mpr c24
              subst c24
              have H1 : (laws_FnEscape.j1 kj6 t168 x5_6 true false t175 t178) = some r := by rw [if_neg (show ¬ (false = true) by decide)] at H; exact H
              clear H
              have H := H1
              clear H1
              have H' := Aside0.mk H
              clear H
              have hcz31_0 : wc.cell? ⟨gb179, 0, none⟩ = some (.bool false) := (blk_cell BK179.out 0).trans rfl
              have hcz31_1 : wc.cell? ⟨gb179, 1, none⟩ = some (.slice Ao14 t175.length co14) := (blk_cell BK179.out 1).trans rfl
              have hcz31_2 : wc.cell? ⟨gb179, 2, none⟩ = some (.bool t178) := (blk_cell BK179.out 2).trans rfl
              have hfz31_0 := blk_frozen BK179.out 0
              have hfz31_1 := blk_frozen BK179.out 1
              have hfz31_2 := blk_frozen BK179.out 2
              go_wp2
              go_meet
              case rel => exact ⟨_, (true), (by first | rfl | (simp; done) | (simp [*]; done)), H', ⟨by have := HJ6.out; first | omega | exact Nat.le_refl _⟩, ⟨by (with_reducible repeat (first | apply Kd.R_alloc | apply Kd.R_drewN | apply Kd.R_drew)); exact HO_3.out⟩, ⟨by (with_reducible repeat (first | apply Kd.R_alloc | apply Kd.R_drewN | apply Kd.R_drew)); exact HO_180001.out⟩, ⟨by (with_reducible repeat (first | refine blk_drewN ?_ _ | refine blk_drew ?_ | refine blk_alloc ?_ _)); exact BK179.out⟩, ⟨by repeat (first | (with_reducible first | exact HB.out | apply below_alloc | apply pw_below_drewN | apply below_drew1 | refine below_set ?_ GE179.out) | exact HB.out)⟩⟩
          case rest =>
            clear HC23
            try clear c1
            try clear p1
            try clear q1
            try clear hx1
            try clear qi1
            try clear c2
            try clear c2b0
            try clear c2b1
            try clear p2
            try clear c5
            try clear c6
            try clear c6b0
            try clear c6b1
            try clear c16
            try clear c16b0
            try clear c16b1
            try clear c17
            try clear c17b0
            try clear c17b1
            try clear c18
            try clear c18b0
            try clear c18b1
            try clear p18
            try clear q18
            try clear hx18
            try clear qi18
            try clear c19
            try clear c19b0
            try clear c19b1
            try clear c20
            try clear c20b0
            try clear c20b1
            try clear c21
            try clear c21b0
            try clear c21b1
            try clear c22
            try clear c22b0
            try clear c22b1
            try clear c24
            try clear c25
            try clear c25b0
            try clear c25b1
            try clear c26
            try clear c26b0
            try clear c26b1
            try clear c26b2
            try clear hcz13_0
            try clear hcz13_1
            try clear hcz13_2
            try clear hcz27_0
            try clear hcz27_1
            try clear hcz27_2
            try clear hcz29_0
            try clear hcz29_1
            try clear hcz29_2
            try clear hcz30_0
            try clear hcz30_1
            try clear hcz30_2
            try clear hcz31_0
            try clear hcz31_1
            try clear hcz31_2
            try clear hfz13_0
            try clear hfz13_1
            try clear hfz13_2
            try clear hfz27_0
            try clear hfz27_1
            try clear hfz27_2
            try clear hfz29_0
            try clear hfz29_1
            try clear hfz29_2
            try clear hfz30_0
            try clear hfz30_1
            try clear hfz30_2
            try clear hfz31_0
            try clear hfz31_1
            try clear hfz31_2
            try clear hx180_0
            try clear hx181_0
            try clear hx182_0
            try clear hx183_0
            try clear p1
            try clear p18
            try clear p180
            try clear p181
            try clear p182
            try clear p183
            try clear p2
            try clear q1
            try clear q18
            try clear q180
            try clear q181
            try clear q182
            try clear q183
            obtain ⟨kq, x71_22, rfl, HA, HJ22, HO_3, HO_180001, BK179, HB⟩ := hcut
            cases kq with
            | zero => exact absurd HA.out (by simp [laws_FnEscape.j1])
            | succ kj22 =>
              have H := HA.out
              clear HA
              simp only [laws_FnEscape.j1] at H
              by_cases c32 : x71_22 = true
              · subst c32
                have H1 : (some false) = some r := by rw [if_pos rfl] at H; exact H
                clear H
                have H := H1
                clear H1
                exact absurd ((Option.some.inj H).trans hrt.out) (by simp)
              · replace c32 := Bool.eq_false_iff.mpr c32
                subst c32
                have H1 : ((some (([] : List Int) : List Int)).bind fun y185 => (if y185.length + t175.length < 140737488355328 then ((impl_Unescape.f (y185 ++ t175) t178).bind fun t191 => (if 0 < (t168.length : Int) then (if (rd t168 0) = 0 then (if 1 < (t168.length : Int) then (if (rd t168 1) = 0 then (if 2 < (t168.length : Int) then (if (rd t168 2) = 0 then (if 3 < (t168.length : Int) then ((some (([] : List Int) : List Int)).bind fun y198 => (if y198.length + t168.length < 140737488355328 then ((impl_Unescape.f (y198 ++ t168) (!x5_6)).bind fun t204 => ((laws_lwSameBytes.f t191 t168).bind fun t207 => (if t207 = true then (some ((decide ((t204.length : Int) > 0)) == ((rd t168 3) == 0))) else (some false)))) else (none))) else (none)) else ((some (([] : List Int) : List Int)).bind fun y208 => (if y208.length + t168.length < 140737488355328 then ((impl_Unescape.f (y208 ++ t168) (!x5_6)).bind fun t214 => ((laws_lwSameBytes.f t191 t168).bind fun t217 => (if t217 = true then (some ((decide ((t214.length : Int) > 0)) == false)) else (some false)))) else (none)))) else (none)) else ((some (([] : List Int) : List Int)).bind fun y218 => (if y218.length + t168.length < 140737488355328 then ((impl_Unescape.f (y218 ++ t168) (!x5_6)).bind fun t224 => ((laws_lwSameBytes.f t191 t168).bind fun t227 => (if t227 = true then (some ((decide ((t224.length : Int) > 0)) == false)) else (some false)))) else (none)))) else (none)) else ((some (([] : List Int) : List Int)).bind fun y228 => (if y228.length + t168.length < 140737488355328 then ((impl_Unescape.f (y228 ++ t168) (!x5_6)).bind fun t234 => ((laws_lwSameBytes.f t191 t168).bind fun t237 => (if t237 = true then (some ((decide ((t234.length : Int) > 0)) == false)) else (some false)))) else (none)))) else (none))) else (none))) = some r := by rw [if_neg (show ¬ (false = true) by decide)] at H; exact H
                clear H
                have H := H1
                clear H1
                obtain ⟨y185, hy185⟩ : ∃ y_ : List Int, y_ = (([] : List Int)) := ⟨_, rfl⟩
                replace H : (if y185.length + t175.length < 140737488355328 then ((impl_Unescape.f (y185 ++ t175) t178).bind fun t191 => (if 0 < (t168.length : Int) then (if (rd t168 0) = 0 then (if 1 < (t168.length : Int) then (if (rd t168 1) = 0 then (if 2 < (t168.length : Int) then (if (rd t168 2) = 0 then (if 3 < (t168.length : Int) then ((some (([] : List Int) : List Int)).bind fun y198 => (if y198.length + t168.length < 140737488355328 then ((impl_Unescape.f (y198 ++ t168) (!x5_6)).bind fun t204 => ((laws_lwSameBytes.f t191 t168).bind fun t207 => (if t207 = true then (some ((decide ((t204.length : Int) > 0)) == ((rd t168 3) == 0))) else (some false)))) else (none))) else (none)) else ((some (([] : List Int) : List Int)).bind fun y208 => (if y208.length + t168.length < 140737488355328 then ((impl_Unescape.f (y208 ++ t168) (!x5_6)).bind fun t214 => ((laws_lwSameBytes.f t191 t168).bind fun t217 => (if t217 = true then (some ((decide ((t214.length : Int) > 0)) == false)) else (some false)))) else (none)))) else (none)) else ((some (([] : List Int) : List Int)).bind fun y218 => (if y218.length + t168.length < 140737488355328 then ((impl_Unescape.f (y218 ++ t168) (!x5_6)).bind fun t224 => ((laws_lwSameBytes.f t191 t168).bind fun t227 => (if t227 = true then (some ((decide ((t224.length : Int) > 0)) == false)) else (some false)))) else (none)))) else (none)) else ((some (([] : List Int) : List Int)).bind fun y228 => (if y228.length + t168.length < 140737488355328 then ((impl_Unescape.f (y228 ++ t168) (!x5_6)).bind fun t234 => ((laws_lwSameBytes.f t191 t168).bind fun t237 => (if t237 = true then (some ((decide ((t234.length : Int) > 0)) == false)) else (some false)))) else (none)))) else (none))) else (none)) = some r := by first | (rw [hy185]; with_reducible exact H) | (have H2_ := (Option.bind_some _ _).symm.trans H; rw [hy185]; with_reducible exact H2_) | (have H2_ := (Option.bind_some _ _).symm.trans H; with_reducible exact H2_) | with_reducible exact H | (rw [hy185]; exact H) | exact H
                have Ny185 := Aside0.mk hy185
                clear hy185
                by_cases c33 : y185.length + t175.length < 140737488355328
                · rw [if_pos c33] at H
                  have LMc33 := Aside0.mk c33
                  clear c33
                  obtain ⟨y188, hy188⟩ : ∃ y_ : List Int, y_ = (y185 ++ t175) := ⟨_, rfl⟩
                  replace H : ((impl_Unescape.f y188 t178).bind fun t191 => (if 0 < (t168.length : Int) then (if (rd t168 0) = 0 then (if 1 < (t168.length : Int) then (if (rd t168 1) = 0 then (if 2 < (t168.length : Int) then (if (rd t168 2) = 0 then (if 3 < (t168.length : Int) then ((some (([] : List Int) : List Int)).bind fun y198 => (if y198.length + t168.length < 140737488355328 then ((impl_Unescape.f (y198 ++ t168) (!x5_6)).bind fun t204 => ((laws_lwSameBytes.f t191 t168).bind fun t207 => (if t207 = true then (some ((decide ((t204.length : Int) > 0)) == ((rd t168 3) == 0))) else (some false)))) else (none))) else (none)) else ((some (([] : List Int) : List Int)).bind fun y208 => (if y208.length + t168.length < 140737488355328 then ((impl_Unescape.f (y208 ++ t168) (!x5_6)).bind fun t214 => ((laws_lwSameBytes.f t191 t168).bind fun t217 => (if t217 = true then (some ((decide ((t214.length : Int) > 0)) == false)) else (some false)))) else (none)))) else (none)) else ((some (([] : List Int) : List Int)).bind fun y218 => (if y218.length + t168.length < 140737488355328 then ((impl_Unescape.f (y218 ++ t168) (!x5_6)).bind fun t224 => ((laws_lwSameBytes.f t191 t168).bind fun t227 => (if t227 = true then (some ((decide ((t224.length : Int) > 0)) == false)) else (some false)))) else (none)))) else (none)) else ((some (([] : List Int) : List Int)).bind fun y228 => (if y228.length + t168.length < 140737488355328 then ((impl_Unescape.f (y228 ++ t168) (!x5_6)).bind fun t234 => ((laws_lwSameBytes.f t191 t168).bind fun t237 => (if t237 = true then (some ((decide ((t234.length : Int) > 0)) == false)) else (some false)))) else (none)))) else (none))) = some r := by first | (rw [hy188]; with_reducible exact H) | (have H2_ := (Option.bind_some _ _).symm.trans H; rw [hy188]; with_reducible exact H2_) | (have H2_ := (Option.bind_some _ _).symm.trans H; with_reducible exact H2_) | with_reducible exact H | (rw [hy188]; exact H) | exact H
                  have Ny188 := Aside0.mk hy188
                  clear hy188
                  replace H := Option.bind_eq_some_iff.mp H
                  obtain ⟨t191, A340, H⟩ := H
                  replace H : (if 0 < (t168.length : Int) then (if (rd t168 0) = 0 then (if 1 < (t168.length : Int) then (if (rd t168 1) = 0 then (if 2 < (t168.length : Int) then (if (rd t168 2) = 0 then (if 3 < (t168.length : Int) then ((some (([] : List Int) : List Int)).bind fun y198 => (if y198.length + t168.length < 140737488355328 then ((impl_Unescape.f (y198 ++ t168) (!x5_6)).bind fun t204 => ((laws_lwSameBytes.f t191 t168).bind fun t207 => (if t207 = true then (some ((decide ((t204.length : Int) > 0)) == ((rd t168 3) == 0))) else (some false)))) else (none))) else (none)) else ((some (([] : List Int) : List Int)).bind fun y208 => (if y208.length + t168.length < 140737488355328 then ((impl_Unescape.f (y208 ++ t168) (!x5_6)).bind fun t214 => ((laws_lwSameBytes.f t191 t168).bind fun t217 => (if t217 = true then (some ((decide ((t214.length : Int) > 0)) == false)) else (some false)))) else (none)))) else (none)) else ((some (([] : List Int) : List Int)).bind fun y218 => (if y218.length + t168.length < 140737488355328 then ((impl_Unescape.f (y218 ++ t168) (!x5_6)).bind fun t224 => ((laws_lwSameBytes.f t191 t168).bind fun t227 => (if t227 = true then (some ((decide ((t224.length : Int) > 0)) == false)) else (some false)))) else (none)))) else (none)) else ((some (([] : List Int) : List Int)).bind fun y228 => (if y228.length + t168.length < 140737488355328 then ((impl_Unescape.f (y228 ++ t168) (!x5_6)).bind fun t234 => ((laws_lwSameBytes.f t191 t168).bind fun t237 => (if t237 = true then (some ((decide ((t234.length : Int) > 0)) == false)) else (some false)))) else (none)))) else (none)) = some r := H
                  have A34 := Aside0.mk A340
                  clear A340
                  by_cases c35 : 0 < (t168.length : Int)
                  · rw [if_pos c35] at H
                    have c35b0 : decide (0 < (t168.length : Int)) = true := decide_eq_true c35
                    have c35b1 : decide (0 < t168.length) = true := decide_eq_true (by omega)
                    clear c35
                    by_cases c36 : (rd t168 0) = 0
                    · rw [if_pos c36] at H
                      have c36b0 : ((rd t168 0) == 0) = true := beq_iff_eq.mpr c36
                      have c36b1 : ((rd t168 0) != 0) = false := bne_eq_false_iff_eq.mpr c36
                      clear c36
                      by_cases c37 : 1 < (t168.length : Int)
                      · rw [if_pos c37] at H
                        have c37b0 : decide (1 < (t168.length : Int)) = true := decide_eq_true c37
                        have c37b1 : decide (1 < t168.length) = true := decide_eq_true (by omega)
                        clear c37
                        by_cases c38 : (rd t168 1) = 0
                        · rw [if_pos c38] at H
                          have c38b0 : ((rd t168 1) == 0) = true := beq_iff_eq.mpr c38
                          have c38b1 : ((rd t168 1) != 0) = false := bne_eq_false_iff_eq.mpr c38
                          clear c38
                          by_cases c39 : 2 < (t168.length : Int)
                          · rw [if_pos c39] at H
                            have c39b0 : decide (2 < (t168.length : Int)) = true := decide_eq_true c39
                            have c39b1 : decide (2 < t168.length) = true := decide_eq_true (by omega)
                            clear c39
                            by_cases c40 : (rd t168 2) = 0
                            · rw [if_pos c40] at H
                              have c40b0 : ((rd t168 2) == 0) = true := beq_iff_eq.mpr c40
                              have c40b1 : ((rd t168 2) != 0) = false := bne_eq_false_iff_eq.mpr c40
                              clear c40
                              by_cases c41 : 3 < (t168.length : Int)
                              · rw [if_pos c41] at H
                                have c41b0 : decide (3 < (t168.length : Int)) = true := decide_eq_true c41
                                have c41b1 : decide (3 < t168.length) = true := decide_eq_true (by omega)
                                clear c41
                                obtain ⟨y198, hy198⟩ : ∃ y_ : List Int, y_ = (([] : List Int)) := ⟨_, rfl⟩
                                replace H : (if y198.length + t168.length < 140737488355328 then ((impl_Unescape.f (y198 ++ t168) (!x5_6)).bind fun t204 => ((laws_lwSameBytes.f t191 t168).bind fun t207 => (if t207 = true then (some ((decide ((t204.length : Int) > 0)) == ((rd t168 3) == 0))) else (some false)))) else (none)) = some r := by first | (rw [hy198]; with_reducible exact H) | (have H2_ := (Option.bind_some _ _).symm.trans H; rw [hy198]; with_reducible exact H2_) | (have H2_ := (Option.bind_some _ _).symm.trans H; with_reducible exact H2_) | with_reducible exact H | (rw [hy198]; exact H) | exact H
                                have Ny198 := Aside0.mk hy198
                                clear hy198
                                by_cases c42 : y198.length + t168.length < 140737488355328
                                · rw [if_pos c42] at H
                                  have LMc42 := Aside0.mk c42
                                  clear c42
                                  obtain ⟨y201, hy201⟩ : ∃ y_ : List Int, y_ = (y198 ++ t168) := ⟨_, rfl⟩
                                  replace H : ((impl_Unescape.f y201 (!x5_6)).bind fun t204 => ((laws_lwSameBytes.f t191 t168).bind fun t207 => (if t207 = true then (some ((decide ((t204.length : Int) > 0)) == ((rd t168 3) == 0))) else (some false)))) = some r := by first | (rw [hy201]; with_reducible exact H) | (have H2_ := (Option.bind_some _ _).symm.trans H; rw [hy201]; with_reducible exact H2_) | (have H2_ := (Option.bind_some _ _).symm.trans H; with_reducible exact H2_) | with_reducible exact H | (rw [hy201]; exact H) | exact H
                                  have Ny201 := Aside0.mk hy201
                                  clear hy201
                                  replace H := Option.bind_eq_some_iff.mp H
                                  obtain ⟨t204, A430, H⟩ := H
                                  replace H : ((laws_lwSameBytes.f t191 t168).bind fun t207 => (if t207 = true then (some ((decide ((t204.length : Int) > 0)) == ((rd t168 3) == 0))) else (some false))) = some r := H
                                  have A43 := Aside0.mk A430
                                  clear A430
                                  replace H := Option.bind_eq_some_iff.mp H
                                  obtain ⟨t207, A440, H⟩ := H
                                  replace H : (if t207 = true then (some ((decide ((t204.length : Int) > 0)) == ((rd t168 3) == 0))) else (some false)) = some r := H
                                  have A44 := Aside0.mk A440
                                  clear A440
                                  by_cases c45 : t207 = true
                                  · subst c45
                                    have H1 : (some ((decide ((t204.length : Int) > 0)) == ((rd t168 3) == 0))) = some r := by rw [if_pos rfl] at H; exact H
                                    clear H
                                    have H := H1
                                    clear H1
                                    obtain rfl := Option.some.inj H
                                    try go_wp2
                                    have n0_ := Aside0.mk (Kd.R_drew HO_3.out)
                                    have n1_ := Aside0.mk (Kd.R_drew HO_180001.out)
                                    have n2_ := Aside0.mk (blk_drew BK179.out)
                                    have n3_ := Aside0.mk (below_drew1 HB.out)
                                    clear HO_3
                                    clear HO_180001
                                    clear BK179
                                    clear HB
                                    have HO_3 := n0_
                                    have HO_180001 := n1_
                                    have BK179 := n2_
                                    have HB := n3_
                                    clear n0_ n1_ n2_ n3_
                                    refine start_ (n := 8) (S := fun w' => w'.cell? ⟨gb179, 0, none⟩ = some (.bool t174) ∧ w'.cell? ⟨gb179, 1, none⟩ = some (.slice Ao14 t175.length co14) ∧ w'.cell? ⟨gb179, 2, none⟩ = some (.bool t178)) (ds := []) #[false, false, false, false, false, false, false, false] (by kernel_rfl) rfl rfl ⟨(blk_cell BK179.out 0).trans rfl, (blk_cell BK179.out 1).trans rfl, (blk_cell BK179.out 2).trans rfl⟩ (fun hHeld => ?_); refine with_tabW laws_FnEscape.tab10 laws_FnEscape.bits10 (fun HT_ HW_ => ?_)
                                    generalize wc.drew = w46 at HO_3 HO_180001 BK179 HB hHeld ⊢
                                    refine pure_ (i := 1) (N := some 73) (v := ?_) (a' := ?_) #[false, true, false, false, false, false, false, false] rfl rfl (any_of HT_.out (by kernel_rfl)) (fun _ _ _ h => h) (Or.inl ⟨by rfl, ?_⟩) ?_ ?_
                                    rotate_left
                                    · intro w'
                                      go_simp
                                      with_reducible rfl
                                    rotate_left
                                    · simp only [Act.put, List.setIfInBounds_toArray, List.set_cons_zero, List.set_cons_succ, i64_w, i32_w]
                                      rfl
                                    refine pure_ (i := 4) (N := some 76) (v := ?_) (a' := ?_) #[false, true, false, false, true, false, false, false] rfl rfl (any_of HT_.out (by kernel_rfl)) (fun _ _ _ h => h) (Or.inl ⟨by rfl, ?_⟩) ?_ ?_
                                    rotate_left
                                    · intro w'
                                      go_simp
                                      with_reducible rfl
                                    rotate_left
                                    · simp only [Act.put, List.setIfInBounds_toArray, List.set_cons_zero, List.set_cons_succ, i64_w, i32_w]
                                      rfl
                                    refine take_ (i := 2) (N := some 74) (v := ?_) (a' := ?_) #[false, true, true, false, true, false, false, false] rfl rfl (take_ofW HT_.out HW_.out (by kernel_rfl)) (fun _ _ _ h => h) (Or.inl ⟨by rfl, ?_⟩) hHeld ?_ ?_
                                    rotate_left
                                    · rintro w' ⟨s0, s1, s2⟩
                                      go_simp
                                      with_reducible rfl
                                    rotate_left
                                    · simp only [Act.put, List.setIfInBounds_toArray, List.set_cons_zero, List.set_cons_succ, i64_w, i32_w]
                                      rfl
                                    refine take_ (i := 5) (N := some 77) (v := ?_) (a' := ?_) #[false, true, true, false, true, true, false, false] rfl rfl (take_ofW HT_.out HW_.out (by kernel_rfl)) (fun _ _ _ h => h) (Or.inl ⟨by rfl, ?_⟩) hHeld ?_ ?_
                                    rotate_left
                                    · rintro w' ⟨s0, s1, s2⟩
                                      go_simp
                                      with_reducible rfl
                                    rotate_left
                                    · simp only [Act.put, List.setIfInBounds_toArray, List.set_cons_zero, List.set_cons_succ, i64_w, i32_w]
                                      rfl
                                    refine one_ (i := 0) (N := some 72) #[true, true, true, false, true, true, false, false] rfl rfl (one_of HT_.out (by kernel_rfl)) (by decide) (fun K hK => ?_)
                                    refine Kd.R_lit_step (Kd.int .u8) _ 5 ?hg (N := 72) ?hd (xs := ([] : List Int)) (inner := []) (ok := fun _ => True) (okp := fun _ => True) ?hr ?hp (fun _ hk => hk) trivial (Below.refl _ _) (Nat.le_refl _) (by simp) ?_; (case hd => rfl); (case hg => rfl); (case hr => first | (go_simp; done) | (go_simp; rfl)); (case hp => exact (Reps.none _ _))
                                    intro v186 w47 ho48 hb hg_ hnew_
                                    clear hg_ hnew_
                                    (first | rw [← Ny185.out] at ho48 | (simp only [Int.reduceToNat] at ho48; rw [← Ny185.out] at ho48))
                                    have n0_ := Aside0.mk (Kd.R_elder' (by (with_reducible repeat (first | apply Kd.R_alloc | apply Kd.R_drewN | apply Kd.R_drew)); exact HO_3.out) (Kd.R_base ho48) hb)
                                    have n1_ := Aside0.mk (Kd.R_elder' (by (with_reducible repeat (first | apply Kd.R_alloc | apply Kd.R_drewN | apply Kd.R_drew)); exact HO_180001.out) (Kd.R_base ho48) hb)
                                    have n2_ := Aside0.mk (Kd.R_lower (Kd.R_new' (Kd.R_new' ho48 (Kd.R_lt (by (with_reducible repeat (first | apply Kd.R_alloc | apply Kd.R_drewN | apply Kd.R_drew)); exact HO_3.out))) (Kd.R_lt (by (with_reducible repeat (first | apply Kd.R_alloc | apply Kd.R_drewN | apply Kd.R_drew)); exact HO_180001.out))) (below_size (by repeat (first | (with_reducible first | exact HB.out | apply below_alloc | apply pw_below_drewN | apply below_drew1 | refine below_set ?_ GE179.out) | exact HB.out))))
                                    have n3_ := Aside0.mk (blk_below (g := gb179) (o := .cells #[.bool t174, .slice Ao14 t175.length co14, .bool t178] 29 (0, 0)) (by (with_reducible repeat (first | refine blk_drewN ?_ _ | refine blk_drew ?_ | refine blk_alloc ?_ _)); exact BK179.out) hb)
                                    have n4_ := Aside0.mk (below_step (by repeat (first | (with_reducible first | exact HB.out | apply below_alloc | apply pw_below_drewN | apply below_drew1 | refine below_set ?_ GE179.out) | exact HB.out)) hb)
                                    clear HO_3
                                    clear HO_180001
                                    clear BK179
                                    clear HB
                                    have HO_3 := n0_
                                    have HO_180001 := n1_
                                    have HO187 := n2_
                                    have BK179 := n3_
                                    have HB := n4_
                                    clear n0_ n1_ n2_ n3_ n4_
                                    clear hb ho48
                                    refine hK.out _ _ ⟨(blk_cell BK179.out 0).trans rfl, (blk_cell BK179.out 1).trans rfl, (blk_cell BK179.out 2).trans rfl⟩ (fun hHeld => ?_)
                                    clear hK K
                                    refine norm_ (a' := ?_) ?_ ?_
                                    rotate_left
                                    · show Act.put _ (some 72) _ = _
                                      simp only [Act.put, List.setIfInBounds_toArray, List.set_cons_zero, List.set_cons_succ, i64_w, i32_w]
                                      rfl
                                    refine one_ (i := 3) (N := some 75) #[true, true, true, true, true, true, false, false] rfl rfl (one_of HT_.out (by kernel_rfl)) (by decide) (fun K hK => ?_)
                                    refine Kd.R_append_rows_step (Kd.int .u8) (w0 := w) w.heap.size (by rfl) (.tmp 72) (.tmp 74) 22 5 (.int .u8 0) 1 rfl Try.underlying22 info5 rfl (by decide) (by omega) v186 y185 t175 _ _ _ (fun k_ => some k_ ≠ (.slice Ao15 t168.length co15 : Value).ownBlock ∧ some k_ ≠ (.slice Ao14 t175.length co14 : Value).ownBlock) (fun _ => False) rfl rfl ?aO ?aR (fun _ _ h => h) (fun _ h => h.elim) ?aF ?aB ?aS ?aL ?_
                                    (case aR => repeat (first | exact (Kd.R_reads' HO_180001.out).2.2 | (with_reducible refine Kd.C_alloc ?_ _) | (with_reducible refine Kd.C_drewN ?_ _) | (with_reducible refine Kd.C_drew ?_)))
                                    (case aB => exact (by repeat (first | (with_reducible first | exact HB.out | apply below_alloc | apply pw_below_drewN | apply below_drew1 | refine below_set ?_ GE179.out) | exact HB.out)))
                                    (case aF => exact (fun k_ hk => ⟨Kd.fresh' (Kd.R_lt (by (with_reducible repeat (first | apply Kd.R_alloc | apply Kd.R_drewN | apply Kd.R_drew)); exact HO_3.out)) k_ hk, Kd.fresh' (Kd.R_lt (by (with_reducible repeat (first | apply Kd.R_alloc | apply Kd.R_drewN | apply Kd.R_drew)); exact HO_180001.out)) k_ hk⟩))
                                    (case aO => exact (by (with_reducible repeat (first | apply Kd.R_alloc | apply Kd.R_drewN | apply Kd.R_drew)); exact Kd.R_mono HO187.out (fun _ hk => ⟨hk.1.2, hk.2⟩)))
                                    (case aS => exact (below_size (by repeat (first | (with_reducible first | exact HB.out | apply below_alloc | apply pw_below_drewN | apply below_drew1 | refine below_set ?_ GE179.out) | exact HB.out))))
                                    (case aL => have := LMc33.out; omega)
                                    intro v189 w49 ho hb hg hat
                                    rw [← Ny188.out] at ho
                                    have n0_ := Aside0.mk (Kd.R_after (ok := (fun k_ => some k_ ≠ (.slice Ao14 t175.length co14 : Value).ownBlock)) (by (with_reducible repeat (first | apply Kd.R_alloc | apply Kd.R_drewN | apply Kd.R_drew)); exact HO_3.out) hg hat)
                                    have n1_ := Aside0.mk (Kd.R_after (ok := (fun k_ => some k_ ≠ (.slice Ao15 t168.length co15 : Value).ownBlock)) (by (with_reducible repeat (first | apply Kd.R_alloc | apply Kd.R_drewN | apply Kd.R_drew)); exact HO_180001.out) hg hat)
                                    have n2_ := Aside0.mk (blk_grown (g := gb179) (o := .cells #[.bool t174, .slice Ao14 t175.length co14, .bool t178] 29 (0, 0)) (by (with_reducible repeat (first | refine blk_drewN ?_ _ | refine blk_drew ?_ | refine blk_alloc ?_ _)); exact BK179.out) hg (Kd.R_ne HO187.out BK179.out (by decide)))
                                    have n3_ := Aside0.mk (hb)
                                    have n4_ := Aside0.mk (ho)
                                    clear HO_3
                                    clear HO_180001
                                    clear BK179
                                    clear HB
                                    clear HO187
                                    have HO_3 := n0_
                                    have HO_180001 := n1_
                                    have BK179 := n2_
                                    have HB := n3_
                                    have HO190 := n4_
                                    clear n0_ n1_ n2_ n3_ n4_
                                    clear ho hb hg hat
                                    obtain ⟨Ao50, co50, eo50⟩ := Kd.R_slice HO190.out
                                    (first | subst eo50 | (injection eo50 with f1_ f2_ f3_; have f4_ := f1_.symm; have f5_ := f3_.symm; clear f1_ f2_ f3_; subst f4_; subst f5_))
                                    refine hK.out _ _ ⟨(blk_cell BK179.out 0).trans rfl, (blk_cell BK179.out 1).trans rfl, (blk_cell BK179.out 2).trans rfl⟩ (fun hHeld => ?_)
                                    clear hK K
                                    refine norm_ (a' := ?_) ?_ ?_
                                    rotate_left
                                    · show Act.put _ (some 75) _ = _
                                      simp only [Act.put, List.setIfInBounds_toArray, List.set_cons_zero, List.set_cons_succ, i64_w, i32_w]
                                      rfl
                                    refine one_ (i := 6) (N := some 78) #[true, true, true, true, true, true, true, false] rfl rfl (one_of HT_.out (by kernel_rfl)) (by decide) (fun K hK => ?_)
                                    refine goes_ Try.func17 (by kernel_rfl) rfl #[.slice Ao50 y188.length co50, .bool t178] (by rfl) rfl rfl (by (try simp only [List.map_toArray, List.map_cons, List.map_nil]); first | done | rfl | (simp only [List.length_drop, List.length_take]; rfl)) ?_
                                    with_reducible refine (impl_Unescape.calls _ _ y188 t178 t191 _ ?side1 ?side2 A34.out).mono ?_
                                    (case side1 => repeat (first | exact (Kd.R_reads' HO190.out).2.2 | (with_reducible refine Kd.C_alloc ?_ _) | (with_reducible refine Kd.C_drewN ?_ _) | (with_reducible refine Kd.C_drew ?_)))
                                    (case side2 => exact (Kd.R_reads' HO190.out).2.1)
                                    rintro e w51 ⟨v192, rfl, ho0, hb⟩
                                    refine ⟨_, rfl, ?_⟩
                                    have n0_ := Aside0.mk (Kd.R_elder' (by (with_reducible repeat (first | apply Kd.R_alloc | apply Kd.R_drewN | apply Kd.R_drew)); exact HO_3.out) (Kd.R_base ho0) hb)
                                    have n1_ := Aside0.mk (Kd.R_elder' (by (with_reducible repeat (first | apply Kd.R_alloc | apply Kd.R_drewN | apply Kd.R_drew)); exact HO_180001.out) (Kd.R_base ho0) hb)
                                    have n2_ := Aside0.mk (Kd.R_elder' (by (with_reducible repeat (first | apply Kd.R_alloc | apply Kd.R_drewN | apply Kd.R_drew)); exact HO190.out) (Kd.R_base ho0) hb)
                                    have n3_ := Aside0.mk (Kd.R_lower (Kd.R_new' (Kd.R_new' (Kd.R_new' ho0 (Kd.R_lt (by (with_reducible repeat (first | apply Kd.R_alloc | apply Kd.R_drewN | apply Kd.R_drew)); exact HO_3.out))) (Kd.R_lt (by (with_reducible repeat (first | apply Kd.R_alloc | apply Kd.R_drewN | apply Kd.R_drew)); exact HO_180001.out))) (Kd.R_lt (by (with_reducible repeat (first | apply Kd.R_alloc | apply Kd.R_drewN | apply Kd.R_drew)); exact HO190.out))) (below_size (by repeat (first | (with_reducible first | exact HB.out | apply below_alloc | apply pw_below_drewN | apply below_drew1 | refine below_set ?_ GE179.out) | exact HB.out))))
                                    have n4_ := Aside0.mk (blk_below (g := gb179) (o := .cells #[.bool t174, .slice Ao14 t175.length co14, .bool t178] 29 (0, 0)) (by (with_reducible repeat (first | refine blk_drewN ?_ _ | refine blk_drew ?_ | refine blk_alloc ?_ _)); exact BK179.out) hb)
                                    have n5_ := Aside0.mk (below_step (by repeat (first | (with_reducible first | exact HB.out | apply below_alloc | apply pw_below_drewN | apply below_drew1 | refine below_set ?_ GE179.out) | exact HB.out)) hb)
                                    clear HO_3
                                    clear HO_180001
                                    clear HO190
                                    clear BK179
                                    clear HB
                                    have HO_3 := n0_
                                    have HO_180001 := n1_
                                    have HO190 := n2_
                                    have HO193 := n3_
                                    have BK179 := n4_
                                    have HB := n5_
                                    clear n0_ n1_ n2_ n3_ n4_ n5_
                                    (try clear hb)
                                    (try clear hb2)
                                    (try clear hk)
                                    (try clear hi)
                                    (try clear ho0)
                                    refine hK.out _ _ ⟨(blk_cell BK179.out 0).trans rfl, (blk_cell BK179.out 1).trans rfl, (blk_cell BK179.out 2).trans rfl⟩ (fun hHeld => ?_)
                                    clear hK K
                                    refine norm_ (a' := ?_) ?_ ?_
                                    rotate_left
                                    · show Act.put _ (some 78) _ = _
                                      simp only [Act.put, List.setIfInBounds_toArray, List.set_cons_zero, List.set_cons_succ, i64_w, i32_w]
                                      rfl
                                    refine pure_ (i := 7) (N := some 6) (v := ?_) (a' := ?_) #[true, true, true, true, true, true, true, true] rfl rfl (any_of HT_.out (by kernel_rfl)) (fun _ _ _ h => h) (Or.inl ⟨by rfl, ?_⟩) ?_ ?_
                                    rotate_left
                                    · intro w'
                                      go_simp
                                      with_reducible rfl
                                    rotate_left
                                    · simp only [Act.put, List.setIfInBounds_toArray, List.set_cons_zero, List.set_cons_succ, i64_w, i32_w]
                                      rfl
                                    refine done_ (done_of HT_.out (by kernel_rfl)) ?_
                                    have p194 : 0 ≤ (0 : Int) := (by omega)
                                    have q194 : 0 < (t168.length : Int) := of_decide_eq_true (by first | (with_reducible assumption) | assumption)
                                    obtain ⟨ad194, e194, hx194_0⟩ := Kd.at_int (Kd.R_reads' HO_3.out).2.2 0 p194 q194
                                    cases e194
                                    have qi194 : (0 < t168.length) = True := eq_true (by omega)
                                    (try rw [show ((0 : Int)).toNat = 0 from rfl] at hx194_0)
                                    (try rw [Addr.add_zero'] at hx194_0)
                                    replace p194 := eq_true p194
                                    replace q194 := eq_true q194
                                    have p195 : 0 ≤ (1 : Int) := (by omega)
                                    have q195 : 1 < (t168.length : Int) := of_decide_eq_true (by first | (with_reducible assumption) | assumption)
                                    obtain ⟨ad195, e195, hx195_0⟩ := Kd.at_int (Kd.R_reads' HO_3.out).2.2 1 p195 q195
                                    obtain rfl : ad194 = ad195 := (by injection e195)
                                    (try simp only [show (1 : Int).toNat = 1 from rfl, Nat.reduceMul, Nat.reduceEqDiff, Go.Addr.add, ↓reduceIte] at hx195_0)
                                    have qi195 : (1 < t168.length) = True := eq_true (by omega)
                                    (try rw [show ((1 : Int)).toNat = 1 from rfl] at hx195_0)
                                    replace p195 := eq_true p195
                                    replace q195 := eq_true q195
                                    have p196 : 0 ≤ (2 : Int) := (by omega)
                                    have q196 : 2 < (t168.length : Int) := of_decide_eq_true (by first | (with_reducible assumption) | assumption)
                                    obtain ⟨ad196, e196, hx196_0⟩ := Kd.at_int (Kd.R_reads' HO_3.out).2.2 2 p196 q196
                                    obtain rfl : ad194 = ad196 := (by injection e196)
                                    (try simp only [show (2 : Int).toNat = 2 from rfl, Nat.reduceMul, Nat.reduceEqDiff, Go.Addr.add, ↓reduceIte] at hx196_0)
                                    have qi196 : (2 < t168.length) = True := eq_true (by omega)
                                    (try rw [show ((2 : Int)).toNat = 2 from rfl] at hx196_0)
                                    replace p196 := eq_true p196
                                    replace q196 := eq_true q196
                                    have p197 : 0 ≤ (3 : Int) := (by omega)
                                    have q197 : 3 < (t168.length : Int) := of_decide_eq_true (by first | (with_reducible assumption) | assumption)
                                    obtain ⟨ad197, e197, hx197_0⟩ := Kd.at_int (Kd.R_reads' HO_3.out).2.2 3 p197 q197
                                    obtain rfl : ad194 = ad197 := (by injection e197)
                                    (try simp only [show (3 : Int).toNat = 3 from rfl, Nat.reduceMul, Nat.reduceEqDiff, Go.Addr.add, ↓reduceIte] at hx197_0)
                                    have qi197 : (3 < t168.length) = True := eq_true (by omega)
                                    (try rw [show ((3 : Int)).toNat = 3 from rfl] at hx197_0)
                                    replace p197 := eq_true p197
                                    replace q197 := eq_true q197
                                    try go_wp2_with (first | ((with_reducible refine gate_dst (N := 101) rfl ?_); (try (refine gate_guard (by rfl) ?_; dsimp only)); refine Kd.R_lit (Kd.int .u8) _ 5 ?hg (N := 101) ?hd (xs := ([] : List Int)) (inner := []) (ok := fun _ => True) (okp := fun _ => True) ?hr ?hp (fun _ hk => hk) trivial (Below.refl _ _) (Nat.le_refl _) (by simp) ?_; (case hd => rfl); (case hg => rfl); (case hr => first | (go_simp; done) | (go_simp; rfl)); (case hp => exact (Reps.none _ _)); intro v199 w52 ho53 hb hg_ hnew_; clear hg_ hnew_; (first | rw [← Ny198.out] at ho53 | (simp only [Int.reduceToNat] at ho53; rw [← Ny198.out] at ho53)); have n0_ := Aside0.mk (Kd.R_elder' (by (with_reducible repeat (first | apply Kd.R_alloc | apply Kd.R_drewN | apply Kd.R_drew)); exact HO_3.out) (Kd.R_base ho53) hb); have n1_ := Aside0.mk (Kd.R_elder' (by (with_reducible repeat (first | apply Kd.R_alloc | apply Kd.R_drewN | apply Kd.R_drew)); exact HO_180001.out) (Kd.R_base ho53) hb); have n2_ := Aside0.mk (Kd.R_elder' (by (with_reducible repeat (first | apply Kd.R_alloc | apply Kd.R_drewN | apply Kd.R_drew)); exact HO190.out) (Kd.R_base ho53) hb); have n3_ := Aside0.mk (Kd.R_elder' (by (with_reducible repeat (first | apply Kd.R_alloc | apply Kd.R_drewN | apply Kd.R_drew)); exact HO193.out) (Kd.R_base ho53) hb); have n4_ := Aside0.mk (Kd.R_lower (Kd.R_new' (Kd.R_new' (Kd.R_new' (Kd.R_new' ho53 (Kd.R_lt (by (with_reducible repeat (first | apply Kd.R_alloc | apply Kd.R_drewN | apply Kd.R_drew)); exact HO_3.out))) (Kd.R_lt (by (with_reducible repeat (first | apply Kd.R_alloc | apply Kd.R_drewN | apply Kd.R_drew)); exact HO_180001.out))) (Kd.R_lt (by (with_reducible repeat (first | apply Kd.R_alloc | apply Kd.R_drewN | apply Kd.R_drew)); exact HO190.out))) (Kd.R_lt (by (with_reducible repeat (first | apply Kd.R_alloc | apply Kd.R_drewN | apply Kd.R_drew)); exact HO193.out))) (below_size (by repeat (first | (with_reducible first | exact HB.out | apply below_alloc | apply pw_below_drewN | apply below_drew1 | refine below_set ?_ GE179.out) | exact HB.out)))); have n5_ := Aside0.mk (blk_below (g := gb179) (o := .cells #[.bool t174, .slice Ao14 t175.length co14, .bool t178] 29 (0, 0)) (by (with_reducible repeat (first | refine blk_drewN ?_ _ | refine blk_drew ?_ | refine blk_alloc ?_ _)); exact BK179.out) hb); have n6_ := Aside0.mk (below_step (by repeat (first | (with_reducible first | exact HB.out | apply below_alloc | apply pw_below_drewN | apply below_drew1 | refine below_set ?_ GE179.out) | exact HB.out)) hb); clear HO_3; clear HO_180001; clear HO190; clear HO193; clear BK179; clear HB; have HO_3 := n0_; have HO_180001 := n1_; have HO190 := n2_; have HO193 := n3_; have HO200 := n4_; have BK179 := n5_; have HB := n6_; clear n0_ n1_ n2_ n3_ n4_ n5_ n6_; clear hb ho53) | ((with_reducible refine gate_builtin (b := .append) (xs := #[.tmp 101, .tmp 102]) rfl ?_); (try (refine gate_guard (by rfl) ?_; dsimp only)); at_builtin; refine Kd.R_append_rows (Kd.int .u8) (w0 := w) w.heap.size rfl (.tmp 101) (.tmp 102) 22 5 (.int .u8 0) 1 rfl Try.underlying22 info5 rfl (by decide) (by omega) v199 y198 t168 _ _ _ (fun k_ => some k_ ≠ (.slice (some ad194) t168.length co15 : Value).ownBlock ∧ some k_ ≠ (.slice Ao14 t175.length co14 : Value).ownBlock ∧ some k_ ≠ (.slice Ao50 y188.length co50 : Value).ownBlock ∧ some k_ ≠ (v192 : Value).ownBlock) (fun _ => False) rfl rfl ?aO ?aR (fun _ _ h => h) (fun _ h => h.elim) ?aF ?aB ?aS ?aL ?_; (case aR => repeat (first | exact (Kd.R_reads' HO_3.out).2.2 | (with_reducible refine Kd.C_alloc ?_ _) | (with_reducible refine Kd.C_drewN ?_ _) | (with_reducible refine Kd.C_drew ?_))); (case aB => exact (by repeat (first | (with_reducible first | exact HB.out | apply below_alloc | apply pw_below_drewN | apply below_drew1 | refine below_set ?_ GE179.out) | exact HB.out))); (case aF => exact (fun k_ hk => ⟨Kd.fresh' (Kd.R_lt (by (with_reducible repeat (first | apply Kd.R_alloc | apply Kd.R_drewN | apply Kd.R_drew)); exact HO_3.out)) k_ hk, Kd.fresh' (Kd.R_lt (by (with_reducible repeat (first | apply Kd.R_alloc | apply Kd.R_drewN | apply Kd.R_drew)); exact HO_180001.out)) k_ hk, Kd.fresh' (Kd.R_lt (by (with_reducible repeat (first | apply Kd.R_alloc | apply Kd.R_drewN | apply Kd.R_drew)); exact HO190.out)) k_ hk, Kd.fresh' (Kd.R_lt (by (with_reducible repeat (first | apply Kd.R_alloc | apply Kd.R_drewN | apply Kd.R_drew)); exact HO193.out)) k_ hk⟩)); (case aO => exact (by (with_reducible repeat (first | apply Kd.R_alloc | apply Kd.R_drewN | apply Kd.R_drew)); exact Kd.R_mono HO200.out (fun _ hk => ⟨hk.1.1.1.2, ⟨hk.1.1.2, ⟨hk.1.2, hk.2⟩⟩⟩))); (case aS => exact (below_size (by repeat (first | (with_reducible first | exact HB.out | apply below_alloc | apply pw_below_drewN | apply below_drew1 | refine below_set ?_ GE179.out) | exact HB.out)))); (case aL => have := LMc42.out; omega); intro v202 w54 ho hb hg hat; rw [← Ny201.out] at ho; have n0_ := Aside0.mk (Kd.R_after (ok := (fun k_ => some k_ ≠ (.slice Ao14 t175.length co14 : Value).ownBlock ∧ some k_ ≠ (.slice Ao50 y188.length co50 : Value).ownBlock ∧ some k_ ≠ (v192 : Value).ownBlock)) (by (with_reducible repeat (first | apply Kd.R_alloc | apply Kd.R_drewN | apply Kd.R_drew)); exact Kd.R_mono HO_3.out (fun _ hk => ⟨⟨hk.1.1.1, ⟨hk.1.1.2, hk.1.2⟩⟩, hk.2⟩)) hg hat); have n1_ := Aside0.mk (Kd.R_after (ok := (fun k_ => some k_ ≠ (.slice (some ad194) t168.length co15 : Value).ownBlock ∧ some k_ ≠ (.slice Ao50 y188.length co50 : Value).ownBlock ∧ some k_ ≠ (v192 : Value).ownBlock)) (by (with_reducible repeat (first | apply Kd.R_alloc | apply Kd.R_drewN | apply Kd.R_drew)); exact Kd.R_mono HO_180001.out (fun _ hk => ⟨⟨hk.1.1.1, ⟨hk.1.1.2, hk.1.2⟩⟩, hk.2⟩)) hg hat); have n2_ := Aside0.mk (blk_grown (g := gb179) (o := .cells #[.bool t174, .slice Ao14 t175.length co14, .bool t178] 29 (0, 0)) (by (with_reducible repeat (first | refine blk_drewN ?_ _ | refine blk_drew ?_ | refine blk_alloc ?_ _)); exact BK179.out) hg (Kd.R_ne HO200.out BK179.out (by decide))); have n3_ := Aside0.mk (Kd.R_after (ok := (fun k_ => some k_ ≠ (.slice (some ad194) t168.length co15 : Value).ownBlock ∧ some k_ ≠ (.slice Ao14 t175.length co14 : Value).ownBlock ∧ some k_ ≠ (v192 : Value).ownBlock)) (by (with_reducible repeat (first | apply Kd.R_alloc | apply Kd.R_drewN | apply Kd.R_drew)); exact Kd.R_mono HO190.out (fun _ hk => ⟨⟨hk.1.1.1, ⟨hk.1.1.2, hk.1.2⟩⟩, hk.2⟩)) hg hat); have n4_ := Aside0.mk (Kd.R_after (ok := (fun k_ => some k_ ≠ (.slice (some ad194) t168.length co15 : Value).ownBlock ∧ some k_ ≠ (.slice Ao14 t175.length co14 : Value).ownBlock ∧ some k_ ≠ (.slice Ao50 y188.length co50 : Value).ownBlock)) (by (with_reducible repeat (first | apply Kd.R_alloc | apply Kd.R_drewN | apply Kd.R_drew)); exact Kd.R_mono HO193.out (fun _ hk => ⟨⟨hk.1.1.1.2, ⟨hk.1.1.2, hk.1.2⟩⟩, hk.2⟩)) hg hat); have n5_ := Aside0.mk (hb); have n6_ := Aside0.mk (ho); clear HO_3; clear HO_180001; clear BK179; clear HO190; clear HO193; clear HB; clear HO200; have HO_3 := n0_; have HO_180001 := n1_; have BK179 := n2_; have HO190 := n3_; have HO193 := n4_; have HB := n5_; have HO203 := n6_; clear n0_ n1_ n2_ n3_ n4_ n5_ n6_; clear ho hb hg hat; obtain ⟨Ao55, co55, eo55⟩ := Kd.R_slice HO203.out; subst eo55) | ((with_reducible refine gate_callee (f := 17) rfl ?_); refine goesL_ (some 106) rfl rfl Try.func17 (by kernel_rfl) rfl #[.slice Ao55 y201.length co55, .bool (!x5_6)] rfl (by (try simp only [List.map_toArray, List.map_cons, List.map_nil]); first | done | rfl | (simp only [List.length_drop, List.length_take]; rfl)) ?_; (with_reducible refine (impl_Unescape.calls _ _ y201 (!x5_6) t204 _ ?side1 ?side2 A43.out).mono ?_); (case side1 => repeat (first | exact (Kd.R_reads' HO203.out).2.2 | (with_reducible refine Kd.C_alloc ?_ _) | (with_reducible refine Kd.C_drewN ?_ _) | (with_reducible refine Kd.C_drew ?_))); (case side2 => exact (Kd.R_reads' HO203.out).2.1); rintro e w56 ⟨v205, rfl, ho0, hb⟩; refine ⟨_, rfl, ?_⟩; have n0_ := Aside0.mk (Kd.R_elder' (by (with_reducible repeat (first | apply Kd.R_alloc | apply Kd.R_drewN | apply Kd.R_drew)); exact HO_3.out) (Kd.R_base ho0) hb); have n1_ := Aside0.mk (Kd.R_elder' (by (with_reducible repeat (first | apply Kd.R_alloc | apply Kd.R_drewN | apply Kd.R_drew)); exact HO_180001.out) (Kd.R_base ho0) hb); have n2_ := Aside0.mk (Kd.R_elder' (by (with_reducible repeat (first | apply Kd.R_alloc | apply Kd.R_drewN | apply Kd.R_drew)); exact HO190.out) (Kd.R_base ho0) hb); have n3_ := Aside0.mk (Kd.R_elder' (by (with_reducible repeat (first | apply Kd.R_alloc | apply Kd.R_drewN | apply Kd.R_drew)); exact HO193.out) (Kd.R_base ho0) hb); have n4_ := Aside0.mk (Kd.R_elder' (by (with_reducible repeat (first | apply Kd.R_alloc | apply Kd.R_drewN | apply Kd.R_drew)); exact HO203.out) (Kd.R_base ho0) hb); have n5_ := Aside0.mk (Kd.R_lower (Kd.R_new' (Kd.R_new' (Kd.R_new' (Kd.R_new' (Kd.R_new' ho0 (Kd.R_lt (by (with_reducible repeat (first | apply Kd.R_alloc | apply Kd.R_drewN | apply Kd.R_drew)); exact HO_3.out))) (Kd.R_lt (by (with_reducible repeat (first | apply Kd.R_alloc | apply Kd.R_drewN | apply Kd.R_drew)); exact HO_180001.out))) (Kd.R_lt (by (with_reducible repeat (first | apply Kd.R_alloc | apply Kd.R_drewN | apply Kd.R_drew)); exact HO190.out))) (Kd.R_lt (by (with_reducible repeat (first | apply Kd.R_alloc | apply Kd.R_drewN | apply Kd.R_drew)); exact HO193.out))) (Kd.R_lt (by (with_reducible repeat (first | apply Kd.R_alloc | apply Kd.R_drewN | apply Kd.R_drew)); exact HO203.out))) (below_size (by repeat (first | (with_reducible first | exact HB.out | apply below_alloc | apply pw_below_drewN | apply below_drew1 | refine below_set ?_ GE179.out) | exact HB.out)))); have n6_ := Aside0.mk (blk_below (g := gb179) (o := .cells #[.bool t174, .slice Ao14 t175.length co14, .bool t178] 29 (0, 0)) (by (with_reducible repeat (first | refine blk_drewN ?_ _ | refine blk_drew ?_ | refine blk_alloc ?_ _)); exact BK179.out) hb); have n7_ := Aside0.mk (below_step (by repeat (first | (with_reducible first | exact HB.out | apply below_alloc | apply pw_below_drewN | apply below_drew1 | refine below_set ?_ GE179.out) | exact HB.out)) hb); clear HO_3; clear HO_180001; clear HO190; clear HO193; clear HO203; clear BK179; clear HB; have HO_3 := n0_; have HO_180001 := n1_; have HO190 := n2_; have HO193 := n3_; have HO203 := n4_; have HO206 := n5_; have BK179 := n6_; have HB := n7_; clear n0_ n1_ n2_ n3_ n4_ n5_ n6_ n7_; (try clear hb); (try clear hb2); (try clear hk); (try clear hi); (try clear ho0); obtain ⟨Ao57, co57, eo57⟩ := Kd.R_slice HO206.out; subst eo57; obtain ⟨Ao58, co58, eo58⟩ := Kd.R_slice HO193.out; subst eo58) | ((with_reducible refine gate_callee (f := 28) rfl ?_); refine goesL_ (some 110) rfl rfl Try.func28 (by kernel_rfl) rfl #[.slice Ao58 t191.length co58, .slice (some ad194) t168.length co15] rfl (by (try simp only [List.map_toArray, List.map_cons, List.map_nil]); first | done | rfl | (simp only [List.length_drop, List.length_take]; rfl)) ?_; (with_reducible refine (laws_lwSameBytes.calls _ _ t191 _ _ t168 true _ ?side1 ?side2 ?side3 ?side4 A44.out).mono ?_); (case side1 => repeat (first | exact (Kd.R_reads' HO193.out).2.2 | (with_reducible refine Kd.C_alloc ?_ _) | (with_reducible refine Kd.C_drewN ?_ _) | (with_reducible refine Kd.C_drew ?_))); (case side2 => exact (Kd.R_reads' HO193.out).2.1); (case side3 => repeat (first | exact (Kd.R_reads' HO_3.out).2.2 | (with_reducible refine Kd.C_alloc ?_ _) | (with_reducible refine Kd.C_drewN ?_ _) | (with_reducible refine Kd.C_drew ?_))); (case side4 => exact (Kd.R_reads' HO_3.out).2.1); rintro e w' ⟨rfl, ⟨nd, rfl⟩⟩; refine ⟨_, rfl, ?_⟩))
                                    go_ret
                                    exact ⟨by first | rfl | (simp [errW_none, errW_some] <;> rfl) | (simp [*, errW_none, errW_some] <;> rfl), by repeat (first | (with_reducible first | exact HB.out | apply below_alloc | apply pw_below_drewN | apply below_drew1 | refine below_set ?_ GE179.out) | exact HB.out)⟩
                                  · replace c45 := Bool.eq_false_iff.mpr c45
                                    subst c45
                                    have H1 : (some false) = some r := by rw [if_neg (show ¬ (false = true) by decide)] at H; exact H
                                    clear H
                                    have H := H1
                                    clear H1
                                    exact absurd ((Option.some.inj H).trans hrt.out) (by simp)
                                · rw [if_neg c42] at H
                                  exact absurd H (by simp)
                              · rw [if_neg c41] at H
                                exact absurd H (by simp)
                            · rw [if_neg c40] at H
                              have c40b0 : ((rd t168 2) == 0) = false := beq_eq_false_iff_ne.mpr c40
                              have c40b1 : ((rd t168 2) != 0) = true := bne_iff_ne.mpr c40
                              obtain ⟨y208, hy208⟩ : ∃ y_ : List Int, y_ = (([] : List Int)) := ⟨_, rfl⟩
                              replace H : (if y208.length + t168.length < 140737488355328 then ((impl_Unescape.f (y208 ++ t168) (!x5_6)).bind fun t214 => ((laws_lwSameBytes.f t191 t168).bind fun t217 => (if t217 = true then (some ((decide ((t214.length : Int) > 0)) == false)) else (some false)))) else (none)) = some r := by first | (rw [hy208]; with_reducible exact H) | (have H2_ := (Option.bind_some _ _).symm.trans H; rw [hy208]; with_reducible exact H2_) | (have H2_ := (Option.bind_some _ _).symm.trans H; with_reducible exact H2_) | with_reducible exact H | (rw [hy208]; exact H) | exact H
                              have Ny208 := Aside0.mk hy208
                              clear hy208
                              by_cases c59 : y208.length + t168.length < 140737488355328
                              · rw [if_pos c59] at H
                                have LMc59 := Aside0.mk c59
                                clear c59
                                obtain ⟨y211, hy211⟩ : ∃ y_ : List Int, y_ = (y208 ++ t168) := ⟨_, rfl⟩
                                replace H : ((impl_Unescape.f y211 (!x5_6)).bind fun t214 => ((laws_lwSameBytes.f t191 t168).bind fun t217 => (if t217 = true then (some ((decide ((t214.length : Int) > 0)) == false)) else (some false)))) = some r := by first | (rw [hy211]; with_reducible exact H) | (have H2_ := (Option.bind_some _ _).symm.trans H; rw [hy211]; with_reducible exact H2_) | (have H2_ := (Option.bind_some _ _).symm.trans H; with_reducible exact H2_) | with_reducible exact H | (rw [hy211]; exact H) | exact H
                                have Ny211 := Aside0.mk hy211
                                clear hy211
                                replace H := Option.bind_eq_some_iff.mp H
                                obtain ⟨t214, A600, H⟩ := H
                                replace H : ((laws_lwSameBytes.f t191 t168).bind fun t217 => (if t217 = true then (some ((decide ((t214.length : Int) > 0)) == false)) else (some false))) = some r := H
                                have A60 := Aside0.mk A600
                                clear A600
                                replace H := Option.bind_eq_some_iff.mp H
                                obtain ⟨t217, A610, H⟩ := H
                                replace H : (if t217 = true then (some ((decide ((t214.length : Int) > 0)) == false)) else (some false)) = some r := H
                                have A61 := Aside0.mk A610
                                clear A610
                                by_cases c62 : t217 = true
                                · subst c62
                                  have H1 : (some ((decide ((t214.length : Int) > 0)) == false)) = some r := by rw [if_pos rfl] at H; exact H
                                  clear H
                                  have H := H1
                                  clear H1
                                  obtain rfl := Option.some.inj H
                                  try go_wp2
                                  have n0_ := Aside0.mk (Kd.R_drew HO_3.out)
                                  have n1_ := Aside0.mk (Kd.R_drew HO_180001.out)
                                  have n2_ := Aside0.mk (blk_drew BK179.out)
                                  have n3_ := Aside0.mk (below_drew1 HB.out)
                                  clear HO_3
                                  clear HO_180001
                                  clear BK179
                                  clear HB
                                  have HO_3 := n0_
                                  have HO_180001 := n1_
                                  have BK179 := n2_
                                  have HB := n3_
                                  clear n0_ n1_ n2_ n3_
                                  refine start_ (n := 8) (S := fun w' => w'.cell? ⟨gb179, 0, none⟩ = some (.bool t174) ∧ w'.cell? ⟨gb179, 1, none⟩ = some (.slice Ao14 t175.length co14) ∧ w'.cell? ⟨gb179, 2, none⟩ = some (.bool t178)) (ds := []) #[false, false, false, false, false, false, false, false] (by kernel_rfl) rfl rfl ⟨(blk_cell BK179.out 0).trans rfl, (blk_cell BK179.out 1).trans rfl, (blk_cell BK179.out 2).trans rfl⟩ (fun hHeld => ?_); refine with_tabW laws_FnEscape.tab10 laws_FnEscape.bits10 (fun HT_ HW_ => ?_)
                                  generalize wc.drew = w63 at HO_3 HO_180001 BK179 HB hHeld ⊢
                                  refine pure_ (i := 1) (N := some 73) (v := ?_) (a' := ?_) #[false, true, false, false, false, false, false, false] rfl rfl (any_of HT_.out (by kernel_rfl)) (fun _ _ _ h => h) (Or.inl ⟨by rfl, ?_⟩) ?_ ?_
                                  rotate_left
                                  · intro w'
                                    go_simp
                                    with_reducible rfl
                                  rotate_left
                                  · simp only [Act.put, List.setIfInBounds_toArray, List.set_cons_zero, List.set_cons_succ, i64_w, i32_w]
                                    rfl
                                  refine pure_ (i := 4) (N := some 76) (v := ?_) (a' := ?_) #[false, true, false, false, true, false, false, false] rfl rfl (any_of HT_.out (by kernel_rfl)) (fun _ _ _ h => h) (Or.inl ⟨by rfl, ?_⟩) ?_ ?_
                                  rotate_left
                                  · intro w'
                                    go_simp
                                    with_reducible rfl
                                  rotate_left
                                  · simp only [Act.put, List.setIfInBounds_toArray, List.set_cons_zero, List.set_cons_succ, i64_w, i32_w]
                                    rfl
                                  refine take_ (i := 2) (N := some 74) (v := ?_) (a' := ?_) #[false, true, true, false, true, false, false, false] rfl rfl (take_ofW HT_.out HW_.out (by kernel_rfl)) (fun _ _ _ h => h) (Or.inl ⟨by rfl, ?_⟩) hHeld ?_ ?_
                                  rotate_left
                                  · rintro w' ⟨s0, s1, s2⟩
                                    go_simp
                                    with_reducible rfl
                                  rotate_left
                                  · simp only [Act.put, List.setIfInBounds_toArray, List.set_cons_zero, List.set_cons_succ, i64_w, i32_w]
                                    rfl
                                  refine take_ (i := 5) (N := some 77) (v := ?_) (a' := ?_) #[false, true, true, false, true, true, false, false] rfl rfl (take_ofW HT_.out HW_.out (by kernel_rfl)) (fun _ _ _ h => h) (Or.inl ⟨by rfl, ?_⟩) hHeld ?_ ?_
                                  rotate_left
                                  · rintro w' ⟨s0, s1, s2⟩
                                    go_simp
                                    with_reducible rfl
                                  rotate_left
                                  · simp only [Act.put, List.setIfInBounds_toArray, List.set_cons_zero, List.set_cons_succ, i64_w, i32_w]
                                    rfl
                                  refine one_ (i := 0) (N := some 72) #[true, true, true, false, true, true, false, false] rfl rfl (one_of HT_.out (by kernel_rfl)) (by decide) (fun K hK => ?_)
                                  refine Kd.R_lit_step (Kd.int .u8) _ 5 ?hg (N := 72) ?hd (xs := ([] : List Int)) (inner := []) (ok := fun _ => True) (okp := fun _ => True) ?hr ?hp (fun _ hk => hk) trivial (Below.refl _ _) (Nat.le_refl _) (by simp) ?_; (case hd => rfl); (case hg => rfl); (case hr => first | (go_simp; done) | (go_simp; rfl)); (case hp => exact (Reps.none _ _))
                                  intro v186 w64 ho65 hb hg_ hnew_
                                  clear hg_ hnew_
                                  (first | rw [← Ny185.out] at ho65 | (simp only [Int.reduceToNat] at ho65; rw [← Ny185.out] at ho65))
                                  have n0_ := Aside0.mk (Kd.R_elder' (by (with_reducible repeat (first | apply Kd.R_alloc | apply Kd.R_drewN | apply Kd.R_drew)); exact HO_3.out) (Kd.R_base ho65) hb)
                                  have n1_ := Aside0.mk (Kd.R_elder' (by (with_reducible repeat (first | apply Kd.R_alloc | apply Kd.R_drewN | apply Kd.R_drew)); exact HO_180001.out) (Kd.R_base ho65) hb)
                                  have n2_ := Aside0.mk (Kd.R_lower (Kd.R_new' (Kd.R_new' ho65 (Kd.R_lt (by (with_reducible repeat (first | apply Kd.R_alloc | apply Kd.R_drewN | apply Kd.R_drew)); exact HO_3.out))) (Kd.R_lt (by (with_reducible repeat (first | apply Kd.R_alloc | apply Kd.R_drewN | apply Kd.R_drew)); exact HO_180001.out))) (below_size (by repeat (first | (with_reducible first | exact HB.out | apply below_alloc | apply pw_below_drewN | apply below_drew1 | refine below_set ?_ GE179.out) | exact HB.out))))
                                  have n3_ := Aside0.mk (blk_below (g := gb179) (o := .cells #[.bool t174, .slice Ao14 t175.length co14, .bool t178] 29 (0, 0)) (by (with_reducible repeat (first | refine blk_drewN ?_ _ | refine blk_drew ?_ | refine blk_alloc ?_ _)); exact BK179.out) hb)
                                  have n4_ := Aside0.mk (below_step (by repeat (first | (with_reducible first | exact HB.out | apply below_alloc | apply pw_below_drewN | apply below_drew1 | refine below_set ?_ GE179.out) | exact HB.out)) hb)
                                  clear HO_3
                                  clear HO_180001
                                  clear BK179
                                  clear HB
                                  have HO_3 := n0_
                                  have HO_180001 := n1_
                                  have HO187 := n2_
                                  have BK179 := n3_
                                  have HB := n4_
                                  clear n0_ n1_ n2_ n3_ n4_
                                  clear hb ho65
                                  refine hK.out _ _ ⟨(blk_cell BK179.out 0).trans rfl, (blk_cell BK179.out 1).trans rfl, (blk_cell BK179.out 2).trans rfl⟩ (fun hHeld => ?_)
                                  clear hK K
                                  refine norm_ (a' := ?_) ?_ ?_
                                  rotate_left
                                  · show Act.put _ (some 72) _ = _
                                    simp only [Act.put, List.setIfInBounds_toArray, List.set_cons_zero, List.set_cons_succ, i64_w, i32_w]
                                    rfl
                                  refine one_ (i := 3) (N := some 75) #[true, true, true, true, true, true, false, false] rfl rfl (one_of HT_.out (by kernel_rfl)) (by decide) (fun K hK => ?_)
                                  refine Kd.R_append_rows_step (Kd.int .u8) (w0 := w) w.heap.size (by rfl) (.tmp 72) (.tmp 74) 22 5 (.int .u8 0) 1 rfl Try.underlying22 info5 rfl (by decide) (by omega) v186 y185 t175 _ _ _ (fun k_ => some k_ ≠ (.slice Ao15 t168.length co15 : Value).ownBlock ∧ some k_ ≠ (.slice Ao14 t175.length co14 : Value).ownBlock) (fun _ => False) rfl rfl ?aO ?aR (fun _ _ h => h) (fun _ h => h.elim) ?aF ?aB ?aS ?aL ?_
                                  (case aR => repeat (first | exact (Kd.R_reads' HO_180001.out).2.2 | (with_reducible refine Kd.C_alloc ?_ _) | (with_reducible refine Kd.C_drewN ?_ _) | (with_reducible refine Kd.C_drew ?_)))
                                  (case aB => exact (by repeat (first | (with_reducible first | exact HB.out | apply below_alloc | apply pw_below_drewN | apply below_drew1 | refine below_set ?_ GE179.out) | exact HB.out)))
                                  (case aF => exact (fun k_ hk => ⟨Kd.fresh' (Kd.R_lt (by (with_reducible repeat (first | apply Kd.R_alloc | apply Kd.R_drewN | apply Kd.R_drew)); exact HO_3.out)) k_ hk, Kd.fresh' (Kd.R_lt (by (with_reducible repeat (first | apply Kd.R_alloc | apply Kd.R_drewN | apply Kd.R_drew)); exact HO_180001.out)) k_ hk⟩))
                                  (case aO => exact (by (with_reducible repeat (first | apply Kd.R_alloc | apply Kd.R_drewN | apply Kd.R_drew)); exact Kd.R_mono HO187.out (fun _ hk => ⟨hk.1.2, hk.2⟩)))
                                  (case aS => exact (below_size (by repeat (first | (with_reducible first | exact HB.out | apply below_alloc | apply pw_below_drewN | apply below_drew1 | refine below_set ?_ GE179.out) | exact HB.out))))
                                  (case aL => have := LMc33.out; omega)
                                  intro v189 w66 ho hb hg hat
                                  rw [← Ny188.out] at ho
                                  have n0_ := Aside0.mk (Kd.R_after (ok := (fun k_ => some k_ ≠ (.slice Ao14 t175.length co14 : Value).ownBlock)) (by (with_reducible repeat (first | apply Kd.R_alloc | apply Kd.R_drewN | apply Kd.R_drew)); exact HO_3.out) hg hat)
                                  have n1_ := Aside0.mk (Kd.R_after (ok := (fun k_ => some k_ ≠ (.slice Ao15 t168.length co15 : Value).ownBlock)) (by (with_reducible repeat (first | apply Kd.R_alloc | apply Kd.R_drewN | apply Kd.R_drew)); exact HO_180001.out) hg hat)
                                  have n2_ := Aside0.mk (blk_grown (g := gb179) (o := .cells #[.bool t174, .slice Ao14 t175.length co14, .bool t178] 29 (0, 0)) (by (with_reducible repeat (first | refine blk_drewN ?_ _ | refine blk_drew ?_ | refine blk_alloc ?_ _)); exact BK179.out) hg (Kd.R_ne HO187.out BK179.out (by decide)))
                                  have n3_ := Aside0.mk (hb)
                                  have n4_ := Aside0.mk (ho)
                                  clear HO_3
                                  clear HO_180001
                                  clear BK179
                                  clear HB
                                  clear HO187
                                  have HO_3 := n0_
                                  have HO_180001 := n1_
                                  have BK179 := n2_
                                  have HB := n3_
                                  have HO190 := n4_
                                  clear n0_ n1_ n2_ n3_ n4_
                                  clear ho hb hg hat
                                  obtain ⟨Ao67, co67, eo67⟩ := Kd.R_slice HO190.out
                                  (first | subst eo67 | (injection eo67 with f1_ f2_ f3_; have f4_ := f1_.symm; have f5_ := f3_.symm; clear f1_ f2_ f3_; subst f4_; subst f5_))
                                  refine hK.out _ _ ⟨(blk_cell BK179.out 0).trans rfl, (blk_cell BK179.out 1).trans rfl, (blk_cell BK179.out 2).trans rfl⟩ (fun hHeld => ?_)
                                  clear hK K
                                  refine norm_ (a' := ?_) ?_ ?_
                                  rotate_left
                                  · show Act.put _ (some 75) _ = _
                                    simp only [Act.put, List.setIfInBounds_toArray, List.set_cons_zero, List.set_cons_succ, i64_w, i32_w]
                                    rfl
                                  refine one_ (i := 6) (N := some 78) #[true, true, true, true, true, true, true, false] rfl rfl (one_of HT_.out (by kernel_rfl)) (by decide) (fun K hK => ?_)
                                  refine goes_ Try.func17 (by kernel_rfl) rfl #[.slice Ao67 y188.length co67, .bool t178] (by rfl) rfl rfl (by (try simp only [List.map_toArray, List.map_cons, List.map_nil]); first | done | rfl | (simp only [List.length_drop, List.length_take]; rfl)) ?_
                                  with_reducible refine (impl_Unescape.calls _ _ y188 t178 t191 _ ?side1 ?side2 A34.out).mono ?_
                                  (case side1 => repeat (first | exact (Kd.R_reads' HO190.out).2.2 | (with_reducible refine Kd.C_alloc ?_ _) | (with_reducible refine Kd.C_drewN ?_ _) | (with_reducible refine Kd.C_drew ?_)))
                                  (case side2 => exact (Kd.R_reads' HO190.out).2.1)
                                  rintro e w68 ⟨v192, rfl, ho0, hb⟩
                                  refine ⟨_, rfl, ?_⟩
                                  have n0_ := Aside0.mk (Kd.R_elder' (by (with_reducible repeat (first | apply Kd.R_alloc | apply Kd.R_drewN | apply Kd.R_drew)); exact HO_3.out) (Kd.R_base ho0) hb)
                                  have n1_ := Aside0.mk (Kd.R_elder' (by (with_reducible repeat (first | apply Kd.R_alloc | apply Kd.R_drewN | apply Kd.R_drew)); exact HO_180001.out) (Kd.R_base ho0) hb)
                                  have n2_ := Aside0.mk (Kd.R_elder' (by (with_reducible repeat (first | apply Kd.R_alloc | apply Kd.R_drewN | apply Kd.R_drew)); exact HO190.out) (Kd.R_base ho0) hb)
                                  have n3_ := Aside0.mk (Kd.R_lower (Kd.R_new' (Kd.R_new' (Kd.R_new' ho0 (Kd.R_lt (by (with_reducible repeat (first | apply Kd.R_alloc | apply Kd.R_drewN | apply Kd.R_drew)); exact HO_3.out))) (Kd.R_lt (by (with_reducible repeat (first | apply Kd.R_alloc | apply Kd.R_drewN | apply Kd.R_drew)); exact HO_180001.out))) (Kd.R_lt (by (with_reducible repeat (first | apply Kd.R_alloc | apply Kd.R_drewN | apply Kd.R_drew)); exact HO190.out))) (below_size (by repeat (first | (with_reducible first | exact HB.out | apply below_alloc | apply pw_below_drewN | apply below_drew1 | refine below_set ?_ GE179.out) | exact HB.out))))
                                  have n4_ := Aside0.mk (blk_below (g := gb179) (o := .cells #[.bool t174, .slice Ao14 t175.length co14, .bool t178] 29 (0, 0)) (by (with_reducible repeat (first | refine blk_drewN ?_ _ | refine blk_drew ?_ | refine blk_alloc ?_ _)); exact BK179.out) hb)
                                  have n5_ := Aside0.mk (below_step (by repeat (first | (with_reducible first | exact HB.out | apply below_alloc | apply pw_below_drewN | apply below_drew1 | refine below_set ?_ GE179.out) | exact HB.out)) hb)
                                  clear HO_3
                                  clear HO_180001
                                  clear HO190
                                  clear BK179
                                  clear HB
                                  have HO_3 := n0_
                                  have HO_180001 := n1_
                                  have HO190 := n2_
                                  have HO193 := n3_
                                  have BK179 := n4_
                                  have HB := n5_
                                  clear n0_ n1_ n2_ n3_ n4_ n5_
                                  (try clear hb)
                                  (try clear hb2)
                                  (try clear hk)
                                  (try clear hi)
                                  (try clear ho0)
                                  refine hK.out _ _ ⟨(blk_cell BK179.out 0).trans rfl, (blk_cell BK179.out 1).trans rfl, (blk_cell BK179.out 2).trans rfl⟩ (fun hHeld => ?_)
                                  clear hK K
                                  refine norm_ (a' := ?_) ?_ ?_
                                  rotate_left
                                  · show Act.put _ (some 78) _ = _
                                    simp only [Act.put, List.setIfInBounds_toArray, List.set_cons_zero, List.set_cons_succ, i64_w, i32_w]
                                    rfl
                                  refine pure_ (i := 7) (N := some 6) (v := ?_) (a' := ?_) #[true, true, true, true, true, true, true, true] rfl rfl (any_of HT_.out (by kernel_rfl)) (fun _ _ _ h => h) (Or.inl ⟨by rfl, ?_⟩) ?_ ?_
                                  rotate_left
                                  · intro w'
                                    go_simp
                                    with_reducible rfl
                                  rotate_left
                                  · simp only [Act.put, List.setIfInBounds_toArray, List.set_cons_zero, List.set_cons_succ, i64_w, i32_w]
                                    rfl
                                  refine done_ (done_of HT_.out (by kernel_rfl)) ?_
                                  have p194 : 0 ≤ (0 : Int) := (by omega)
                                  have q194 : 0 < (t168.length : Int) := of_decide_eq_true (by first | (with_reducible assumption) | assumption)
                                  obtain ⟨ad194, e194, hx194_0⟩ := Kd.at_int (Kd.R_reads' HO_3.out).2.2 0 p194 q194
                                  cases e194
                                  have qi194 : (0 < t168.length) = True := eq_true (by omega)
                                  (try rw [show ((0 : Int)).toNat = 0 from rfl] at hx194_0)
                                  (try rw [Addr.add_zero'] at hx194_0)
                                  replace p194 := eq_true p194
                                  replace q194 := eq_true q194
                                  have p195 : 0 ≤ (1 : Int) := (by omega)
                                  have q195 : 1 < (t168.length : Int) := of_decide_eq_true (by first | (with_reducible assumption) | assumption)
                                  obtain ⟨ad195, e195, hx195_0⟩ := Kd.at_int (Kd.R_reads' HO_3.out).2.2 1 p195 q195
                                  obtain rfl : ad194 = ad195 := (by injection e195)
                                  (try simp only [show (1 : Int).toNat = 1 from rfl, Nat.reduceMul, Nat.reduceEqDiff, Go.Addr.add, ↓reduceIte] at hx195_0)
                                  have qi195 : (1 < t168.length) = True := eq_true (by omega)
                                  (try rw [show ((1 : Int)).toNat = 1 from rfl] at hx195_0)
                                  replace p195 := eq_true p195
                                  replace q195 := eq_true q195
                                  have p196 : 0 ≤ (2 : Int) := (by omega)
                                  have q196 : 2 < (t168.length : Int) := of_decide_eq_true (by first | (with_reducible assumption) | assumption)
                                  obtain ⟨ad196, e196, hx196_0⟩ := Kd.at_int (Kd.R_reads' HO_3.out).2.2 2 p196 q196
                                  obtain rfl : ad194 = ad196 := (by injection e196)
                                  (try simp only [show (2 : Int).toNat = 2 from rfl, Nat.reduceMul, Nat.reduceEqDiff, Go.Addr.add, ↓reduceIte] at hx196_0)
                                  have qi196 : (2 < t168.length) = True := eq_true (by omega)
                                  (try rw [show ((2 : Int)).toNat = 2 from rfl] at hx196_0)
                                  replace p196 := eq_true p196
                                  replace q196 := eq_true q196
                                  try go_wp2_with (first | ((with_reducible refine gate_dst (N := 101) rfl ?_); (try (refine gate_guard (by rfl) ?_; dsimp only)); refine Kd.R_lit (Kd.int .u8) _ 5 ?hg (N := 101) ?hd (xs := ([] : List Int)) (inner := []) (ok := fun _ => True) (okp := fun _ => True) ?hr ?hp (fun _ hk => hk) trivial (Below.refl _ _) (Nat.le_refl _) (by simp) ?_; (case hd => rfl); (case hg => rfl); (case hr => first | (go_simp; done) | (go_simp; rfl)); (case hp => exact (Reps.none _ _)); intro v209 w69 ho70 hb hg_ hnew_; clear hg_ hnew_; (first | rw [← Ny208.out] at ho70 | (simp only [Int.reduceToNat] at ho70; rw [← Ny208.out] at ho70)); have n0_ := Aside0.mk (Kd.R_elder' (by (with_reducible repeat (first | apply Kd.R_alloc | apply Kd.R_drewN | apply Kd.R_drew)); exact HO_3.out) (Kd.R_base ho70) hb); have n1_ := Aside0.mk (Kd.R_elder' (by (with_reducible repeat (first | apply Kd.R_alloc | apply Kd.R_drewN | apply Kd.R_drew)); exact HO_180001.out) (Kd.R_base ho70) hb); have n2_ := Aside0.mk (Kd.R_elder' (by (with_reducible repeat (first | apply Kd.R_alloc | apply Kd.R_drewN | apply Kd.R_drew)); exact HO190.out) (Kd.R_base ho70) hb); have n3_ := Aside0.mk (Kd.R_elder' (by (with_reducible repeat (first | apply Kd.R_alloc | apply Kd.R_drewN | apply Kd.R_drew)); exact HO193.out) (Kd.R_base ho70) hb); have n4_ := Aside0.mk (Kd.R_lower (Kd.R_new' (Kd.R_new' (Kd.R_new' (Kd.R_new' ho70 (Kd.R_lt (by (with_reducible repeat (first | apply Kd.R_alloc | apply Kd.R_drewN | apply Kd.R_drew)); exact HO_3.out))) (Kd.R_lt (by (with_reducible repeat (first | apply Kd.R_alloc | apply Kd.R_drewN | apply Kd.R_drew)); exact HO_180001.out))) (Kd.R_lt (by (with_reducible repeat (first | apply Kd.R_alloc | apply Kd.R_drewN | apply Kd.R_drew)); exact HO190.out))) (Kd.R_lt (by (with_reducible repeat (first | apply Kd.R_alloc | apply Kd.R_drewN | apply Kd.R_drew)); exact HO193.out))) (below_size (by repeat (first | (with_reducible first | exact HB.out | apply below_alloc | apply pw_below_drewN | apply below_drew1 | refine below_set ?_ GE179.out) | exact HB.out)))); have n5_ := Aside0.mk (blk_below (g := gb179) (o := .cells #[.bool t174, .slice Ao14 t175.length co14, .bool t178] 29 (0, 0)) (by (with_reducible repeat (first | refine blk_drewN ?_ _ | refine blk_drew ?_ | refine blk_alloc ?_ _)); exact BK179.out) hb); have n6_ := Aside0.mk (below_step (by repeat (first | (with_reducible first | exact HB.out | apply below_alloc | apply pw_below_drewN | apply below_drew1 | refine below_set ?_ GE179.out) | exact HB.out)) hb); clear HO_3; clear HO_180001; clear HO190; clear HO193; clear BK179; clear HB; have HO_3 := n0_; have HO_180001 := n1_; have HO190 := n2_; have HO193 := n3_; have HO210 := n4_; have BK179 := n5_; have HB := n6_; clear n0_ n1_ n2_ n3_ n4_ n5_ n6_; clear hb ho70) | ((with_reducible refine gate_builtin (b := .append) (xs := #[.tmp 101, .tmp 102]) rfl ?_); (try (refine gate_guard (by rfl) ?_; dsimp only)); at_builtin; refine Kd.R_append_rows (Kd.int .u8) (w0 := w) w.heap.size rfl (.tmp 101) (.tmp 102) 22 5 (.int .u8 0) 1 rfl Try.underlying22 info5 rfl (by decide) (by omega) v209 y208 t168 _ _ _ (fun k_ => some k_ ≠ (.slice (some ad194) t168.length co15 : Value).ownBlock ∧ some k_ ≠ (.slice Ao14 t175.length co14 : Value).ownBlock ∧ some k_ ≠ (.slice Ao67 y188.length co67 : Value).ownBlock ∧ some k_ ≠ (v192 : Value).ownBlock) (fun _ => False) rfl rfl ?aO ?aR (fun _ _ h => h) (fun _ h => h.elim) ?aF ?aB ?aS ?aL ?_; (case aR => repeat (first | exact (Kd.R_reads' HO_3.out).2.2 | (with_reducible refine Kd.C_alloc ?_ _) | (with_reducible refine Kd.C_drewN ?_ _) | (with_reducible refine Kd.C_drew ?_))); (case aB => exact (by repeat (first | (with_reducible first | exact HB.out | apply below_alloc | apply pw_below_drewN | apply below_drew1 | refine below_set ?_ GE179.out) | exact HB.out))); (case aF => exact (fun k_ hk => ⟨Kd.fresh' (Kd.R_lt (by (with_reducible repeat (first | apply Kd.R_alloc | apply Kd.R_drewN | apply Kd.R_drew)); exact HO_3.out)) k_ hk, Kd.fresh' (Kd.R_lt (by (with_reducible repeat (first | apply Kd.R_alloc | apply Kd.R_drewN | apply Kd.R_drew)); exact HO_180001.out)) k_ hk, Kd.fresh' (Kd.R_lt (by (with_reducible repeat (first | apply Kd.R_alloc | apply Kd.R_drewN | apply Kd.R_drew)); exact HO190.out)) k_ hk, Kd.fresh' (Kd.R_lt (by (with_reducible repeat (first | apply Kd.R_alloc | apply Kd.R_drewN | apply Kd.R_drew)); exact HO193.out)) k_ hk⟩)); (case aO => exact (by (with_reducible repeat (first | apply Kd.R_alloc | apply Kd.R_drewN | apply Kd.R_drew)); exact Kd.R_mono HO210.out (fun _ hk => ⟨hk.1.1.1.2, ⟨hk.1.1.2, ⟨hk.1.2, hk.2⟩⟩⟩))); (case aS => exact (below_size (by repeat (first | (with_reducible first | exact HB.out | apply below_alloc | apply pw_below_drewN | apply below_drew1 | refine below_set ?_ GE179.out) | exact HB.out)))); (case aL => have := LMc59.out; omega); intro v212 w71 ho hb hg hat; rw [← Ny211.out] at ho; have n0_ := Aside0.mk (Kd.R_after (ok := (fun k_ => some k_ ≠ (.slice Ao14 t175.length co14 : Value).ownBlock ∧ some k_ ≠ (.slice Ao67 y188.length co67 : Value).ownBlock ∧ some k_ ≠ (v192 : Value).ownBlock)) (by (with_reducible repeat (first | apply Kd.R_alloc | apply Kd.R_drewN | apply Kd.R_drew)); exact Kd.R_mono HO_3.out (fun _ hk => ⟨⟨hk.1.1.1, ⟨hk.1.1.2, hk.1.2⟩⟩, hk.2⟩)) hg hat); have n1_ := Aside0.mk (Kd.R_after (ok := (fun k_ => some k_ ≠ (.slice (some ad194) t168.length co15 : Value).ownBlock ∧ some k_ ≠ (.slice Ao67 y188.length co67 : Value).ownBlock ∧ some k_ ≠ (v192 : Value).ownBlock)) (by (with_reducible repeat (first | apply Kd.R_alloc | apply Kd.R_drewN | apply Kd.R_drew)); exact Kd.R_mono HO_180001.out (fun _ hk => ⟨⟨hk.1.1.1, ⟨hk.1.1.2, hk.1.2⟩⟩, hk.2⟩)) hg hat); have n2_ := Aside0.mk (blk_grown (g := gb179) (o := .cells #[.bool t174, .slice Ao14 t175.length co14, .bool t178] 29 (0, 0)) (by (with_reducible repeat (first | refine blk_drewN ?_ _ | refine blk_drew ?_ | refine blk_alloc ?_ _)); exact BK179.out) hg (Kd.R_ne HO210.out BK179.out (by decide))); have n3_ := Aside0.mk (Kd.R_after (ok := (fun k_ => some k_ ≠ (.slice (some ad194) t168.length co15 : Value).ownBlock ∧ some k_ ≠ (.slice Ao14 t175.length co14 : Value).ownBlock ∧ some k_ ≠ (v192 : Value).ownBlock)) (by (with_reducible repeat (first | apply Kd.R_alloc | apply Kd.R_drewN | apply Kd.R_drew)); exact Kd.R_mono HO190.out (fun _ hk => ⟨⟨hk.1.1.1, ⟨hk.1.1.2, hk.1.2⟩⟩, hk.2⟩)) hg hat); have n4_ := Aside0.mk (Kd.R_after (ok := (fun k_ => some k_ ≠ (.slice (some ad194) t168.length co15 : Value).ownBlock ∧ some k_ ≠ (.slice Ao14 t175.length co14 : Value).ownBlock ∧ some k_ ≠ (.slice Ao67 y188.length co67 : Value).ownBlock)) (by (with_reducible repeat (first | apply Kd.R_alloc | apply Kd.R_drewN | apply Kd.R_drew)); exact Kd.R_mono HO193.out (fun _ hk => ⟨⟨hk.1.1.1.2, ⟨hk.1.1.2, hk.1.2⟩⟩, hk.2⟩)) hg hat); have n5_ := Aside0.mk (hb); have n6_ := Aside0.mk (ho); clear HO_3; clear HO_180001; clear BK179; clear HO190; clear HO193; clear HB; clear HO210; have HO_3 := n0_; have HO_180001 := n1_; have BK179 := n2_; have HO190 := n3_; have HO193 := n4_; have HB := n5_; have HO213 := n6_; clear n0_ n1_ n2_ n3_ n4_ n5_ n6_; clear ho hb hg hat; obtain ⟨Ao72, co72, eo72⟩ := Kd.R_slice HO213.out; subst eo72) | ((with_reducible refine gate_callee (f := 17) rfl ?_); refine goesL_ (some 106) rfl rfl Try.func17 (by kernel_rfl) rfl #[.slice Ao72 y211.length co72, .bool (!x5_6)] rfl (by (try simp only [List.map_toArray, List.map_cons, List.map_nil]); first | done | rfl | (simp only [List.length_drop, List.length_take]; rfl)) ?_; (with_reducible refine (impl_Unescape.calls _ _ y211 (!x5_6) t214 _ ?side1 ?side2 A60.out).mono ?_); (case side1 => repeat (first | exact (Kd.R_reads' HO213.out).2.2 | (with_reducible refine Kd.C_alloc ?_ _) | (with_reducible refine Kd.C_drewN ?_ _) | (with_reducible refine Kd.C_drew ?_))); (case side2 => exact (Kd.R_reads' HO213.out).2.1); rintro e w73 ⟨v215, rfl, ho0, hb⟩; refine ⟨_, rfl, ?_⟩; have n0_ := Aside0.mk (Kd.R_elder' (by (with_reducible repeat (first | apply Kd.R_alloc | apply Kd.R_drewN | apply Kd.R_drew)); exact HO_3.out) (Kd.R_base ho0) hb); have n1_ := Aside0.mk (Kd.R_elder' (by (with_reducible repeat (first | apply Kd.R_alloc | apply Kd.R_drewN | apply Kd.R_drew)); exact HO_180001.out) (Kd.R_base ho0) hb); have n2_ := Aside0.mk (Kd.R_elder' (by (with_reducible repeat (first | apply Kd.R_alloc | apply Kd.R_drewN | apply Kd.R_drew)); exact HO190.out) (Kd.R_base ho0) hb); have n3_ := Aside0.mk (Kd.R_elder' (by (with_reducible repeat (first | apply Kd.R_alloc | apply Kd.R_drewN | apply Kd.R_drew)); exact HO193.out) (Kd.R_base ho0) hb); have n4_ := Aside0.mk (Kd.R_elder' (by (with_reducible repeat (first | apply Kd.R_alloc | apply Kd.R_drewN | apply Kd.R_drew)); exact HO213.out) (Kd.R_base ho0) hb); have n5_ := Aside0.mk (Kd.R_lower (Kd.R_new' (Kd.R_new' (Kd.R_new' (Kd.R_new' (Kd.R_new' ho0 (Kd.R_lt (by (with_reducible repeat (first | apply Kd.R_alloc | apply Kd.R_drewN | apply Kd.R_drew)); exact HO_3.out))) (Kd.R_lt (by (with_reducible repeat (first | apply Kd.R_alloc | apply Kd.R_drewN | apply Kd.R_drew)); exact HO_180001.out))) (Kd.R_lt (by (with_reducible repeat (first | apply Kd.R_alloc | apply Kd.R_drewN | apply Kd.R_drew)); exact HO190.out))) (Kd.R_lt (by (with_reducible repeat (first | apply Kd.R_alloc | apply Kd.R_drewN | apply Kd.R_drew)); exact HO193.out))) (Kd.R_lt (by (with_reducible repeat (first | apply Kd.R_alloc | apply Kd.R_drewN | apply Kd.R_drew)); exact HO213.out))) (below_size (by repeat (first | (with_reducible first | exact HB.out | apply below_alloc | apply pw_below_drewN | apply below_drew1 | refine below_set ?_ GE179.out) | exact HB.out)))); have n6_ := Aside0.mk (blk_below (g := gb179) (o := .cells #[.bool t174, .slice Ao14 t175.length co14, .bool t178] 29 (0, 0)) (by (with_reducible repeat (first | refine blk_drewN ?_ _ | refine blk_drew ?_ | refine blk_alloc ?_ _)); exact BK179.out) hb); have n7_ := Aside0.mk (below_step (by repeat (first | (with_reducible first | exact HB.out | apply below_alloc | apply pw_below_drewN | apply below_drew1 | refine below_set ?_ GE179.out) | exact HB.out)) hb); clear HO_3; clear HO_180001; clear HO190; clear HO193; clear HO213; clear BK179; clear HB; have HO_3 := n0_; have HO_180001 := n1_; have HO190 := n2_; have HO193 := n3_; have HO213 := n4_; have HO216 := n5_; have BK179 := n6_; have HB := n7_; clear n0_ n1_ n2_ n3_ n4_ n5_ n6_ n7_; (try clear hb); (try clear hb2); (try clear hk); (try clear hi); (try clear ho0); obtain ⟨Ao74, co74, eo74⟩ := Kd.R_slice HO216.out; subst eo74; obtain ⟨Ao75, co75, eo75⟩ := Kd.R_slice HO193.out; subst eo75) | ((with_reducible refine gate_callee (f := 28) rfl ?_); refine goesL_ (some 110) rfl rfl Try.func28 (by kernel_rfl) rfl #[.slice Ao75 t191.length co75, .slice (some ad194) t168.length co15] rfl (by (try simp only [List.map_toArray, List.map_cons, List.map_nil]); first | done | rfl | (simp only [List.length_drop, List.length_take]; rfl)) ?_; (with_reducible refine (laws_lwSameBytes.calls _ _ t191 _ _ t168 true _ ?side1 ?side2 ?side3 ?side4 A61.out).mono ?_); (case side1 => repeat (first | exact (Kd.R_reads' HO193.out).2.2 | (with_reducible refine Kd.C_alloc ?_ _) | (with_reducible refine Kd.C_drewN ?_ _) | (with_reducible refine Kd.C_drew ?_))); (case side2 => exact (Kd.R_reads' HO193.out).2.1); (case side3 => repeat (first | exact (Kd.R_reads' HO_3.out).2.2 | (with_reducible refine Kd.C_alloc ?_ _) | (with_reducible refine Kd.C_drewN ?_ _) | (with_reducible refine Kd.C_drew ?_))); (case side4 => exact (Kd.R_reads' HO_3.out).2.1); rintro e w' ⟨rfl, ⟨nd, rfl⟩⟩; refine ⟨_, rfl, ?_⟩))
                                  go_ret
                                  exact ⟨by first | rfl | (simp [errW_none, errW_some] <;> rfl) | (simp [*, errW_none, errW_some] <;> rfl), by repeat (first | (with_reducible first | exact HB.out | apply below_alloc | apply pw_below_drewN | apply below_drew1 | refine below_set ?_ GE179.out) | exact HB.out)⟩
                                · replace c62 := Bool.eq_false_iff.mpr c62
                                  subst c62
                                  have H1 : (some false) = some r := by rw [if_neg (show ¬ (false = true) by decide)] at H; exact H
                                  clear H
                                  have H := H1
                                  clear H1
                                  exact absurd ((Option.some.inj H).trans hrt.out) (by simp)
                              · rw [if_neg c59] at H
                                exact absurd H (by simp)
                          · rw [if_neg c39] at H
                            exact absurd H (by simp)
                        · rw [if_neg c38] at H
                          have c38b0 : ((rd t168 1) == 0) = false := beq_eq_false_iff_ne.mpr c38
                          have c38b1 : ((rd t168 1) != 0) = true := bne_iff_ne.mpr c38
                          obtain ⟨y218, hy218⟩ : ∃ y_ : List Int, y_ = (([] : List Int)) := ⟨_, rfl⟩
                          replace H : (if y218.length + t168.length < 140737488355328 then ((impl_Unescape.f (y218 ++ t168) (!x5_6)).bind fun t224 => ((laws_lwSameBytes.f t191 t168).bind fun t227 => (if t227 = true then (some ((decide ((t224.length : Int) > 0)) == false)) else (some false)))) else (none)) = some r := by first | (rw [hy218]; with_reducible exact H) | (have H2_ := (Option.bind_some _ _).symm.trans H; rw [hy218]; with_reducible exact H2_) | (have H2_ := (Option.bind_some _ _).symm.trans H; with_reducible exact H2_) | with_reducible exact H | (rw [hy218]; exact H) | exact H
                          have Ny218 := Aside0.mk hy218
                          clear hy218
                          by_cases c76 : y218.length + t168.length < 140737488355328
                          · rw [if_pos c76] at H
                            have LMc76 := Aside0.mk c76
                            clear c76
                            obtain ⟨y221, hy221⟩ : ∃ y_ : List Int, y_ = (y218 ++ t168) := ⟨_, rfl⟩
                            replace H : ((impl_Unescape.f y221 (!x5_6)).bind fun t224 => ((laws_lwSameBytes.f t191 t168).bind fun t227 => (if t227 = true then (some ((decide ((t224.length : Int) > 0)) == false)) else (some false)))) = some r := by first | (rw [hy221]; with_reducible exact H) | (have H2_ := (Option.bind_some _ _).symm.trans H; rw [hy221]; with_reducible exact H2_) | (have H2_ := (Option.bind_some _ _).symm.trans H; with_reducible exact H2_) | with_reducible exact H | (rw [hy221]; exact H) | exact H
                            have Ny221 := Aside0.mk hy221
                            clear hy221
                            replace H := Option.bind_eq_some_iff.mp H
                            obtain ⟨t224, A770, H⟩ := H
                            replace H : ((laws_lwSameBytes.f t191 t168).bind fun t227 => (if t227 = true then (some ((decide ((t224.length : Int) > 0)) == false)) else (some false))) = some r := H
                            have A77 := Aside0.mk A770
                            clear A770
                            replace H := Option.bind_eq_some_iff.mp H
                            obtain ⟨t227, A780, H⟩ := H
                            replace H : (if t227 = true then (some ((decide ((t224.length : Int) > 0)) == false)) else (some false)) = some r := H
                            have A78 := Aside0.mk A780
                            clear A780
                            by_cases c79 : t227 = true
                            · subst c79
                              have H1 : (some ((decide ((t224.length : Int) > 0)) == false)) = some r := by rw [if_pos rfl] at H; exact H
                              clear H
                              have H := H1
                              clear H1
                              obtain rfl := Option.some.inj H
                              try go_wp2
                              have n0_ := Aside0.mk (Kd.R_drew HO_3.out)
                              have n1_ := Aside0.mk (Kd.R_drew HO_180001.out)
                              have n2_ := Aside0.mk (blk_drew BK179.out)
                              have n3_ := Aside0.mk (below_drew1 HB.out)
                              clear HO_3
                              clear HO_180001
                              clear BK179
                              clear HB
                              have HO_3 := n0_
                              have HO_180001 := n1_
                              have BK179 := n2_
                              have HB := n3_
                              clear n0_ n1_ n2_ n3_
                              refine start_ (n := 8) (S := fun w' => w'.cell? ⟨gb179, 0, none⟩ = some (.bool t174) ∧ w'.cell? ⟨gb179, 1, none⟩ = some (.slice Ao14 t175.length co14) ∧ w'.cell? ⟨gb179, 2, none⟩ = some (.bool t178)) (ds := []) #[false, false, false, false, false, false, false, false] (by kernel_rfl) rfl rfl ⟨(blk_cell BK179.out 0).trans rfl, (blk_cell BK179.out 1).trans rfl, (blk_cell BK179.out 2).trans rfl⟩ (fun hHeld => ?_); refine with_tabW laws_FnEscape.tab10 laws_FnEscape.bits10 (fun HT_ HW_ => ?_)
                              generalize wc.drew = w80 at HO_3 HO_180001 BK179 HB hHeld ⊢
                              refine pure_ (i := 1) (N := some 73) (v := ?_) (a' := ?_) #[false, true, false, false, false, false, false, false] rfl rfl (any_of HT_.out (by kernel_rfl)) (fun _ _ _ h => h) (Or.inl ⟨by rfl, ?_⟩) ?_ ?_
                              rotate_left
                              · intro w'
                                go_simp
                                with_reducible rfl
                              rotate_left
                              · simp only [Act.put, List.setIfInBounds_toArray, List.set_cons_zero, List.set_cons_succ, i64_w, i32_w]
                                rfl
                              refine pure_ (i := 4) (N := some 76) (v := ?_) (a' := ?_) #[false, true, false, false, true, false, false, false] rfl rfl (any_of HT_.out (by kernel_rfl)) (fun _ _ _ h => h) (Or.inl ⟨by rfl, ?_⟩) ?_ ?_
                              rotate_left
                              · intro w'
                                go_simp
                                with_reducible rfl
                              rotate_left
                              · simp only [Act.put, List.setIfInBounds_toArray, List.set_cons_zero, List.set_cons_succ, i64_w, i32_w]
                                rfl
                              refine take_ (i := 2) (N := some 74) (v := ?_) (a' := ?_) #[false, true, true, false, true, false, false, false] rfl rfl (take_ofW HT_.out HW_.out (by kernel_rfl)) (fun _ _ _ h => h) (Or.inl ⟨by rfl, ?_⟩) hHeld ?_ ?_
                              rotate_left
                              · rintro w' ⟨s0, s1, s2⟩
                                go_simp
                                with_reducible rfl
                              rotate_left
                              · simp only [Act.put, List.setIfInBounds_toArray, List.set_cons_zero, List.set_cons_succ, i64_w, i32_w]
                                rfl
                              refine take_ (i := 5) (N := some 77) (v := ?_) (a' := ?_) #[false, true, true, false, true, true, false, false] rfl rfl (take_ofW HT_.out HW_.out (by kernel_rfl)) (fun _ _ _ h => h) (Or.inl ⟨by rfl, ?_⟩) hHeld ?_ ?_
                              rotate_left
                              · rintro w' ⟨s0, s1, s2⟩
                                go_simp
                                with_reducible rfl
                              rotate_left
                              · simp only [Act.put, List.setIfInBounds_toArray, List.set_cons_zero, List.set_cons_succ, i64_w, i32_w]
                                rfl
                              refine one_ (i := 0) (N := some 72) #[true, true, true, false, true, true, false, false] rfl rfl (one_of HT_.out (by kernel_rfl)) (by decide) (fun K hK => ?_)
                              refine Kd.R_lit_step (Kd.int .u8) _ 5 ?hg (N := 72) ?hd (xs := ([] : List Int)) (inner := []) (ok := fun _ => True) (okp := fun _ => True) ?hr ?hp (fun _ hk => hk) trivial (Below.refl _ _) (Nat.le_refl _) (by simp) ?_; (case hd => rfl); (case hg => rfl); (case hr => first | (go_simp; done) | (go_simp; rfl)); (case hp => exact (Reps.none _ _))
                              intro v186 w81 ho82 hb hg_ hnew_
                              clear hg_ hnew_
                              (first | rw [← Ny185.out] at ho82 | (simp only [Int.reduceToNat] at ho82; rw [← Ny185.out] at ho82))
                              have n0_ := Aside0.mk (Kd.R_elder' (by (with_reducible repeat (first | apply Kd.R_alloc | apply Kd.R_drewN | apply Kd.R_drew)); exact HO_3.out) (Kd.R_base ho82) hb)
                              have n1_ := Aside0.mk (Kd.R_elder' (by (with_reducible repeat (first | apply Kd.R_alloc | apply Kd.R_drewN | apply Kd.R_drew)); exact HO_180001.out) (Kd.R_base ho82) hb)
                              have n2_ := Aside0.mk (Kd.R_lower (Kd.R_new' (Kd.R_new' ho82 (Kd.R_lt (by (with_reducible repeat (first | apply Kd.R_alloc | apply Kd.R_drewN | apply Kd.R_drew)); exact HO_3.out))) (Kd.R_lt (by (with_reducible repeat (first | apply Kd.R_alloc | apply Kd.R_drewN | apply Kd.R_drew)); exact HO_180001.out))) (below_size (by repeat (first | (with_reducible first | exact HB.out | apply below_alloc | apply pw_below_drewN | apply below_drew1 | refine below_set ?_ GE179.out) | exact HB.out))))
                              have n3_ := Aside0.mk (blk_below (g := gb179) (o := .cells #[.bool t174, .slice Ao14 t175.length co14, .bool t178] 29 (0, 0)) (by (with_reducible repeat (first | refine blk_drewN ?_ _ | refine blk_drew ?_ | refine blk_alloc ?_ _)); exact BK179.out) hb)
                              have n4_ := Aside0.mk (below_step (by repeat (first | (with_reducible first | exact HB.out | apply below_alloc | apply pw_below_drewN | apply below_drew1 | refine below_set ?_ GE179.out) | exact HB.out)) hb)
                              clear HO_3
                              clear HO_180001
                              clear BK179
                              clear HB
                              have HO_3 := n0_
                              have HO_180001 := n1_
                              have HO187 := n2_
                              have BK179 := n3_
                              have HB := n4_
                              clear n0_ n1_ n2_ n3_ n4_
                              clear hb ho82
                              refine hK.out _ _ ⟨(blk_cell BK179.out 0).trans rfl, (blk_cell BK179.out 1).trans rfl, (blk_cell BK179.out 2).trans rfl⟩ (fun hHeld => ?_)
                              clear hK K
                              refine norm_ (a' := ?_) ?_ ?_
                              rotate_left
                              · show Act.put _ (some 72) _ = _
                                simp only [Act.put, List.setIfInBounds_toArray, List.set_cons_zero, List.set_cons_succ, i64_w, i32_w]
                                rfl
                              refine one_ (i := 3) (N := some 75) #[true, true, true, true, true, true, false, false] rfl rfl (one_of HT_.out (by kernel_rfl)) (by decide) (fun K hK => ?_)
                              refine Kd.R_append_rows_step (Kd.int .u8) (w0 := w) w.heap.size (by rfl) (.tmp 72) (.tmp 74) 22 5 (.int .u8 0) 1 rfl Try.underlying22 info5 rfl (by decide) (by omega) v186 y185 t175 _ _ _ (fun k_ => some k_ ≠ (.slice Ao15 t168.length co15 : Value).ownBlock ∧ some k_ ≠ (.slice Ao14 t175.length co14 : Value).ownBlock) (fun _ => False) rfl rfl ?aO ?aR (fun _ _ h => h) (fun _ h => h.elim) ?aF ?aB ?aS ?aL ?_
                              (case aR => repeat (first | exact (Kd.R_reads' HO_180001.out).2.2 | (with_reducible refine Kd.C_alloc ?_ _) | (with_reducible refine Kd.C_drewN ?_ _) | (with_reducible refine Kd.C_drew ?_)))
                              (case aB => exact (by repeat (first | (with_reducible first | exact HB.out | apply below_alloc | apply pw_below_drewN | apply below_drew1 | refine below_set ?_ GE179.out) | exact HB.out)))
                              (case aF => exact (fun k_ hk => ⟨Kd.fresh' (Kd.R_lt (by (with_reducible repeat (first | apply Kd.R_alloc | apply Kd.R_drewN | apply Kd.R_drew)); exact HO_3.out)) k_ hk, Kd.fresh' (Kd.R_lt (by (with_reducible repeat (first | apply Kd.R_alloc | apply Kd.R_drewN | apply Kd.R_drew)); exact HO_180001.out)) k_ hk⟩))
                              (case aO => exact (by (with_reducible repeat (first | apply Kd.R_alloc | apply Kd.R_drewN | apply Kd.R_drew)); exact Kd.R_mono HO187.out (fun _ hk => ⟨hk.1.2, hk.2⟩)))
                              (case aS => exact (below_size (by repeat (first | (with_reducible first | exact HB.out | apply below_alloc | apply pw_below_drewN | apply below_drew1 | refine below_set ?_ GE179.out) | exact HB.out))))
                              (case aL => have := LMc33.out; omega)
                              intro v189 w83 ho hb hg hat
                              rw [← Ny188.out] at ho
                              have n0_ := Aside0.mk (Kd.R_after (ok := (fun k_ => some k_ ≠ (.slice Ao14 t175.length co14 : Value).ownBlock)) (by (with_reducible repeat (first | apply Kd.R_alloc | apply Kd.R_drewN | apply Kd.R_drew)); exact HO_3.out) hg hat)
                              have n1_ := Aside0.mk (Kd.R_after (ok := (fun k_ => some k_ ≠ (.slice Ao15 t168.length co15 : Value).ownBlock)) (by (with_reducible repeat (first | apply Kd.R_alloc | apply Kd.R_drewN | apply Kd.R_drew)); exact HO_180001.out) hg hat)
                              have n2_ := Aside0.mk (blk_grown (g := gb179) (o := .cells #[.bool t174, .slice Ao14 t175.length co14, .bool t178] 29 (0, 0)) (by (with_reducible repeat (first | refine blk_drewN ?_ _ | refine blk_drew ?_ | refine blk_alloc ?_ _)); exact BK179.out) hg (Kd.R_ne HO187.out BK179.out (by decide)))
                              have n3_ := Aside0.mk (hb)
                              have n4_ := Aside0.mk (ho)
                              clear HO_3
                              clear HO_180001
                              clear BK179
                              clear HB
                              clear HO187
                              have HO_3 := n0_
                              have HO_180001 := n1_
                              have BK179 := n2_
                              have HB := n3_
                              have HO190 := n4_
                              clear n0_ n1_ n2_ n3_ n4_
                              clear ho hb hg hat
                              obtain ⟨Ao84, co84, eo84⟩ := Kd.R_slice HO190.out
                              (first | subst eo84 | (injection eo84 with f1_ f2_ f3_; have f4_ := f1_.symm; have f5_ := f3_.symm; clear f1_ f2_ f3_; subst f4_; subst f5_))
                              refine hK.out _ _ ⟨(blk_cell BK179.out 0).trans rfl, (blk_cell BK179.out 1).trans rfl, (blk_cell BK179.out 2).trans rfl⟩ (fun hHeld => ?_)
                              clear hK K
                              refine norm_ (a' := ?_) ?_ ?_
                              rotate_left
                              · show Act.put _ (some 75) _ = _
                                simp only [Act.put, List.setIfInBounds_toArray, List.set_cons_zero, List.set_cons_succ, i64_w, i32_w]
                                rfl
                              refine one_ (i := 6) (N := some 78) #[true, true, true, true, true, true, true, false] rfl rfl (one_of HT_.out (by kernel_rfl)) (by decide) (fun K hK => ?_)
                              refine goes_ Try.func17 (by kernel_rfl) rfl #[.slice Ao84 y188.length co84, .bool t178] (by rfl) rfl rfl (by (try simp only [List.map_toArray, List.map_cons, List.map_nil]); first | done | rfl | (simp only [List.length_drop, List.length_take]; rfl)) ?_
                              with_reducible refine (impl_Unescape.calls _ _ y188 t178 t191 _ ?side1 ?side2 A34.out).mono ?_
                              (case side1 => repeat (first | exact (Kd.R_reads' HO190.out).2.2 | (with_reducible refine Kd.C_alloc ?_ _) | (with_reducible refine Kd.C_drewN ?_ _) | (with_reducible refine Kd.C_drew ?_)))
                              (case side2 => exact (Kd.R_reads' HO190.out).2.1)
                              rintro e w85 ⟨v192, rfl, ho0, hb⟩
                              refine ⟨_, rfl, ?_⟩
                              have n0_ := Aside0.mk (Kd.R_elder' (by (with_reducible repeat (first | apply Kd.R_alloc | apply Kd.R_drewN | apply Kd.R_drew)); exact HO_3.out) (Kd.R_base ho0) hb)
                              have n1_ := Aside0.mk (Kd.R_elder' (by (with_reducible repeat (first | apply Kd.R_alloc | apply Kd.R_drewN | apply Kd.R_drew)); exact HO_180001.out) (Kd.R_base ho0) hb)
                              have n2_ := Aside0.mk (Kd.R_elder' (by (with_reducible repeat (first | apply Kd.R_alloc | apply Kd.R_drewN | apply Kd.R_drew)); exact HO190.out) (Kd.R_base ho0) hb)
                              have n3_ := Aside0.mk (Kd.R_lower (Kd.R_new' (Kd.R_new' (Kd.R_new' ho0 (Kd.R_lt (by (with_reducible repeat (first | apply Kd.R_alloc | apply Kd.R_drewN | apply Kd.R_drew)); exact HO_3.out))) (Kd.R_lt (by (with_reducible repeat (first | apply Kd.R_alloc | apply Kd.R_drewN | apply Kd.R_drew)); exact HO_180001.out))) (Kd.R_lt (by (with_reducible repeat (first | apply Kd.R_alloc | apply Kd.R_drewN | apply Kd.R_drew)); exact HO190.out))) (below_size (by repeat (first | (with_reducible first | exact HB.out | apply below_alloc | apply pw_below_drewN | apply below_drew1 | refine below_set ?_ GE179.out) | exact HB.out))))
                              have n4_ := Aside0.mk (blk_below (g := gb179) (o := .cells #[.bool t174, .slice Ao14 t175.length co14, .bool t178] 29 (0, 0)) (by (with_reducible repeat (first | refine blk_drewN ?_ _ | refine blk_drew ?_ | refine blk_alloc ?_ _)); exact BK179.out) hb)
                              have n5_ := Aside0.mk (below_step (by repeat (first | (with_reducible first | exact HB.out | apply below_alloc | apply pw_below_drewN | apply below_drew1 | refine below_set ?_ GE179.out) | exact HB.out)) hb)
                              clear HO_3
                              clear HO_180001
                              clear HO190
                              clear BK179
                              clear HB
                              have HO_3 := n0_
                              have HO_180001 := n1_
                              have HO190 := n2_
                              have HO193 := n3_
                              have BK179 := n4_
                              have HB := n5_
                              clear n0_ n1_ n2_ n3_ n4_ n5_
                              (try clear hb)
                              (try clear hb2)
                              (try clear hk)
                              (try clear hi)
                              (try clear ho0)
                              refine hK.out _ _ ⟨(blk_cell BK179.out 0).trans rfl, (blk_cell BK179.out 1).trans rfl, (blk_cell BK179.out 2).trans rfl⟩ (fun hHeld => ?_)
                              clear hK K
                              refine norm_ (a' := ?_) ?_ ?_
                              rotate_left
                              · show Act.put _ (some 78) _ = _
                                simp only [Act.put, List.setIfInBounds_toArray, List.set_cons_zero, List.set_cons_succ, i64_w, i32_w]
                                rfl
                              refine pure_ (i := 7) (N := some 6) (v := ?_) (a' := ?_) #[true, true, true, true, true, true, true, true] rfl rfl (any_of HT_.out (by kernel_rfl)) (fun _ _ _ h => h) (Or.inl ⟨by rfl, ?_⟩) ?_ ?_
                              rotate_left
                              · intro w'
                                go_simp
                                with_reducible rfl
                              rotate_left
                              · simp only [Act.put, List.setIfInBounds_toArray, List.set_cons_zero, List.set_cons_succ, i64_w, i32_w]
                                rfl
                              refine done_ (done_of HT_.out (by kernel_rfl)) ?_
                              have p194 : 0 ≤ (0 : Int) := (by omega)
                              have q194 : 0 < (t168.length : Int) := of_decide_eq_true (by first | (with_reducible assumption) | assumption)
                              obtain ⟨ad194, e194, hx194_0⟩ := Kd.at_int (Kd.R_reads' HO_3.out).2.2 0 p194 q194
                              cases e194
                              have qi194 : (0 < t168.length) = True := eq_true (by omega)
                              (try rw [show ((0 : Int)).toNat = 0 from rfl] at hx194_0)
                              (try rw [Addr.add_zero'] at hx194_0)
                              replace p194 := eq_true p194
                              replace q194 := eq_true q194
                              have p195 : 0 ≤ (1 : Int) := (by omega)
                              have q195 : 1 < (t168.length : Int) := of_decide_eq_true (by first | (with_reducible assumption) | assumption)
                              obtain ⟨ad195, e195, hx195_0⟩ := Kd.at_int (Kd.R_reads' HO_3.out).2.2 1 p195 q195
                              obtain rfl : ad194 = ad195 := (by injection e195)
                              (try simp only [show (1 : Int).toNat = 1 from rfl, Nat.reduceMul, Nat.reduceEqDiff, Go.Addr.add, ↓reduceIte] at hx195_0)
                              have qi195 : (1 < t168.length) = True := eq_true (by omega)
                              (try rw [show ((1 : Int)).toNat = 1 from rfl] at hx195_0)
                              replace p195 := eq_true p195
                              replace q195 := eq_true q195
                              try go_wp2_with (first | ((with_reducible refine gate_dst (N := 101) rfl ?_); (try (refine gate_guard (by rfl) ?_; dsimp only)); refine Kd.R_lit (Kd.int .u8) _ 5 ?hg (N := 101) ?hd (xs := ([] : List Int)) (inner := []) (ok := fun _ => True) (okp := fun _ => True) ?hr ?hp (fun _ hk => hk) trivial (Below.refl _ _) (Nat.le_refl _) (by simp) ?_; (case hd => rfl); (case hg => rfl); (case hr => first | (go_simp; done) | (go_simp; rfl)); (case hp => exact (Reps.none _ _)); intro v219 w86 ho87 hb hg_ hnew_; clear hg_ hnew_; (first | rw [← Ny218.out] at ho87 | (simp only [Int.reduceToNat] at ho87; rw [← Ny218.out] at ho87)); have n0_ := Aside0.mk (Kd.R_elder' (by (with_reducible repeat (first | apply Kd.R_alloc | apply Kd.R_drewN | apply Kd.R_drew)); exact HO_3.out) (Kd.R_base ho87) hb); have n1_ := Aside0.mk (Kd.R_elder' (by (with_reducible repeat (first | apply Kd.R_alloc | apply Kd.R_drewN | apply Kd.R_drew)); exact HO_180001.out) (Kd.R_base ho87) hb); have n2_ := Aside0.mk (Kd.R_elder' (by (with_reducible repeat (first | apply Kd.R_alloc | apply Kd.R_drewN | apply Kd.R_drew)); exact HO190.out) (Kd.R_base ho87) hb); have n3_ := Aside0.mk (Kd.R_elder' (by (with_reducible repeat (first | apply Kd.R_alloc | apply Kd.R_drewN | apply Kd.R_drew)); exact HO193.out) (Kd.R_base ho87) hb); have n4_ := Aside0.mk (Kd.R_lower (Kd.R_new' (Kd.R_new' (Kd.R_new' (Kd.R_new' ho87 (Kd.R_lt (by (with_reducible repeat (first | apply Kd.R_alloc | apply Kd.R_drewN | apply Kd.R_drew)); exact HO_3.out))) (Kd.R_lt (by (with_reducible repeat (first | apply Kd.R_alloc | apply Kd.R_drewN | apply Kd.R_drew)); exact HO_180001.out))) (Kd.R_lt (by (with_reducible repeat (first | apply Kd.R_alloc | apply Kd.R_drewN | apply Kd.R_drew)); exact HO190.out))) (Kd.R_lt (by (with_reducible repeat (first | apply Kd.R_alloc | apply Kd.R_drewN | apply Kd.R_drew)); exact HO193.out))) (below_size (by repeat (first | (with_reducible first | exact HB.out | apply below_alloc | apply pw_below_drewN | apply below_drew1 | refine below_set ?_ GE179.out) | exact HB.out)))); have n5_ := Aside0.mk (blk_below (g := gb179) (o := .cells #[.bool t174, .slice Ao14 t175.length co14, .bool t178] 29 (0, 0)) (by (with_reducible repeat (first | refine blk_drewN ?_ _ | refine blk_drew ?_ | refine blk_alloc ?_ _)); exact BK179.out) hb); have n6_ := Aside0.mk (below_step (by repeat (first | (with_reducible first | exact HB.out | apply below_alloc | apply pw_below_drewN | apply below_drew1 | refine below_set ?_ GE179.out) | exact HB.out)) hb); clear HO_3; clear HO_180001; clear HO190; clear HO193; clear BK179; clear HB; have HO_3 := n0_; have HO_180001 := n1_; have HO190 := n2_; have HO193 := n3_; have HO220 := n4_; have BK179 := n5_; have HB := n6_; clear n0_ n1_ n2_ n3_ n4_ n5_ n6_; clear hb ho87) | ((with_reducible refine gate_builtin (b := .append) (xs := #[.tmp 101, .tmp 102]) rfl ?_); (try (refine gate_guard (by rfl) ?_; dsimp only)); at_builtin; refine Kd.R_append_rows (Kd.int .u8) (w0 := w) w.heap.size rfl (.tmp 101) (.tmp 102) 22 5 (.int .u8 0) 1 rfl Try.underlying22 info5 rfl (by decide) (by omega) v219 y218 t168 _ _ _ (fun k_ => some k_ ≠ (.slice (some ad194) t168.length co15 : Value).ownBlock ∧ some k_ ≠ (.slice Ao14 t175.length co14 : Value).ownBlock ∧ some k_ ≠ (.slice Ao84 y188.length co84 : Value).ownBlock ∧ some k_ ≠ (v192 : Value).ownBlock) (fun _ => False) rfl rfl ?aO ?aR (fun _ _ h => h) (fun _ h => h.elim) ?aF ?aB ?aS ?aL ?_; (case aR => repeat (first | exact (Kd.R_reads' HO_3.out).2.2 | (with_reducible refine Kd.C_alloc ?_ _) | (with_reducible refine Kd.C_drewN ?_ _) | (with_reducible refine Kd.C_drew ?_))); (case aB => exact (by repeat (first | (with_reducible first | exact HB.out | apply below_alloc | apply pw_below_drewN | apply below_drew1 | refine below_set ?_ GE179.out) | exact HB.out))); (case aF => exact (fun k_ hk => ⟨Kd.fresh' (Kd.R_lt (by (with_reducible repeat (first | apply Kd.R_alloc | apply Kd.R_drewN | apply Kd.R_drew)); exact HO_3.out)) k_ hk, Kd.fresh' (Kd.R_lt (by (with_reducible repeat (first | apply Kd.R_alloc | apply Kd.R_drewN | apply Kd.R_drew)); exact HO_180001.out)) k_ hk, Kd.fresh' (Kd.R_lt (by (with_reducible repeat (first | apply Kd.R_alloc | apply Kd.R_drewN | apply Kd.R_drew)); exact HO190.out)) k_ hk, Kd.fresh' (Kd.R_lt (by (with_reducible repeat (first | apply Kd.R_alloc | apply Kd.R_drewN | apply Kd.R_drew)); exact HO193.out)) k_ hk⟩)); (case aO => exact (by (with_reducible repeat (first | apply Kd.R_alloc | apply Kd.R_drewN | apply Kd.R_drew)); exact Kd.R_mono HO220.out (fun _ hk => ⟨hk.1.1.1.2, ⟨hk.1.1.2, ⟨hk.1.2, hk.2⟩⟩⟩))); (case aS => exact (below_size (by repeat (first | (with_reducible first | exact HB.out | apply below_alloc | apply pw_below_drewN | apply below_drew1 | refine below_set ?_ GE179.out) | exact HB.out)))); (case aL => have := LMc76.out; omega); intro v222 w88 ho hb hg hat; rw [← Ny221.out] at ho; have n0_ := Aside0.mk (Kd.R_after (ok := (fun k_ => some k_ ≠ (.slice Ao14 t175.length co14 : Value).ownBlock ∧ some k_ ≠ (.slice Ao84 y188.length co84 : Value).ownBlock ∧ some k_ ≠ (v192 : Value).ownBlock)) (by (with_reducible repeat (first | apply Kd.R_alloc | apply Kd.R_drewN | apply Kd.R_drew)); exact Kd.R_mono HO_3.out (fun _ hk => ⟨⟨hk.1.1.1, ⟨hk.1.1.2, hk.1.2⟩⟩, hk.2⟩)) hg hat); have n1_ := Aside0.mk (Kd.R_after (ok := (fun k_ => some k_ ≠ (.slice (some ad194) t168.length co15 : Value).ownBlock ∧ some k_ ≠ (.slice Ao84 y188.length co84 : Value).ownBlock ∧ some k_ ≠ (v192 : Value).ownBlock)) (by (with_reducible repeat (first | apply Kd.R_alloc | apply Kd.R_drewN | apply Kd.R_drew)); exact Kd.R_mono HO_180001.out (fun _ hk => ⟨⟨hk.1.1.1, ⟨hk.1.1.2, hk.1.2⟩⟩, hk.2⟩)) hg hat); have n2_ := Aside0.mk (blk_grown (g := gb179) (o := .cells #[.bool t174, .slice Ao14 t175.length co14, .bool t178] 29 (0, 0)) (by (with_reducible repeat (first | refine blk_drewN ?_ _ | refine blk_drew ?_ | refine blk_alloc ?_ _)); exact BK179.out) hg (Kd.R_ne HO220.out BK179.out (by decide))); have n3_ := Aside0.mk (Kd.R_after (ok := (fun k_ => some k_ ≠ (.slice (some ad194) t168.length co15 : Value).ownBlock ∧ some k_ ≠ (.slice Ao14 t175.length co14 : Value).ownBlock ∧ some k_ ≠ (v192 : Value).ownBlock)) (by (with_reducible repeat (first | apply Kd.R_alloc | apply Kd.R_drewN | apply Kd.R_drew)); exact Kd.R_mono HO190.out (fun _ hk => ⟨⟨hk.1.1.1, ⟨hk.1.1.2, hk.1.2⟩⟩, hk.2⟩)) hg hat); have n4_ := Aside0.mk (Kd.R_after (ok := (fun k_ => some k_ ≠ (.slice (some ad194) t168.length co15 : Value).ownBlock ∧ some k_ ≠ (.slice Ao14 t175.length co14 : Value).ownBlock ∧ some k_ ≠ (.slice Ao84 y188.length co84 : Value).ownBlock)) (by (with_reducible repeat (first | apply Kd.R_alloc | apply Kd.R_drewN | apply Kd.R_drew)); exact Kd.R_mono HO193.out (fun _ hk => ⟨⟨hk.1.1.1.2, ⟨hk.1.1.2, hk.1.2⟩⟩, hk.2⟩)) hg hat); have n5_ := Aside0.mk (hb); have n6_ := Aside0.mk (ho); clear HO_3; clear HO_180001; clear BK179; clear HO190; clear HO193; clear HB; clear HO220; have HO_3 := n0_; have HO_180001 := n1_; have BK179 := n2_; have HO190 := n3_; have HO193 := n4_; have HB := n5_; have HO223 := n6_; clear n0_ n1_ n2_ n3_ n4_ n5_ n6_; clear ho hb hg hat; obtain ⟨Ao89, co89, eo89⟩ := Kd.R_slice HO223.out; subst eo89) | ((with_reducible refine gate_callee (f := 17) rfl ?_); refine goesL_ (some 106) rfl rfl Try.func17 (by kernel_rfl) rfl #[.slice Ao89 y221.length co89, .bool (!x5_6)] rfl (by (try simp only [List.map_toArray, List.map_cons, List.map_nil]); first | done | rfl | (simp only [List.length_drop, List.length_take]; rfl)) ?_; (with_reducible refine (impl_Unescape.calls _ _ y221 (!x5_6) t224 _ ?side1 ?side2 A77.out).mono ?_); (case side1 => repeat (first | exact (Kd.R_reads' HO223.out).2.2 | (with_reducible refine Kd.C_alloc ?_ _) | (with_reducible refine Kd.C_drewN ?_ _) | (with_reducible refine Kd.C_drew ?_))); (case side2 => exact (Kd.R_reads' HO223.out).2.1); rintro e w90 ⟨v225, rfl, ho0, hb⟩; refine ⟨_, rfl, ?_⟩; have n0_ := Aside0.mk (Kd.R_elder' (by (with_reducible repeat (first | apply Kd.R_alloc | apply Kd.R_drewN | apply Kd.R_drew)); exact HO_3.out) (Kd.R_base ho0) hb); have n1_ := Aside0.mk (Kd.R_elder' (by (with_reducible repeat (first | apply Kd.R_alloc | apply Kd.R_drewN | apply Kd.R_drew)); exact HO_180001.out) (Kd.R_base ho0) hb); have n2_ := Aside0.mk (Kd.R_elder' (by (with_reducible repeat (first | apply Kd.R_alloc | apply Kd.R_drewN | apply Kd.R_drew)); exact HO190.out) (Kd.R_base ho0) hb); have n3_ := Aside0.mk (Kd.R_elder' (by (with_reducible repeat (first | apply Kd.R_alloc | apply Kd.R_drewN | apply Kd.R_drew)); exact HO193.out) (Kd.R_base ho0) hb); have n4_ := Aside0.mk (Kd.R_elder' (by (with_reducible repeat (first | apply Kd.R_alloc | apply Kd.R_drewN | apply Kd.R_drew)); exact HO223.out) (Kd.R_base ho0) hb); have n5_ := Aside0.mk (Kd.R_lower (Kd.R_new' (Kd.R_new' (Kd.R_new' (Kd.R_new' (Kd.R_new' ho0 (Kd.R_lt (by (with_reducible repeat (first | apply Kd.R_alloc | apply Kd.R_drewN | apply Kd.R_drew)); exact HO_3.out))) (Kd.R_lt (by (with_reducible repeat (first | apply Kd.R_alloc | apply Kd.R_drewN | apply Kd.R_drew)); exact HO_180001.out))) (Kd.R_lt (by (with_reducible repeat (first | apply Kd.R_alloc | apply Kd.R_drewN | apply Kd.R_drew)); exact HO190.out))) (Kd.R_lt (by (with_reducible repeat (first | apply Kd.R_alloc | apply Kd.R_drewN | apply Kd.R_drew)); exact HO193.out))) (Kd.R_lt (by (with_reducible repeat (first | apply Kd.R_alloc | apply Kd.R_drewN | apply Kd.R_drew)); exact HO223.out))) (below_size (by repeat (first | (with_reducible first | exact HB.out | apply below_alloc | apply pw_below_drewN | apply below_drew1 | refine below_set ?_ GE179.out) | exact HB.out)))); have n6_ := Aside0.mk (blk_below (g := gb179) (o := .cells #[.bool t174, .slice Ao14 t175.length co14, .bool t178] 29 (0, 0)) (by (with_reducible repeat (first | refine blk_drewN ?_ _ | refine blk_drew ?_ | refine blk_alloc ?_ _)); exact BK179.out) hb); have n7_ := Aside0.mk (below_step (by repeat (first | (with_reducible first | exact HB.out | apply below_alloc | apply pw_below_drewN | apply below_drew1 | refine below_set ?_ GE179.out) | exact HB.out)) hb); clear HO_3; clear HO_180001; clear HO190; clear HO193; clear HO223; clear BK179; clear HB; have HO_3 := n0_; have HO_180001 := n1_; have HO190 := n2_; have HO193 := n3_; have HO223 := n4_; have HO226 := n5_; have BK179 := n6_; have HB := n7_; clear n0_ n1_ n2_ n3_ n4_ n5_ n6_ n7_; (try clear hb); (try clear hb2); (try clear hk); (try clear hi); (try clear ho0); obtain ⟨Ao91, co91, eo91⟩ := Kd.R_slice HO226.out; subst eo91; obtain ⟨Ao92, co92, eo92⟩ := Kd.R_slice HO193.out; subst eo92) | ((with_reducible refine gate_callee (f := 28) rfl ?_); refine goesL_ (some 110) rfl rfl Try.func28 (by kernel_rfl) rfl #[.slice Ao92 t191.length co92, .slice (some ad194) t168.length co15] rfl (by (try simp only [List.map_toArray, List.map_cons, List.map_nil]); first | done | rfl | (simp only [List.length_drop, List.length_take]; rfl)) ?_; (with_reducible refine (laws_lwSameBytes.calls _ _ t191 _ _ t168 true _ ?side1 ?side2 ?side3 ?side4 A78.out).mono ?_); (case side1 => repeat (first | exact (Kd.R_reads' HO193.out).2.2 | (with_reducible refine Kd.C_alloc ?_ _) | (with_reducible refine Kd.C_drewN ?_ _) | (with_reducible refine Kd.C_drew ?_))); (case side2 => exact (Kd.R_reads' HO193.out).2.1); (case side3 => repeat (first | exact (Kd.R_reads' HO_3.out).2.2 | (with_reducible refine Kd.C_alloc ?_ _) | (with_reducible refine Kd.C_drewN ?_ _) | (with_reducible refine Kd.C_drew ?_))); (case side4 => exact (Kd.R_reads' HO_3.out).2.1); rintro e w' ⟨rfl, ⟨nd, rfl⟩⟩; refine ⟨_, rfl, ?_⟩))
                              go_ret
                              exact ⟨by first | rfl | (simp [errW_none, errW_some] <;> rfl) | (simp [*, errW_none, errW_some] <;> rfl), by repeat (first | (with_reducible first | exact HB.out | apply below_alloc | apply pw_below_drewN | apply below_drew1 | refine below_set ?_ GE179.out) | exact HB.out)⟩
                            · replace c79 := Bool.eq_false_iff.mpr c79
                              subst c79
                              have H1 : (some false) = some r := by rw [if_neg (show ¬ (false = true) by decide)] at H; exact H
                              clear H
                              have H := H1
                              clear H1
                              exact absurd ((Option.some.inj H).trans hrt.out) (by simp)
                          · rw [if_neg c76] at H
                            exact absurd H (by simp)
                      · rw [if_neg c37] at H
                        exact absurd H (by simp)
                    · rw [if_neg c36] at H
                      have c36b0 : ((rd t168 0) == 0) = false := beq_eq_false_iff_ne.mpr c36
                      have c36b1 : ((rd t168 0) != 0) = true := bne_iff_ne.mpr c36
                      obtain ⟨y228, hy228⟩ : ∃ y_ : List Int, y_ = (([] : List Int)) := ⟨_, rfl⟩
                      replace H : (if y228.length + t168.length < 140737488355328 then ((impl_Unescape.f (y228 ++ t168) (!x5_6)).bind fun t234 => ((laws_lwSameBytes.f t191 t168).bind fun t237 => (if t237 = true then (some ((decide ((t234.length : Int) > 0)) == false)) else (some false)))) else (none)) = some r := by first | (rw [hy228]; with_reducible exact H) | (have H2_ := (Option.bind_some _ _).symm.trans H; rw [hy228]; with_reducible exact H2_) | (have H2_ := (Option.bind_some _ _).symm.trans H; with_reducible exact H2_) | with_reducible exact H | (rw [hy228]; exact H) | exact H
                      have Ny228 := Aside0.mk hy228
                      clear hy228
                      by_cases c93 : y228.length + t168.length < 140737488355328
                      · rw [if_pos c93] at H
                        have LMc93 := Aside0.mk c93
                        clear c93
                        obtain ⟨y231, hy231⟩ : ∃ y_ : List Int, y_ = (y228 ++ t168) := ⟨_, rfl⟩
                        replace H : ((impl_Unescape.f y231 (!x5_6)).bind fun t234 => ((laws_lwSameBytes.f t191 t168).bind fun t237 => (if t237 = true then (some ((decide ((t234.length : Int) > 0)) == false)) else (some false)))) = some r := by first | (rw [hy231]; with_reducible exact H) | (have H2_ := (Option.bind_some _ _).symm.trans H; rw [hy231]; with_reducible exact H2_) | (have H2_ := (Option.bind_some _ _).symm.trans H; with_reducible exact H2_) | with_reducible exact H | (rw [hy231]; exact H) | exact H
                        have Ny231 := Aside0.mk hy231
                        clear hy231
                        replace H := Option.bind_eq_some_iff.mp H
                        obtain ⟨t234, A940, H⟩ := H
                        replace H : ((laws_lwSameBytes.f t191 t168).bind fun t237 => (if t237 = true then (some ((decide ((t234.length : Int) > 0)) == false)) else (some false))) = some r := H
                        have A94 := Aside0.mk A940
                        clear A940
                        replace H := Option.bind_eq_some_iff.mp H
                        obtain ⟨t237, A950, H⟩ := H
                        replace H : (if t237 = true then (some ((decide ((t234.length : Int) > 0)) == false)) else (some false)) = some r := H
                        have A95 := Aside0.mk A950
                        clear A950
                        by_cases c96 : t237 = true
                        · subst c96
                          have H1 : (some ((decide ((t234.length : Int) > 0)) == false)) = some r := by rw [if_pos rfl] at H; exact H
                          clear H
                          have H := H1
                          clear H1
                          obtain rfl := Option.some.inj H
                          try go_wp2
                          have n0_ := Aside0.mk (Kd.R_drew HO_3.out)
                          have n1_ := Aside0.mk (Kd.R_drew HO_180001.out)
                          have n2_ := Aside0.mk (blk_drew BK179.out)
                          have n3_ := Aside0.mk (below_drew1 HB.out)
                          clear HO_3
                          clear HO_180001
                          clear BK179
                          clear HB
                          have HO_3 := n0_
                          have HO_180001 := n1_
                          have BK179 := n2_
                          have HB := n3_
                          clear n0_ n1_ n2_ n3_
                          refine start_ (n := 8) (S := fun w' => w'.cell? ⟨gb179, 0, none⟩ = some (.bool t174) ∧ w'.cell? ⟨gb179, 1, none⟩ = some (.slice Ao14 t175.length co14) ∧ w'.cell? ⟨gb179, 2, none⟩ = some (.bool t178)) (ds := []) #[false, false, false, false, false, false, false, false] (by kernel_rfl) rfl rfl ⟨(blk_cell BK179.out 0).trans rfl, (blk_cell BK179.out 1).trans rfl, (blk_cell BK179.out 2).trans rfl⟩ (fun hHeld => ?_); refine with_tabW laws_FnEscape.tab10 laws_FnEscape.bits10 (fun HT_ HW_ => ?_)
                          generalize wc.drew = w97 at HO_3 HO_180001 BK179 HB hHeld ⊢
                          refine pure_ (i := 1) (N := some 73) (v := ?_) (a' := ?_) #[false, true, false, false, false, false, false, false] rfl rfl (any_of HT_.out (by kernel_rfl)) (fun _ _ _ h => h) (Or.inl ⟨by rfl, ?_⟩) ?_ ?_
                          rotate_left
                          · intro w'
                            go_simp
                            with_reducible rfl
                          rotate_left
                          · simp only [Act.put, List.setIfInBounds_toArray, List.set_cons_zero, List.set_cons_succ, i64_w, i32_w]
                            rfl
                          refine pure_ (i := 4) (N := some 76) (v := ?_) (a' := ?_) #[false, true, false, false, true, false, false, false] rfl rfl (any_of HT_.out (by kernel_rfl)) (fun _ _ _ h => h) (Or.inl ⟨by rfl, ?_⟩) ?_ ?_
                          rotate_left
                          · intro w'
                            go_simp
                            with_reducible rfl
                          rotate_left
                          · simp only [Act.put, List.setIfInBounds_toArray, List.set_cons_zero, List.set_cons_succ, i64_w, i32_w]
                            rfl
                          refine take_ (i := 2) (N := some 74) (v := ?_) (a' := ?_) #[false, true, true, false, true, false, false, false] rfl rfl (take_ofW HT_.out HW_.out (by kernel_rfl)) (fun _ _ _ h => h) (Or.inl ⟨by rfl, ?_⟩) hHeld ?_ ?_
                          rotate_left
                          · rintro w' ⟨s0, s1, s2⟩
                            go_simp
                            with_reducible rfl
                          rotate_left
                          · simp only [Act.put, List.setIfInBounds_toArray, List.set_cons_zero, List.set_cons_succ, i64_w, i32_w]
                            rfl
                          refine take_ (i := 5) (N := some 77) (v := ?_) (a' := ?_) #[false, true, true, false, true, true, false, false] rfl rfl (take_ofW HT_.out HW_.out (by kernel_rfl)) (fun _ _ _ h => h) (Or.inl ⟨by rfl, ?_⟩) hHeld ?_ ?_
                          rotate_left
                          · rintro w' ⟨s0, s1, s2⟩
                            go_simp
                            with_reducible rfl
                          rotate_left
                          · simp only [Act.put, List.setIfInBounds_toArray, List.set_cons_zero, List.set_cons_succ, i64_w, i32_w]
                            rfl
                          refine one_ (i := 0) (N := some 72) #[true, true, true, false, true, true, false, false] rfl rfl (one_of HT_.out (by kernel_rfl)) (by decide) (fun K hK => ?_)
                          refine Kd.R_lit_step (Kd.int .u8) _ 5 ?hg (N := 72) ?hd (xs := ([] : List Int)) (inner := []) (ok := fun _ => True) (okp := fun _ => True) ?hr ?hp (fun _ hk => hk) trivial (Below.refl _ _) (Nat.le_refl _) (by simp) ?_; (case hd => rfl); (case hg => rfl); (case hr => first | (go_simp; done) | (go_simp; rfl)); (case hp => exact (Reps.none _ _))
                          intro v186 w98 ho99 hb hg_ hnew_
                          clear hg_ hnew_
                          (first | rw [← Ny185.out] at ho99 | (simp only [Int.reduceToNat] at ho99; rw [← Ny185.out] at ho99))
                          have n0_ := Aside0.mk (Kd.R_elder' (by (with_reducible repeat (first | apply Kd.R_alloc | apply Kd.R_drewN | apply Kd.R_drew)); exact HO_3.out) (Kd.R_base ho99) hb)
                          have n1_ := Aside0.mk (Kd.R_elder' (by (with_reducible repeat (first | apply Kd.R_alloc | apply Kd.R_drewN | apply Kd.R_drew)); exact HO_180001.out) (Kd.R_base ho99) hb)
                          have n2_ := Aside0.mk (Kd.R_lower (Kd.R_new' (Kd.R_new' ho99 (Kd.R_lt (by (with_reducible repeat (first | apply Kd.R_alloc | apply Kd.R_drewN | apply Kd.R_drew)); exact HO_3.out))) (Kd.R_lt (by (with_reducible repeat (first | apply Kd.R_alloc | apply Kd.R_drewN | apply Kd.R_drew)); exact HO_180001.out))) (below_size (by repeat (first | (with_reducible first | exact HB.out | apply below_alloc | apply pw_below_drewN | apply below_drew1 | refine below_set ?_ GE179.out) | exact HB.out))))
                          have n3_ := Aside0.mk (blk_below (g := gb179) (o := .cells #[.bool t174, .slice Ao14 t175.length co14, .bool t178] 29 (0, 0)) (by (with_reducible repeat (first | refine blk_drewN ?_ _ | refine blk_drew ?_ | refine blk_alloc ?_ _)); exact BK179.out) hb)
                          have n4_ := Aside0.mk (below_step (by repeat (first | (with_reducible first | exact HB.out | apply below_alloc | apply pw_below_drewN | apply below_drew1 | refine below_set ?_ GE179.out) | exact HB.out)) hb)
                          clear HO_3
                          clear HO_180001
                          clear BK179
                          clear HB
                          have HO_3 := n0_
                          have HO_180001 := n1_
                          have HO187 := n2_
                          have BK179 := n3_
                          have HB := n4_
                          clear n0_ n1_ n2_ n3_ n4_
                          clear hb ho99
                          refine hK.out _ _ ⟨(blk_cell BK179.out 0).trans rfl, (blk_cell BK179.out 1).trans rfl, (blk_cell BK179.out 2).trans rfl⟩ (fun hHeld => ?_)
                          clear hK K
                          refine norm_ (a' := ?_) ?_ ?_
                          rotate_left
                          · show Act.put _ (some 72) _ = _
                            simp only [Act.put, List.setIfInBounds_toArray, List.set_cons_zero, List.set_cons_succ, i64_w, i32_w]
                            rfl
                          refine one_ (i := 3) (N := some 75) #[true, true, true, true, true, true, false, false] rfl rfl (one_of HT_.out (by kernel_rfl)) (by decide) (fun K hK => ?_)
                          refine Kd.R_append_rows_step (Kd.int .u8) (w0 := w) w.heap.size (by rfl) (.tmp 72) (.tmp 74) 22 5 (.int .u8 0) 1 rfl Try.underlying22 info5 rfl (by decide) (by omega) v186 y185 t175 _ _ _ (fun k_ => some k_ ≠ (.slice Ao15 t168.length co15 : Value).ownBlock ∧ some k_ ≠ (.slice Ao14 t175.length co14 : Value).ownBlock) (fun _ => False) rfl rfl ?aO ?aR (fun _ _ h => h) (fun _ h => h.elim) ?aF ?aB ?aS ?aL ?_
                          (case aR => repeat (first | exact (Kd.R_reads' HO_180001.out).2.2 | (with_reducible refine Kd.C_alloc ?_ _) | (with_reducible refine Kd.C_drewN ?_ _) | (with_reducible refine Kd.C_drew ?_)))
                          (case aB => exact (by repeat (first | (with_reducible first | exact HB.out | apply below_alloc | apply pw_below_drewN | apply below_drew1 | refine below_set ?_ GE179.out) | exact HB.out)))
                          (case aF => exact (fun k_ hk => ⟨Kd.fresh' (Kd.R_lt (by (with_reducible repeat (first | apply Kd.R_alloc | apply Kd.R_drewN | apply Kd.R_drew)); exact HO_3.out)) k_ hk, Kd.fresh' (Kd.R_lt (by (with_reducible repeat (first | apply Kd.R_alloc | apply Kd.R_drewN | apply Kd.R_drew)); exact HO_180001.out)) k_ hk⟩))
                          (case aO => exact (by (with_reducible repeat (first | apply Kd.R_alloc | apply Kd.R_drewN | apply Kd.R_drew)); exact Kd.R_mono HO187.out (fun _ hk => ⟨hk.1.2, hk.2⟩)))
                          (case aS => exact (below_size (by repeat (first | (with_reducible first | exact HB.out | apply below_alloc | apply pw_below_drewN | apply below_drew1 | refine below_set ?_ GE179.out) | exact HB.out))))
                          (case aL => have := LMc33.out; omega)
                          intro v189 w100 ho hb hg hat
                          rw [← Ny188.out] at ho
                          have n0_ := Aside0.mk (Kd.R_after (ok := (fun k_ => some k_ ≠ (.slice Ao14 t175.length co14 : Value).ownBlock)) (by (with_reducible repeat (first | apply Kd.R_alloc | apply Kd.R_drewN | apply Kd.R_drew)); exact HO_3.out) hg hat)
                          have n1_ := Aside0.mk (Kd.R_after (ok := (fun k_ => some k_ ≠ (.slice Ao15 t168.length co15 : Value).ownBlock)) (by (with_reducible repeat (first | apply Kd.R_alloc | apply Kd.R_drewN | apply Kd.R_drew)); exact HO_180001.out) hg hat)
                          have n2_ := Aside0.mk (blk_grown (g := gb179) (o := .cells #[.bool t174, .slice Ao14 t175.length co14, .bool t178] 29 (0, 0)) (by (with_reducible repeat (first | refine blk_drewN ?_ _ | refine blk_drew ?_ | refine blk_alloc ?_ _)); exact BK179.out) hg (Kd.R_ne HO187.out BK179.out (by decide)))
                          have n3_ := Aside0.mk (hb)
                          have n4_ := Aside0.mk (ho)
                          clear HO_3
                          clear HO_180001
                          clear BK179
                          clear HB
                          clear HO187
                          have HO_3 := n0_
                          have HO_180001 := n1_
                          have BK179 := n2_
                          have HB := n3_
                          have HO190 := n4_
                          clear n0_ n1_ n2_ n3_ n4_
                          clear ho hb hg hat
                          obtain ⟨Ao101, co101, eo101⟩ := Kd.R_slice HO190.out
                          (first | subst eo101 | (injection eo101 with f1_ f2_ f3_; have f4_ := f1_.symm; have f5_ := f3_.symm; clear f1_ f2_ f3_; subst f4_; subst f5_))
                          refine hK.out _ _ ⟨(blk_cell BK179.out 0).trans rfl, (blk_cell BK179.out 1).trans rfl, (blk_cell BK179.out 2).trans rfl⟩ (fun hHeld => ?_)
                          clear hK K
                          refine norm_ (a' := ?_) ?_ ?_
                          rotate_left
                          · show Act.put _ (some 75) _ = _
                            simp only [Act.put, List.setIfInBounds_toArray, List.set_cons_zero, List.set_cons_succ, i64_w, i32_w]
                            rfl
                          refine one_ (i := 6) (N := some 78) #[true, true, true, true, true, true, true, false] rfl rfl (one_of HT_.out (by kernel_rfl)) (by decide) (fun K hK => ?_)
                          refine goes_ Try.func17 (by kernel_rfl) rfl #[.slice Ao101 y188.length co101, .bool t178] (by rfl) rfl rfl (by (try simp only [List.map_toArray, List.map_cons, List.map_nil]); first | done | rfl | (simp only [List.length_drop, List.length_take]; rfl)) ?_
                          with_reducible refine (impl_Unescape.calls _ _ y188 t178 t191 _ ?side1 ?side2 A34.out).mono ?_
                          (case side1 => repeat (first | exact (Kd.R_reads' HO190.out).2.2 | (with_reducible refine Kd.C_alloc ?_ _) | (with_reducible refine Kd.C_drewN ?_ _) | (with_reducible refine Kd.C_drew ?_)))
                          (case side2 => exact (Kd.R_reads' HO190.out).2.1)
                          rintro e w102 ⟨v192, rfl, ho0, hb⟩
                          refine ⟨_, rfl, ?_⟩
                          have n0_ := Aside0.mk (Kd.R_elder' (by (with_reducible repeat (first | apply Kd.R_alloc | apply Kd.R_drewN | apply Kd.R_drew)); exact HO_3.out) (Kd.R_base ho0) hb)
                          have n1_ := Aside0.mk (Kd.R_elder' (by (with_reducible repeat (first | apply Kd.R_alloc | apply Kd.R_drewN | apply Kd.R_drew)); exact HO_180001.out) (Kd.R_base ho0) hb)
                          have n2_ := Aside0.mk (Kd.R_elder' (by (with_reducible repeat (first | apply Kd.R_alloc | apply Kd.R_drewN | apply Kd.R_drew)); exact HO190.out) (Kd.R_base ho0) hb)
                          have n3_ := Aside0.mk (Kd.R_lower (Kd.R_new' (Kd.R_new' (Kd.R_new' ho0 (Kd.R_lt (by (with_reducible repeat (first | apply Kd.R_alloc | apply Kd.R_drewN | apply Kd.R_drew)); exact HO_3.out))) (Kd.R_lt (by (with_reducible repeat (first | apply Kd.R_alloc | apply Kd.R_drewN | apply Kd.R_drew)); exact HO_180001.out))) (Kd.R_lt (by (with_reducible repeat (first | apply Kd.R_alloc | apply Kd.R_drewN | apply Kd.R_drew)); exact HO190.out))) (below_size (by repeat (first | (with_reducible first | exact HB.out | apply below_alloc | apply pw_below_drewN | apply below_drew1 | refine below_set ?_ GE179.out) | exact HB.out))))
                          have n4_ := Aside0.mk (blk_below (g := gb179) (o := .cells #[.bool t174, .slice Ao14 t175.length co14, .bool t178] 29 (0, 0)) (by (with_reducible repeat (first | refine blk_drewN ?_ _ | refine blk_drew ?_ | refine blk_alloc ?_ _)); exact BK179.out) hb)
                          have n5_ := Aside0.mk (below_step (by repeat (first | (with_reducible first | exact HB.out | apply below_alloc | apply pw_below_drewN | apply below_drew1 | refine below_set ?_ GE179.out) | exact HB.out)) hb)
                          clear HO_3
                          clear HO_180001
                          clear HO190
                          clear BK179
                          clear HB
                          have HO_3 := n0_
                          have HO_180001 := n1_
                          have HO190 := n2_
                          have HO193 := n3_
                          have BK179 := n4_
                          have HB := n5_
                          clear n0_ n1_ n2_ n3_ n4_ n5_
                          (try clear hb)
                          (try clear hb2)
                          (try clear hk)
                          (try clear hi)
                          (try clear ho0)
                          refine hK.out _ _ ⟨(blk_cell BK179.out 0).trans rfl, (blk_cell BK179.out 1).trans rfl, (blk_cell BK179.out 2).trans rfl⟩ (fun hHeld => ?_)
                          clear hK K
                          refine norm_ (a' := ?_) ?_ ?_
                          rotate_left
                          · show Act.put _ (some 78) _ = _
                            simp only [Act.put, List.setIfInBounds_toArray, List.set_cons_zero, List.set_cons_succ, i64_w, i32_w]
                            rfl
                          refine pure_ (i := 7) (N := some 6) (v := ?_) (a' := ?_) #[true, true, true, true, true, true, true, true] rfl rfl (any_of HT_.out (by kernel_rfl)) (fun _ _ _ h => h) (Or.inl ⟨by rfl, ?_⟩) ?_ ?_
                          rotate_left
                          · intro w'
                            go_simp
                            with_reducible rfl
                          rotate_left
                          · simp only [Act.put, List.setIfInBounds_toArray, List.set_cons_zero, List.set_cons_succ, i64_w, i32_w]
                            rfl
                          refine done_ (done_of HT_.out (by kernel_rfl)) ?_
                          have p194 : 0 ≤ (0 : Int) := (by omega)
                          have q194 : 0 < (t168.length : Int) := of_decide_eq_true (by first | (with_reducible assumption) | assumption)
                          obtain ⟨ad194, e194, hx194_0⟩ := Kd.at_int (Kd.R_reads' HO_3.out).2.2 0 p194 q194
                          cases e194
                          have qi194 : (0 < t168.length) = True := eq_true (by omega)
                          (try rw [show ((0 : Int)).toNat = 0 from rfl] at hx194_0)
                          (try rw [Addr.add_zero'] at hx194_0)
                          replace p194 := eq_true p194
                          replace q194 := eq_true q194
                          try go_wp2_with (first | ((with_reducible refine gate_dst (N := 101) rfl ?_); (try (refine gate_guard (by rfl) ?_; dsimp only)); refine Kd.R_lit (Kd.int .u8) _ 5 ?hg (N := 101) ?hd (xs := ([] : List Int)) (inner := []) (ok := fun _ => True) (okp := fun _ => True) ?hr ?hp (fun _ hk => hk) trivial (Below.refl _ _) (Nat.le_refl _) (by simp) ?_; (case hd => rfl); (case hg => rfl); (case hr => first | (go_simp; done) | (go_simp; rfl)); (case hp => exact (Reps.none _ _)); intro v229 w103 ho104 hb hg_ hnew_; clear hg_ hnew_; (first | rw [← Ny228.out] at ho104 | (simp only [Int.reduceToNat] at ho104; rw [← Ny228.out] at ho104)); have n0_ := Aside0.mk (Kd.R_elder' (by (with_reducible repeat (first | apply Kd.R_alloc | apply Kd.R_drewN | apply Kd.R_drew)); exact HO_3.out) (Kd.R_base ho104) hb); have n1_ := Aside0.mk (Kd.R_elder' (by (with_reducible repeat (first | apply Kd.R_alloc | apply Kd.R_drewN | apply Kd.R_drew)); exact HO_180001.out) (Kd.R_base ho104) hb); have n2_ := Aside0.mk (Kd.R_elder' (by (with_reducible repeat (first | apply Kd.R_alloc | apply Kd.R_drewN | apply Kd.R_drew)); exact HO190.out) (Kd.R_base ho104) hb); have n3_ := Aside0.mk (Kd.R_elder' (by (with_reducible repeat (first | apply Kd.R_alloc | apply Kd.R_drewN | apply Kd.R_drew)); exact HO193.out) (Kd.R_base ho104) hb); have n4_ := Aside0.mk (Kd.R_lower (Kd.R_new' (Kd.R_new' (Kd.R_new' (Kd.R_new' ho104 (Kd.R_lt (by (with_reducible repeat (first | apply Kd.R_alloc | apply Kd.R_drewN | apply Kd.R_drew)); exact HO_3.out))) (Kd.R_lt (by (with_reducible repeat (first | apply Kd.R_alloc | apply Kd.R_drewN | apply Kd.R_drew)); exact HO_180001.out))) (Kd.R_lt (by (with_reducible repeat (first | apply Kd.R_alloc | apply Kd.R_drewN | apply Kd.R_drew)); exact HO190.out))) (Kd.R_lt (by (with_reducible repeat (first | apply Kd.R_alloc | apply Kd.R_drewN | apply Kd.R_drew)); exact HO193.out))) (below_size (by repeat (first | (with_reducible first | exact HB.out | apply below_alloc | apply pw_below_drewN | apply below_drew1 | refine below_set ?_ GE179.out) | exact HB.out)))); have n5_ := Aside0.mk (blk_below (g := gb179) (o := .cells #[.bool t174, .slice Ao14 t175.length co14, .bool t178] 29 (0, 0)) (by (with_reducible repeat (first | refine blk_drewN ?_ _ | refine blk_drew ?_ | refine blk_alloc ?_ _)); exact BK179.out) hb); have n6_ := Aside0.mk (below_step (by repeat (first | (with_reducible first | exact HB.out | apply below_alloc | apply pw_below_drewN | apply below_drew1 | refine below_set ?_ GE179.out) | exact HB.out)) hb); clear HO_3; clear HO_180001; clear HO190; clear HO193; clear BK179; clear HB; have HO_3 := n0_; have HO_180001 := n1_; have HO190 := n2_; have HO193 := n3_; have HO230 := n4_; have BK179 := n5_; have HB := n6_; clear n0_ n1_ n2_ n3_ n4_ n5_ n6_; clear hb ho104) | ((with_reducible refine gate_builtin (b := .append) (xs := #[.tmp 101, .tmp 102]) rfl ?_); (try (refine gate_guard (by rfl) ?_; dsimp only)); at_builtin; refine Kd.R_append_rows (Kd.int .u8) (w0 := w) w.heap.size rfl (.tmp 101) (.tmp 102) 22 5 (.int .u8 0) 1 rfl Try.underlying22 info5 rfl (by decide) (by omega) v229 y228 t168 _ _ _ (fun k_ => some k_ ≠ (.slice (some ad194) t168.length co15 : Value).ownBlock ∧ some k_ ≠ (.slice Ao14 t175.length co14 : Value).ownBlock ∧ some k_ ≠ (.slice Ao101 y188.length co101 : Value).ownBlock ∧ some k_ ≠ (v192 : Value).ownBlock) (fun _ => False) rfl rfl ?aO ?aR (fun _ _ h => h) (fun _ h => h.elim) ?aF ?aB ?aS ?aL ?_; (case aR => repeat (first | exact (Kd.R_reads' HO_3.out).2.2 | (with_reducible refine Kd.C_alloc ?_ _) | (with_reducible refine Kd.C_drewN ?_ _) | (with_reducible refine Kd.C_drew ?_))); (case aB => exact (by repeat (first | (with_reducible first | exact HB.out | apply below_alloc | apply pw_below_drewN | apply below_drew1 | refine below_set ?_ GE179.out) | exact HB.out))); (case aF => exact (fun k_ hk => ⟨Kd.fresh' (Kd.R_lt (by (with_reducible repeat (first | apply Kd.R_alloc | apply Kd.R_drewN | apply Kd.R_drew)); exact HO_3.out)) k_ hk, Kd.fresh' (Kd.R_lt (by (with_reducible repeat (first | apply Kd.R_alloc | apply Kd.R_drewN | apply Kd.R_drew)); exact HO_180001.out)) k_ hk, Kd.fresh' (Kd.R_lt (by (with_reducible repeat (first | apply Kd.R_alloc | apply Kd.R_drewN | apply Kd.R_drew)); exact HO190.out)) k_ hk, Kd.fresh' (Kd.R_lt (by (with_reducible repeat (first | apply Kd.R_alloc | apply Kd.R_drewN | apply Kd.R_drew)); exact HO193.out)) k_ hk⟩)); (case aO => exact (by (with_reducible repeat (first | apply Kd.R_alloc | apply Kd.R_drewN | apply Kd.R_drew)); exact Kd.R_mono HO230.out (fun _ hk => ⟨hk.1.1.1.2, ⟨hk.1.1.2, ⟨hk.1.2, hk.2⟩⟩⟩))); (case aS => exact (below_size (by repeat (first | (with_reducible first | exact HB.out | apply below_alloc | apply pw_below_drewN | apply below_drew1 | refine below_set ?_ GE179.out) | exact HB.out)))); (case aL => have := LMc93.out; omega); intro v232 w105 ho hb hg hat; rw [← Ny231.out] at ho; have n0_ := Aside0.mk (Kd.R_after (ok := (fun k_ => some k_ ≠ (.slice Ao14 t175.length co14 : Value).ownBlock ∧ some k_ ≠ (.slice Ao101 y188.length co101 : Value).ownBlock ∧ some k_ ≠ (v192 : Value).ownBlock)) (by (with_reducible repeat (first | apply Kd.R_alloc | apply Kd.R_drewN | apply Kd.R_drew)); exact Kd.R_mono HO_3.out (fun _ hk => ⟨⟨hk.1.1.1, ⟨hk.1.1.2, hk.1.2⟩⟩, hk.2⟩)) hg hat); have n1_ := Aside0.mk (Kd.R_after (ok := (fun k_ => some k_ ≠ (.slice (some ad194) t168.length co15 : Value).ownBlock ∧ some k_ ≠ (.slice Ao101 y188.length co101 : Value).ownBlock ∧ some k_ ≠ (v192 : Value).ownBlock)) (by (with_reducible repeat (first | apply Kd.R_alloc | apply Kd.R_drewN | apply Kd.R_drew)); exact Kd.R_mono HO_180001.out (fun _ hk => ⟨⟨hk.1.1.1, ⟨hk.1.1.2, hk.1.2⟩⟩, hk.2⟩)) hg hat); have n2_ := Aside0.mk (blk_grown (g := gb179) (o := .cells #[.bool t174, .slice Ao14 t175.length co14, .bool t178] 29 (0, 0)) (by (with_reducible repeat (first | refine blk_drewN ?_ _ | refine blk_drew ?_ | refine blk_alloc ?_ _)); exact BK179.out) hg (Kd.R_ne HO230.out BK179.out (by decide))); have n3_ := Aside0.mk (Kd.R_after (ok := (fun k_ => some k_ ≠ (.slice (some ad194) t168.length co15 : Value).ownBlock ∧ some k_ ≠ (.slice Ao14 t175.length co14 : Value).ownBlock ∧ some k_ ≠ (v192 : Value).ownBlock)) (by (with_reducible repeat (first | apply Kd.R_alloc | apply Kd.R_drewN | apply Kd.R_drew)); exact Kd.R_mono HO190.out (fun _ hk => ⟨⟨hk.1.1.1, ⟨hk.1.1.2, hk.1.2⟩⟩, hk.2⟩)) hg hat); have n4_ := Aside0.mk (Kd.R_after (ok := (fun k_ => some k_ ≠ (.slice (some ad194) t168.length co15 : Value).ownBlock ∧ some k_ ≠ (.slice Ao14 t175.length co14 : Value).ownBlock ∧ some k_ ≠ (.slice Ao101 y188.length co101 : Value).ownBlock)) (by (with_reducible repeat (first | apply Kd.R_alloc | apply Kd.R_drewN | apply Kd.R_drew)); exact Kd.R_mono HO193.out (fun _ hk => ⟨⟨hk.1.1.1.2, ⟨hk.1.1.2, hk.1.2⟩⟩, hk.2⟩)) hg hat); have n5_ := Aside0.mk (hb); have n6_ := Aside0.mk (ho); clear HO_3; clear HO_180001; clear BK179; clear HO190; clear HO193; clear HB; clear HO230; have HO_3 := n0_; have HO_180001 := n1_; have BK179 := n2_; have HO190 := n3_; have HO193 := n4_; have HB := n5_; have HO233 := n6_; clear n0_ n1_ n2_ n3_ n4_ n5_ n6_; clear ho hb hg hat; obtain ⟨Ao106, co106, eo106⟩ := Kd.R_slice HO233.out; subst eo106) | ((with_reducible refine gate_callee (f := 17) rfl ?_); refine goesL_ (some 106) rfl rfl Try.func17 (by kernel_rfl) rfl #[.slice Ao106 y231.length co106, .bool (!x5_6)] rfl (by (try simp only [List.map_toArray, List.map_cons, List.map_nil]); first | done | rfl | (simp only [List.length_drop, List.length_take]; rfl)) ?_; (with_reducible refine (impl_Unescape.calls _ _ y231 (!x5_6) t234 _ ?side1 ?side2 A94.out).mono ?_); (case side1 => repeat (first | exact (Kd.R_reads' HO233.out).2.2 | (with_reducible refine Kd.C_alloc ?_ _) | (with_reducible refine Kd.C_drewN ?_ _) | (with_reducible refine Kd.C_drew ?_))); (case side2 => exact (Kd.R_reads' HO233.out).2.1); rintro e w107 ⟨v235, rfl, ho0, hb⟩; refine ⟨_, rfl, ?_⟩; have n0_ := Aside0.mk (Kd.R_elder' (by (with_reducible repeat (first | apply Kd.R_alloc | apply Kd.R_drewN | apply Kd.R_drew)); exact HO_3.out) (Kd.R_base ho0) hb); have n1_ := Aside0.mk (Kd.R_elder' (by (with_reducible repeat (first | apply Kd.R_alloc | apply Kd.R_drewN | apply Kd.R_drew)); exact HO_180001.out) (Kd.R_base ho0) hb); have n2_ := Aside0.mk (Kd.R_elder' (by (with_reducible repeat (first | apply Kd.R_alloc | apply Kd.R_drewN | apply Kd.R_drew)); exact HO190.out) (Kd.R_base ho0) hb); have n3_ := Aside0.mk (Kd.R_elder' (by (with_reducible repeat (first | apply Kd.R_alloc | apply Kd.R_drewN | apply Kd.R_drew)); exact HO193.out) (Kd.R_base ho0) hb); have n4_ := Aside0.mk (Kd.R_elder' (by (with_reducible repeat (first | apply Kd.R_alloc | apply Kd.R_drewN | apply Kd.R_drew)); exact HO233.out) (Kd.R_base ho0) hb); have n5_ := Aside0.mk (Kd.R_lower (Kd.R_new' (Kd.R_new' (Kd.R_new' (Kd.R_new' (Kd.R_new' ho0 (Kd.R_lt (by (with_reducible repeat (first | apply Kd.R_alloc | apply Kd.R_drewN | apply Kd.R_drew)); exact HO_3.out))) (Kd.R_lt (by (with_reducible repeat (first | apply Kd.R_alloc | apply Kd.R_drewN | apply Kd.R_drew)); exact HO_180001.out))) (Kd.R_lt (by (with_reducible repeat (first | apply Kd.R_alloc | apply Kd.R_drewN | apply Kd.R_drew)); exact HO190.out))) (Kd.R_lt (by (with_reducible repeat (first | apply Kd.R_alloc | apply Kd.R_drewN | apply Kd.R_drew)); exact HO193.out))) (Kd.R_lt (by (with_reducible repeat (first | apply Kd.R_alloc | apply Kd.R_drewN | apply Kd.R_drew)); exact HO233.out))) (below_size (by repeat (first | (with_reducible first | exact HB.out | apply below_alloc | apply pw_below_drewN | apply below_drew1 | refine below_set ?_ GE179.out) | exact HB.out)))); have n6_ := Aside0.mk (blk_below (g := gb179) (o := .cells #[.bool t174, .slice Ao14 t175.length co14, .bool t178] 29 (0, 0)) (by (with_reducible repeat (first | refine blk_drewN ?_ _ | refine blk_drew ?_ | refine blk_alloc ?_ _)); exact BK179.out) hb); have n7_ := Aside0.mk (below_step (by repeat (first | (with_reducible first | exact HB.out | apply below_alloc | apply pw_below_drewN | apply below_drew1 | refine below_set ?_ GE179.out) | exact HB.out)) hb); clear HO_3; clear HO_180001; clear HO190; clear HO193; clear HO233; clear BK179; clear HB; have HO_3 := n0_; have HO_180001 := n1_; have HO190 := n2_; have HO193 := n3_; have HO233 := n4_; have HO236 := n5_; have BK179 := n6_; have HB := n7_; clear n0_ n1_ n2_ n3_ n4_ n5_ n6_ n7_; (try clear hb); (try clear hb2); (try clear hk); (try clear hi); (try clear ho0); obtain ⟨Ao108, co108, eo108⟩ := Kd.R_slice HO236.out; subst eo108; obtain ⟨Ao109, co109, eo109⟩ := Kd.R_slice HO193.out; subst eo109) | ((with_reducible refine gate_callee (f := 28) rfl ?_); refine goesL_ (some 110) rfl rfl Try.func28 (by kernel_rfl) rfl #[.slice Ao109 t191.length co109, .slice (some ad194) t168.length co15] rfl (by (try simp only [List.map_toArray, List.map_cons, List.map_nil]); first | done | rfl | (simp only [List.length_drop, List.length_take]; rfl)) ?_; (with_reducible refine (laws_lwSameBytes.calls _ _ t191 _ _ t168 true _ ?side1 ?side2 ?side3 ?side4 A95.out).mono ?_); (case side1 => repeat (first | exact (Kd.R_reads' HO193.out).2.2 | (with_reducible refine Kd.C_alloc ?_ _) | (with_reducible refine Kd.C_drewN ?_ _) | (with_reducible refine Kd.C_drew ?_))); (case side2 => exact (Kd.R_reads' HO193.out).2.1); (case side3 => repeat (first | exact (Kd.R_reads' HO_3.out).2.2 | (with_reducible refine Kd.C_alloc ?_ _) | (with_reducible refine Kd.C_drewN ?_ _) | (with_reducible refine Kd.C_drew ?_))); (case side4 => exact (Kd.R_reads' HO_3.out).2.1); rintro e w' ⟨rfl, ⟨nd, rfl⟩⟩; refine ⟨_, rfl, ?_⟩))
                          go_ret
                          exact ⟨by first | rfl | (simp [errW_none, errW_some] <;> rfl) | (simp [*, errW_none, errW_some] <;> rfl), by repeat (first | (with_reducible first | exact HB.out | apply below_alloc | apply pw_below_drewN | apply below_drew1 | refine below_set ?_ GE179.out) | exact HB.out)⟩
                        · replace c96 := Bool.eq_false_iff.mpr c96
                          subst c96
                          have H1 : (some false) = some r := by rw [if_neg (show ¬ (false = true) by decide)] at H; exact H
                          clear H
                          have H := H1
                          clear H1
                          exact absurd ((Option.some.inj H).trans hrt.out) (by simp)
                      · rw [if_neg c93] at H
                        exact absurd H (by simp)
                  · rw [if_neg c35] at H
                    exact absurd H (by simp)
                · rw [if_neg c33] at H
                  exact absurd H (by simp)
    · rw [if_neg c6] at H
      have c6b0 : ((t168.length : Int) == 64) = false := beq_eq_false_iff_ne.mpr c6
      have c6b1 : ((t168.length : Int) != 64) = true := bne_iff_ne.mpr c6
      by_cases c110 : t174 = true
      · subst c110
        have H1 : (some false) = some r := by rw [if_pos rfl] at H; exact H
        clear H
        have H := H1
        clear H1
        exact absurd ((Option.some.inj H).trans hrt.out) (by simp)
      · replace c110 := Bool.eq_false_iff.mpr c110
        subst c110
        have H1 : (some ((t175.length : Int) == 0)) = some r := by rw [if_neg (show ¬ (false = true) by decide)] at H; exact H
        clear H
        have H := H1
        clear H1
        obtain rfl := Option.some.inj H
        go_enter Try.func5, Try.ntmps5
        go_wp2_with (first | ((with_reducible refine gate_callee (f := 26) rfl ?_); refine goesL_ (some 13) rfl rfl Try.func26 (by kernel_rfl) rfl #[.slice A0 l0.length c0] rfl (by (try simp only [List.map_toArray, List.map_cons, List.map_nil]); first | done | rfl | (simp only [List.length_drop, List.length_take]; rfl)) ?_; (with_reducible refine (spec_DrawEscape.calls k _ _ l0 t168 _ ?side1 ?side2 A3.out).mono ?_); (case side1 => repeat (first | exact HR0.out | (with_reducible refine Kd.C_alloc ?_ _) | (with_reducible refine Kd.C_drewN ?_ _) | (with_reducible refine Kd.C_drew ?_))); (case side2 => exact HC0.out); rintro e w111 ⟨v169, rfl, ho0, hb⟩; refine ⟨_, rfl, ?_⟩; have n0_ := Aside0.mk (Kd.R_lower ho0 (below_size (by repeat (first | (with_reducible first | exact HB.out | apply below_alloc | apply pw_below_drewN | apply below_drew1) | exact HB.out)))); have n1_ := Aside0.mk (below_step (by repeat (first | (with_reducible first | exact HB.out | apply below_alloc | apply pw_below_drewN | apply below_drew1) | exact HB.out)) hb); clear HB; have HO170 := n0_; have HB := n1_; clear n0_ n1_; (try clear hb); (try clear hb2); (try clear hk); (try clear hi); (try clear ho0)) | ((with_reducible refine gate_callee (f := 26) rfl ?_); refine goesL_ (some 15) rfl rfl Try.func26 (by kernel_rfl) rfl #[.slice A0 l0.length c0] rfl (by (try simp only [List.map_toArray, List.map_cons, List.map_nil]); first | done | rfl | (simp only [List.length_drop, List.length_take]; rfl)) ?_; (with_reducible refine (spec_DrawEscape.calls k _ _ l0 t171 _ ?side1 ?side2 A4.out).mono ?_); (case side1 => repeat (first | exact (Kd.C_below HR0.out HB.out) | (with_reducible refine Kd.C_alloc ?_ _) | (with_reducible refine Kd.C_drewN ?_ _) | (with_reducible refine Kd.C_drew ?_))); (case side2 => exact HC0.out); rintro e w112 ⟨v172, rfl, ho0, hb⟩; refine ⟨_, rfl, ?_⟩; have n0_ := Aside0.mk (Kd.R_elder' (by (with_reducible repeat (first | apply Kd.R_alloc | apply Kd.R_drewN | apply Kd.R_drew)); exact HO170.out) (Kd.R_base ho0) hb); have n1_ := Aside0.mk (Kd.R_lower (Kd.R_new' ho0 (Kd.R_lt (by (with_reducible repeat (first | apply Kd.R_alloc | apply Kd.R_drewN | apply Kd.R_drew)); exact HO170.out))) (below_size (by repeat (first | (with_reducible first | exact HB.out | apply below_alloc | apply pw_below_drewN | apply below_drew1) | exact HB.out)))); have n2_ := Aside0.mk (below_step (by repeat (first | (with_reducible first | exact HB.out | apply below_alloc | apply pw_below_drewN | apply below_drew1) | exact HB.out)) hb); clear HO170; clear HB; have HO170 := n0_; have HO173 := n1_; have HB := n2_; clear n0_ n1_ n2_; (try clear hb); (try clear hb2); (try clear hk); (try clear hi); (try clear ho0); obtain ⟨Ao113, co113, eo113⟩ := Kd.R_slice HO173.out; subst eo113) | ((with_reducible refine gate_callee (f := 22) rfl ?_); refine goesL_ (some 16) rfl rfl Try.func22 (by kernel_rfl) rfl #[.slice Ao113 t171.length co113] rfl (by (try simp only [List.map_toArray, List.map_cons, List.map_nil]); first | done | rfl | (simp only [List.length_drop, List.length_take]; rfl)) ?_; (with_reducible refine (impl_Escape.calls _ _ t171 false t175 t178 _ ?side1 ?side2 A5.out).mono ?_); (case side1 => repeat (first | exact (Kd.R_reads' HO173.out).2.2 | (with_reducible refine Kd.C_alloc ?_ _) | (with_reducible refine Kd.C_drewN ?_ _) | (with_reducible refine Kd.C_drew ?_))); (case side2 => exact (Kd.R_reads' HO173.out).2.1); rintro e w114 ⟨v176, rfl, ho0, hb⟩; refine ⟨_, rfl, ?_⟩; have n0_ := Aside0.mk (Kd.R_elder' (by (with_reducible repeat (first | apply Kd.R_alloc | apply Kd.R_drewN | apply Kd.R_drew)); exact HO170.out) (Kd.R_base ho0) hb); have n1_ := Aside0.mk (Kd.R_elder' (by (with_reducible repeat (first | apply Kd.R_alloc | apply Kd.R_drewN | apply Kd.R_drew)); exact HO173.out) (Kd.R_base ho0) hb); have n2_ := Aside0.mk (Kd.R_lower (Kd.R_new' (Kd.R_new' ho0 (Kd.R_lt (by (with_reducible repeat (first | apply Kd.R_alloc | apply Kd.R_drewN | apply Kd.R_drew)); exact HO170.out))) (Kd.R_lt (by (with_reducible repeat (first | apply Kd.R_alloc | apply Kd.R_drewN | apply Kd.R_drew)); exact HO173.out))) (below_size (by repeat (first | (with_reducible first | exact HB.out | apply below_alloc | apply pw_below_drewN | apply below_drew1) | exact HB.out)))); have n3_ := Aside0.mk (below_step (by repeat (first | (with_reducible first | exact HB.out | apply below_alloc | apply pw_below_drewN | apply below_drew1) | exact HB.out)) hb); clear HO170; clear HO173; clear HB; have HO170 := n0_; have HO173 := n1_; have HO177 := n2_; have HB := n3_; clear n0_ n1_ n2_ n3_; (try clear hb); (try clear hb2); (try clear hk); (try clear hi); (try clear ho0)) | ((with_reducible refine gate_dst (N := 4) rfl ?_); (try (refine gate_guard (by rfl) ?_; dsimp only)); refine box_event ?hg (N := 4) ?hd (cs := #[.bool false, .slice none 0 0, .bool false]) (t := 29) ?hr ?_; (case hd => rfl); (case hg => rfl); (case hr => first | (go_simp; done) | (go_simp; rfl)); intro gb179 hg w115 hbox hb; have n0_ := Aside0.mk (Kd.R_below (by (with_reducible repeat (first | apply Kd.R_alloc | apply Kd.R_drewN | apply Kd.R_drew)); exact HO170.out) hb); have n1_ := Aside0.mk (Kd.R_below (by (with_reducible repeat (first | apply Kd.R_alloc | apply Kd.R_drewN | apply Kd.R_drew)); exact HO173.out) hb); have n2_ := Aside0.mk (Kd.R_below (by (with_reducible repeat (first | apply Kd.R_alloc | apply Kd.R_drewN | apply Kd.R_drew)); exact HO177.out) hb); have n3_ := Aside0.mk (below_step (by repeat (first | (with_reducible first | exact HB.out | apply below_alloc | apply pw_below_drewN | apply below_drew1) | exact HB.out)) hb); have n4_ := Aside0.mk (hbox); have n5_ := Aside0.mk ((by rw [hg]; exact (below_size (by repeat (first | (with_reducible first | exact HB.out | apply below_alloc | apply pw_below_drewN | apply below_drew1) | exact HB.out))) : w.heap.size ≤ gb179)); have n6_ := Aside0.mk ((by rw [hg]; exact (below_size (by repeat (first | (with_reducible first | exact HB.out | apply below_alloc | apply pw_below_drewN | apply below_drew1) | exact HB.out))) : w.heap.size ≤ gb179)); clear HO170; clear HO173; clear HO177; clear HB; have HO170 := n0_; have HO173 := n1_; have HO177 := n2_; have HB := n3_; have BK179 := n4_; have GW179 := n5_; have GE179 := n6_; clear n0_ n1_ n2_ n3_ n4_ n5_ n6_; clear hb hbox hg; have hcz116_0 : w115.cell? ⟨gb179, 0, none⟩ = some (.bool false) := (blk_cell BK179.out 0).trans rfl; have hcz116_1 : w115.cell? ⟨gb179, 1, none⟩ = some (.slice none 0 0) := (blk_cell BK179.out 1).trans rfl; have hcz116_2 : w115.cell? ⟨gb179, 2, none⟩ = some (.bool false) := (blk_cell BK179.out 2).trans rfl; have hfz116_0 := blk_frozen BK179.out 0; have hfz116_1 := blk_frozen BK179.out 1; have hfz116_2 := blk_frozen BK179.out 2; obtain ⟨Ao117, co117, eo117⟩ := Kd.R_slice HO177.out; subst eo117; obtain ⟨Ao118, co118, eo118⟩ := Kd.R_slice HO170.out; subst eo118))
        go_ret
        exact ⟨by first | rfl | (simp [errW_none, errW_some] <;> rfl) | (simp [*, errW_none, errW_some] <;> rfl), by repeat (first | (with_reducible first | exact HB.out | apply below_alloc | apply pw_below_drewN | apply below_drew1 | refine below_set ?_ GE179.out) | exact HB.out)⟩

/-- THE ONE PURE STATEMENT of laws_FnEscape: yours. -/
def laws_FnEscape.Pure : Prop := ∀ (l0 : List Int), l0.length ≤ maxLen → l0.length * 1 ≤ 140737488351232 → (∀ x ∈ l0, (Lit.int .u8 x).wf = true) → ∃ k, laws_FnEscape.f k l0 = some true
theorem laws_FnEscape.walk (P : laws_FnEscape.Pure) (a0 : Option Addr) (len0 cap0 : Nat) (z0 : List Int) (w : World) (w0 : (a0 = none ∧ len0 = 0 ∧ cap0 = 0 ∧ z0 = []) ∨ ∃ x, a0 = some x ∧ len0 ≤ cap0 ∧ cap0 ≤ maxLen ∧ z0.length = cap0 ∧ (∀ i, i < z0.length → w.cell? (x.add i) = some (.int .u8 (z0.getD i 0))) ∧ ∀ n ∈ z0, (Lit.int .u8 n).wf = true) (y0 : len0 * 1 ≤ 140737488351232) :
    Calls Try.prog 5 #[.slice a0 len0 cap0] w fun e w' => e = .returned (.bool true) ∧ Below w.heap.size w w' := by
  obtain ⟨l0, rfl, hr0, hm0, hw0, hc0⟩ := ReadsInt.ofRowC w0
  obtain ⟨k, h⟩ := P l0 hm0 y0 hw0
  refine (laws_FnEscape.calls k _ _ l0 true w (Kd.C_of_reads (d := (0 : Int)) (h1 := fun _ => rfl) hr0) hc0 h ⟨rfl⟩).mono ?_
  rintro e w' ⟨rfl, hd⟩
  exact ⟨rfl, hd⟩

end Go.Proofs.Ytmaeofmmainmlaa.PFnEscape
