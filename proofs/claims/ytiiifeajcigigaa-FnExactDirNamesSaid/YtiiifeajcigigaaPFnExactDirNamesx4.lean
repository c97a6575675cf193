-- written by a program of this session (wip/src/print2.py)
import Derived.Test.YtiiifeajcigigaaPFnExactDirNamesx0
import Derived.Test.YtiiifeajcigigaaPFnExactDirNamesx1
import Derived.Test.YtiiifeajcigigaaPFnExactDirNamesx2
import Derived.Test.YtiiifeajcigigaaPFnExactDirNamesx3
namespace Go.Proofs.Ytiiifeajcigigaa.PFnExactDirNames
open Go.RowKit Go.Proofs.YtiiifeajcigigaaW.PrintWords Go.Proofs.YtiiifeajcigigaaW.PrintLast Go.Proofs.YtiiifeajcigigaaW.PrintMore
attribute [local go_sem] max2_int min2_int max_two min_two max_three min_three max_four min_four   -- for this text's walks alone
set_option linter.unusedVariables false
set_option linter.unusedSimpArgs false

/-! ### laws_FnExactDirNames: function 7 -/
def laws_FnExactDirNames.j0 : Nat → List (S23) → List ByteArray → List ByteArray → Bool → Option (Bool)
  | 0, _, _, _, _ => none
  | k + 1, x0, x4, x6, x42 => if x42 = true then (some false) else ((laws_markStringS.f k x6 1).bind fun bt180 => ((laws_heldStringS.f k bt180.2 1).bind fun t182 => (if t182 < 0 then (some false) else (if t182 = bt180.1 then ((laws_toEntryS.f k x0).bind fun t183 => ((impl_DirNames.f k t183).bind fun t186 => ((laws_eqStringS.f k t186 x4).bind fun t189 => (if t189 = true then ((laws_heldStringS.f k bt180.2 1).bind fun t190 => (if t190 < 0 then (some false) else (if t190 = bt180.1 then (some true) else (some false)))) else (some false))))) else (some false)))))
def laws_FnExactDirNames.f (k : Nat) (l0 : List (S23)) : Option (Bool) := (laws_szEntryS.f k l0 1048576).bind fun t159 => (if t159 < 0 then (some true) else ((laws_toEntryS.f k l0).bind fun t160 => ((spec_DirNames.f k t160).bind fun t163 => ((laws_toEntryS.f k l0).bind fun t166 => ((impl_DirNames.f k t166).bind fun t169 => ((laws_eqStringS.f k t169 t163).bind fun t172 => (if t172 = true then ((laws_toEntryS.f k l0).bind fun t173 => ((laws_eqEntryS.f k t166 t173).bind fun t176 => (if t176 = true then ((laws_markEntryS.f k t166 1).bind fun bt177 => (if bt177.1 < 0 then (laws_FnExactDirNames.j0 k l0 t163 t169 true) else ((laws_eqStringS.f k t169 t163).bind fun t179 => (laws_FnExactDirNames.j0 k l0 t163 t169 (!t179))))) else (some false)))) else (some false))))))))
theorem laws_FnExactDirNames.mono_l : ∀ k, (∀ y0 y1 y2 y3, LeO (laws_FnExactDirNames.j0 k y0 y1 y2 y3) (laws_FnExactDirNames.j0 (k + 1) y0 y1 y2 y3))
  | 0 => fun _ _ _ _ r h => by simp [laws_FnExactDirNames.j0] at h
  | k + 1 => by
    have ih0 := laws_FnExactDirNames.mono_l k
    · intro y0 y1 y2 y3
      unfold laws_FnExactDirNames.j0
      repeat' first
      | (with_reducible exact ih0 _ _ _ _)
      | (with_reducible exact impl_DirNames.mono _ _)
      | (with_reducible exact laws_eqEntryS.mono _ _ _)
      | (with_reducible exact laws_eqStringS.mono _ _ _)
      | (with_reducible exact laws_heldStringS.mono _ _ _)
      | (with_reducible exact laws_markEntryS.mono _ _ _)
      | (with_reducible exact laws_markStringS.mono _ _ _)
      | (with_reducible exact laws_szEntryS.mono _ _ _)
      | (with_reducible exact laws_toEntryS.mono _ _)
      | (with_reducible exact spec_DirNames.mono _ _)
      | (with_reducible exact LeO.refl _)
      | (with_reducible exact LeO.none _)
      | (with_reducible refine LeO.ite ?_ ?_)
      | (with_reducible refine LeO.bind ?_ (fun _ => ?_))
      | exact ih0 _ _ _ _
      | exact impl_DirNames.mono _ _
      | exact laws_eqEntryS.mono _ _ _
      | exact laws_eqStringS.mono _ _ _
      | exact laws_heldStringS.mono _ _ _
      | exact laws_markEntryS.mono _ _ _
      | exact laws_markStringS.mono _ _ _
      | exact laws_szEntryS.mono _ _ _
      | exact laws_toEntryS.mono _ _
      | exact spec_DirNames.mono _ _
      | exact LeO.none _
      | refine LeO.ite ?_ ?_
      | refine LeO.bind ?_ (fun _ => ?_)
theorem laws_FnExactDirNames.mono : ∀ a0 k, LeO (laws_FnExactDirNames.f k a0) (laws_FnExactDirNames.f (k + 1) a0) := by
  intro a0 k
  have ih0 := laws_FnExactDirNames.mono_l k
  unfold laws_FnExactDirNames.f
  repeat' first
      | (with_reducible exact ih0 _ _ _ _)
      | (with_reducible exact impl_DirNames.mono _ _)
      | (with_reducible exact laws_eqEntryS.mono _ _ _)
      | (with_reducible exact laws_eqStringS.mono _ _ _)
      | (with_reducible exact laws_heldStringS.mono _ _ _)
      | (with_reducible exact laws_markEntryS.mono _ _ _)
      | (with_reducible exact laws_markStringS.mono _ _ _)
      | (with_reducible exact laws_szEntryS.mono _ _ _)
      | (with_reducible exact laws_toEntryS.mono _ _)
      | (with_reducible exact spec_DirNames.mono _ _)
      | (with_reducible exact LeO.refl _)
      | (with_reducible exact LeO.none _)
      | (with_reducible refine LeO.ite ?_ ?_)
      | (with_reducible refine LeO.bind ?_ (fun _ => ?_))
      | exact ih0 _ _ _ _
      | exact impl_DirNames.mono _ _
      | exact laws_eqEntryS.mono _ _ _
      | exact laws_eqStringS.mono _ _ _
      | exact laws_heldStringS.mono _ _ _
      | exact laws_markEntryS.mono _ _ _
      | exact laws_markStringS.mono _ _ _
      | exact laws_szEntryS.mono _ _ _
      | exact laws_toEntryS.mono _ _
      | exact spec_DirNames.mono _ _
      | exact LeO.none _
      | refine LeO.ite ?_ ?_
      | refine LeO.bind ?_ (fun _ => ?_)
set_option maxHeartbeats 8000000 in
set_option maxRecDepth 100000 in
theorem laws_FnExactDirNames.calls (k : Nat) (A0 : Option Addr) (c0 : Nat) (l0 : List (S23)) (r : Bool) (w : World) (hr0 : Kd.C k23 w A0 l0.length l0) (hc0 : l0.length ≤ c0) (h : laws_FnExactDirNames.f k l0 = some r) (hrt : Aside0 (r = true)) :
    Calls Try.prog 7 #[.slice A0 l0.length c0] w fun e w' => e = .returned (.bool r) ∧ Below w.heap.size w w' := by
  have HR0 := Aside0.mk hr0
  have HC0 := Aside0.mk hc0
  clear hr0 hc0
  have HB := Aside0.mk (Below.refl w.heap.size w)
  have H : ((laws_szEntryS.f k l0 1048576).bind fun t159 => (if t159 < 0 then (some true) else ((laws_toEntryS.f k l0).bind fun t160 => ((spec_DirNames.f k t160).bind fun t163 => ((laws_toEntryS.f k l0).bind fun t166 => ((impl_DirNames.f k t166).bind fun t169 => ((laws_eqStringS.f k t169 t163).bind fun t172 => (if t172 = true then ((laws_toEntryS.f k l0).bind fun t173 => ((laws_eqEntryS.f k t166 t173).bind fun t176 => (if t176 = true then ((laws_markEntryS.f k t166 1).bind fun bt177 => (if bt177.1 < 0 then (laws_FnExactDirNames.j0 k l0 t163 t169 true) else ((laws_eqStringS.f k t169 t163).bind fun t179 => (laws_FnExactDirNames.j0 k l0 t163 t169 (!t179))))) else (some false)))) else (some false))))))))) = some r := h
  clear h
  replace H := Option.bind_eq_some_iff.mp H
  obtain ⟨t159, A20, H⟩ := H
  replace H : (if t159 < 0 then (some true) else ((laws_toEntryS.f k l0).bind fun t160 => ((spec_DirNames.f k t160).bind fun t163 => ((laws_toEntryS.f k l0).bind fun t166 => ((impl_DirNames.f k t166).bind fun t169 => ((laws_eqStringS.f k t169 t163).bind fun t172 => (if t172 = true then ((laws_toEntryS.f k l0).bind fun t173 => ((laws_eqEntryS.f k t166 t173).bind fun t176 => (if t176 = true then ((laws_markEntryS.f k t166 1).bind fun bt177 => (if bt177.1 < 0 then (laws_FnExactDirNames.j0 k l0 t163 t169 true) else ((laws_eqStringS.f k t169 t163).bind fun t179 => (laws_FnExactDirNames.j0 k l0 t163 t169 (!t179))))) else (some false)))) else (some false)))))))) = some r := H
  have A2 := Aside0.mk A20
  clear A20
  by_cases c3 : t159 < 0
  · rw [if_pos c3] at H
    have c3b0 : decide (t159 < 0) = true := decide_eq_true c3
    clear c3
    obtain rfl := Option.some.inj H
    go_enter Try.func7, Try.ntmps7
    go_wp2_with (first | ((with_reducible refine gate_callee (f := 21) rfl ?_); refine goesL_ (some 13) rfl rfl Try.func21 (by kernel_rfl) rfl #[.slice A0 l0.length c0, .int .i64 1048576] rfl (by (try simp only [List.map_toArray, List.map_cons, List.map_nil]); first | done | rfl | (simp only [List.length_drop, List.length_take]; rfl)) ?_; (with_reducible refine (laws_szEntryS.calls k _ _ l0 1048576 t159 _ ?side1 ?side2 A2.out).mono ?_); (case side1 => repeat (first | exact HR0.out | (with_reducible refine Kd.C_alloc ?_ _) | (with_reducible refine Kd.C_drewN ?_ _) | (with_reducible refine Kd.C_drew ?_))); (case side2 => exact HC0.out); rintro e w4 ⟨rfl, hb⟩; refine ⟨_, rfl, ?_⟩; have n0_ := Aside0.mk (below_step (by repeat (first | (with_reducible first | exact HB.out | apply below_alloc | apply pw_below_drewN | apply below_drew1) | exact HB.out)) hb); clear HB; have HB := n0_; clear n0_; (try clear hb); (try clear hb2); (try clear hk); (try clear hi)))
    go_ret
    exact ⟨by first | rfl | (simp [errW_none, errW_some] <;> rfl) | (simp [*, errW_none, errW_some] <;> rfl), by repeat (first | (with_reducible first | exact HB.out | apply below_alloc | apply pw_below_drewN | apply below_drew1) | exact HB.out)⟩
  · rw [if_neg c3] at H
    have c3b0 : decide (t159 < 0) = false := decide_eq_false c3
    clear c3
    replace H := Option.bind_eq_some_iff.mp H
    obtain ⟨t160, A50, H⟩ := H
    replace H : ((spec_DirNames.f k t160).bind fun t163 => ((laws_toEntryS.f k l0).bind fun t166 => ((impl_DirNames.f k t166).bind fun t169 => ((laws_eqStringS.f k t169 t163).bind fun t172 => (if t172 = true then ((laws_toEntryS.f k l0).bind fun t173 => ((laws_eqEntryS.f k t166 t173).bind fun t176 => (if t176 = true then ((laws_markEntryS.f k t166 1).bind fun bt177 => (if bt177.1 < 0 then (laws_FnExactDirNames.j0 k l0 t163 t169 true) else ((laws_eqStringS.f k t169 t163).bind fun t179 => (laws_FnExactDirNames.j0 k l0 t163 t169 (!t179))))) else (some false)))) else (some false)))))) = some r := H
    have A5 := Aside0.mk A50
    clear A50
    replace H := Option.bind_eq_some_iff.mp H
    obtain ⟨t163, A60, H⟩ := H
    replace H : ((laws_toEntryS.f k l0).bind fun t166 => ((impl_DirNames.f k t166).bind fun t169 => ((laws_eqStringS.f k t169 t163).bind fun t172 => (if t172 = true then ((laws_toEntryS.f k l0).bind fun t173 => ((laws_eqEntryS.f k t166 t173).bind fun t176 => (if t176 = true then ((laws_markEntryS.f k t166 1).bind fun bt177 => (if bt177.1 < 0 then (laws_FnExactDirNames.j0 k l0 t163 t169 true) else ((laws_eqStringS.f k t169 t163).bind fun t179 => (laws_FnExactDirNames.j0 k l0 t163 t169 (!t179))))) else (some false)))) else (some false))))) = some r := H
    have A6 := Aside0.mk A60
    clear A60
    replace H := Option.bind_eq_some_iff.mp H
    obtain ⟨t166, A70, H⟩ := H
    replace H : ((impl_DirNames.f k t166).bind fun t169 => ((laws_eqStringS.f k t169 t163).bind fun t172 => (if t172 = true then ((laws_toEntryS.f k l0).bind fun t173 => ((laws_eqEntryS.f k t166 t173).bind fun t176 => (if t176 = true then ((laws_markEntryS.f k t166 1).bind fun bt177 => (if bt177.1 < 0 then (laws_FnExactDirNames.j0 k l0 t163 t169 true) else ((laws_eqStringS.f k t169 t163).bind fun t179 => (laws_FnExactDirNames.j0 k l0 t163 t169 (!t179))))) else (some false)))) else (some false)))) = some r := H
    have A7 := Aside0.mk A70
    clear A70
    replace H := Option.bind_eq_some_iff.mp H
    obtain ⟨t169, A80, H⟩ := H
    replace H : ((laws_eqStringS.f k t169 t163).bind fun t172 => (if t172 = true then ((laws_toEntryS.f k l0).bind fun t173 => ((laws_eqEntryS.f k t166 t173).bind fun t176 => (if t176 = true then ((laws_markEntryS.f k t166 1).bind fun bt177 => (if bt177.1 < 0 then (laws_FnExactDirNames.j0 k l0 t163 t169 true) else ((laws_eqStringS.f k t169 t163).bind fun t179 => (laws_FnExactDirNames.j0 k l0 t163 t169 (!t179))))) else (some false)))) else (some false))) = some r := H
    have A8 := Aside0.mk A80
    clear A80
    replace H := Option.bind_eq_some_iff.mp H
    obtain ⟨t172, A90, H⟩ := H
    replace H : (if t172 = true then ((laws_toEntryS.f k l0).bind fun t173 => ((laws_eqEntryS.f k t166 t173).bind fun t176 => (if t176 = true then ((laws_markEntryS.f k t166 1).bind fun bt177 => (if bt177.1 < 0 then (laws_FnExactDirNames.j0 k l0 t163 t169 true) else ((laws_eqStringS.f k t169 t163).bind fun t179 => (laws_FnExactDirNames.j0 k l0 t163 t169 (!t179))))) else (some false)))) else (some false)) = some r := H
    have A9 := Aside0.mk A90
    clear A90
    by_cases c10 : t172 = true
    · subst c10
      have H1 : ((laws_toEntryS.f k l0).bind fun t173 => ((laws_eqEntryS.f k t166 t173).bind fun t176 => (if t176 = true then ((laws_markEntryS.f k t166 1).bind fun bt177 => (if bt177.1 < 0 then (laws_FnExactDirNames.j0 k l0 t163 t169 true) else ((laws_eqStringS.f k t169 t163).bind fun t179 => (laws_FnExactDirNames.j0 k l0 t163 t169 (!t179))))) else (some false)))) = some r := by rw [if_pos rfl] at H; exact H
      clear H
      have H := H1
      clear H1
      replace H := Option.bind_eq_some_iff.mp H
      obtain ⟨t173, A110, H⟩ := H
      replace H : ((laws_eqEntryS.f k t166 t173).bind fun t176 => (if t176 = true then ((laws_markEntryS.f k t166 1).bind fun bt177 => (if bt177.1 < 0 then (laws_FnExactDirNames.j0 k l0 t163 t169 true) else ((laws_eqStringS.f k t169 t163).bind fun t179 => (laws_FnExactDirNames.j0 k l0 t163 t169 (!t179))))) else (some false))) = some r := H
      have A11 := Aside0.mk A110
      clear A110
      replace H := Option.bind_eq_some_iff.mp H
      obtain ⟨t176, A120, H⟩ := H
      replace H : (if t176 = true then ((laws_markEntryS.f k t166 1).bind fun bt177 => (if bt177.1 < 0 then (laws_FnExactDirNames.j0 k l0 t163 t169 true) else ((laws_eqStringS.f k t169 t163).bind fun t179 => (laws_FnExactDirNames.j0 k l0 t163 t169 (!t179))))) else (some false)) = some r := H
      have A12 := Aside0.mk A120
      clear A120
      by_cases c13 : t176 = true
      · subst c13
        have H1 : ((laws_markEntryS.f k t166 1).bind fun bt177 => (if bt177.1 < 0 then (laws_FnExactDirNames.j0 k l0 t163 t169 true) else ((laws_eqStringS.f k t169 t163).bind fun t179 => (laws_FnExactDirNames.j0 k l0 t163 t169 (!t179))))) = some r := by rw [if_pos rfl] at H; exact H
        clear H
        have H := H1
        clear H1
        replace H := Option.bind_eq_some_iff.mp H
        obtain ⟨⟨t177, t178⟩, A140, H⟩ := H
        replace H : (if t177 < 0 then (laws_FnExactDirNames.j0 k l0 t163 t169 true) else ((laws_eqStringS.f k t169 t163).bind fun t179 => (laws_FnExactDirNames.j0 k l0 t163 t169 (!t179)))) = some r := H
        have A14 := Aside0.mk A140
        clear A140
        have HC15 := Aside0.mk H
        clear H
        go_enter Try.func7, Try.ntmps7
        go_upto_region 14 with (first | ((with_reducible refine gate_callee (f := 21) rfl ?_); refine goesL_ (some 13) rfl rfl Try.func21 (by kernel_rfl) rfl #[.slice A0 l0.length c0, .int .i64 1048576] rfl (by (try simp only [List.map_toArray, List.map_cons, List.map_nil]); first | done | rfl | (simp only [List.length_drop, List.length_take]; rfl)) ?_; (with_reducible refine (laws_szEntryS.calls k _ _ l0 1048576 t159 _ ?side1 ?side2 A2.out).mono ?_); (case side1 => repeat (first | exact HR0.out | (with_reducible refine Kd.C_alloc ?_ _) | (with_reducible refine Kd.C_drewN ?_ _) | (with_reducible refine Kd.C_drew ?_))); (case side2 => exact HC0.out); rintro e w16 ⟨rfl, hb⟩; refine ⟨_, rfl, ?_⟩; have n0_ := Aside0.mk (below_step (by repeat (first | (with_reducible first | exact HB.out | apply below_alloc | apply pw_below_drewN | apply below_drew1) | exact HB.out)) hb); clear HB; have HB := n0_; clear n0_; (try clear hb); (try clear hb2); (try clear hk); (try clear hi)) | ((with_reducible refine gate_callee (f := 23) rfl ?_); refine goesL_ (some 17) rfl rfl Try.func23 (by kernel_rfl) rfl #[.slice A0 l0.length c0] rfl (by (try simp only [List.map_toArray, List.map_cons, List.map_nil]); first | done | rfl | (simp only [List.length_drop, List.length_take]; rfl)) ?_; (with_reducible refine (laws_toEntryS.calls k _ _ l0 t160 _ ?side1 ?side2 A5.out).mono ?_); (case side1 => repeat (first | exact (Kd.C_below HR0.out HB.out) | (with_reducible refine Kd.C_alloc ?_ _) | (with_reducible refine Kd.C_drewN ?_ _) | (with_reducible refine Kd.C_drew ?_))); (case side2 => exact HC0.out); rintro e w17 ⟨v161, rfl, ho0, hb⟩; refine ⟨_, rfl, ?_⟩; have n0_ := Aside0.mk (Kd.R_lower ho0 (below_size (by repeat (first | (with_reducible first | exact HB.out | apply below_alloc | apply pw_below_drewN | apply below_drew1) | exact HB.out)))); have n1_ := Aside0.mk (below_step (by repeat (first | (with_reducible first | exact HB.out | apply below_alloc | apply pw_below_drewN | apply below_drew1) | exact HB.out)) hb); clear HB; have HO162 := n0_; have HB := n1_; clear n0_ n1_; (try clear hb); (try clear hb2); (try clear hk); (try clear hi); (try clear ho0); obtain ⟨Ao18, co18, eo18⟩ := Kd.R_slice HO162.out; subst eo18) | ((with_reducible refine gate_callee (f := 32) rfl ?_); refine goesL_ (some 18) rfl rfl Try.func32 (by kernel_rfl) rfl #[.slice Ao18 t160.length co18] rfl (by (try simp only [List.map_toArray, List.map_cons, List.map_nil]); first | done | rfl | (simp only [List.length_drop, List.length_take]; rfl)) ?_; (with_reducible refine (spec_DirNames.calls k _ _ t160 t163 _ ?side1 ?side2 A6.out).mono ?_); (case side1 => repeat (first | exact (Kd.R_reads' HO162.out).2.2 | (with_reducible refine Kd.C_alloc ?_ _) | (with_reducible refine Kd.C_drewN ?_ _) | (with_reducible refine Kd.C_drew ?_))); (case side2 => exact (Kd.R_reads' HO162.out).2.1); rintro e w19 ⟨v164, rfl, ho0, hb⟩; refine ⟨_, rfl, ?_⟩; have n0_ := Aside0.mk (Kd.R_below (by (with_reducible repeat (first | apply Kd.R_alloc | apply Kd.R_drewN | apply Kd.R_drew)); exact HO162.out) hb); have n1_ := Aside0.mk (Kd.R_lower ho0 (below_size (by repeat (first | (with_reducible first | exact HB.out | apply below_alloc | apply pw_below_drewN | apply below_drew1) | exact HB.out)))); have n2_ := Aside0.mk (below_step (by repeat (first | (with_reducible first | exact HB.out | apply below_alloc | apply pw_below_drewN | apply below_drew1) | exact HB.out)) hb); clear HO162; clear HB; have HO162 := n0_; have HO165 := n1_; have HB := n2_; clear n0_ n1_ n2_; (try clear hb); (try clear hb2); (try clear hk); (try clear hi); (try clear ho0)) | ((with_reducible refine gate_callee (f := 23) rfl ?_); refine goesL_ (some 20) rfl rfl Try.func23 (by kernel_rfl) rfl #[.slice A0 l0.length c0] rfl (by (try simp only [List.map_toArray, List.map_cons, List.map_nil]); first | done | rfl | (simp only [List.length_drop, List.length_take]; rfl)) ?_; (with_reducible refine (laws_toEntryS.calls k _ _ l0 t166 _ ?side1 ?side2 A7.out).mono ?_); (case side1 => repeat (first | exact (Kd.C_below HR0.out HB.out) | (with_reducible refine Kd.C_alloc ?_ _) | (with_reducible refine Kd.C_drewN ?_ _) | (with_reducible refine Kd.C_drew ?_))); (case side2 => exact HC0.out); rintro e w20 ⟨v167, rfl, ho0, hb⟩; refine ⟨_, rfl, ?_⟩; have n0_ := Aside0.mk (Kd.R_elder' (by (with_reducible repeat (first | apply Kd.R_alloc | apply Kd.R_drewN | apply Kd.R_drew)); exact HO162.out) (Kd.R_base ho0) hb); have n1_ := Aside0.mk (Kd.R_below (by (with_reducible repeat (first | apply Kd.R_alloc | apply Kd.R_drewN | apply Kd.R_drew)); exact HO165.out) hb); have n2_ := Aside0.mk (Kd.R_lower (Kd.R_new' ho0 (Kd.R_lt (by (with_reducible repeat (first | apply Kd.R_alloc | apply Kd.R_drewN | apply Kd.R_drew)); exact HO162.out))) (below_size (by repeat (first | (with_reducible first | exact HB.out | apply below_alloc | apply pw_below_drewN | apply below_drew1) | exact HB.out)))); have n3_ := Aside0.mk (below_step (by repeat (first | (with_reducible first | exact HB.out | apply below_alloc | apply pw_below_drewN | apply below_drew1) | exact HB.out)) hb); clear HO162; clear HO165; clear HB; have HO162 := n0_; have HO165 := n1_; have HO168 := n2_; have HB := n3_; clear n0_ n1_ n2_ n3_; (try clear hb); (try clear hb2); (try clear hk); (try clear hi); (try clear ho0); obtain ⟨Ao21, co21, eo21⟩ := Kd.R_slice HO168.out; subst eo21) | ((with_reducible refine gate_callee (f := 33) rfl ?_); refine goesL_ (some 22) rfl rfl Try.func33 (by kernel_rfl) rfl #[.slice Ao21 t166.length co21] rfl (by (try simp only [List.map_toArray, List.map_cons, List.map_nil]); first | done | rfl | (simp only [List.length_drop, List.length_take]; rfl)) ?_; (with_reducible refine (impl_DirNames.calls k _ _ t166 t169 _ ?side1 ?side2 A8.out).mono ?_); (case side1 => repeat (first | exact (Kd.R_reads' HO168.out).2.2 | (with_reducible refine Kd.C_alloc ?_ _) | (with_reducible refine Kd.C_drewN ?_ _) | (with_reducible refine Kd.C_drew ?_))); (case side2 => exact (Kd.R_reads' HO168.out).2.1); rintro e w22 ⟨v170, rfl, ho0, hb⟩; refine ⟨_, rfl, ?_⟩; have n0_ := Aside0.mk (Kd.R_below (by (with_reducible repeat (first | apply Kd.R_alloc | apply Kd.R_drewN | apply Kd.R_drew)); exact HO162.out) hb); have n1_ := Aside0.mk (Kd.R_elder' (by (with_reducible repeat (first | apply Kd.R_alloc | apply Kd.R_drewN | apply Kd.R_drew)); exact HO165.out) (Kd.R_base ho0) hb); have n2_ := Aside0.mk (Kd.R_below (by (with_reducible repeat (first | apply Kd.R_alloc | apply Kd.R_drewN | apply Kd.R_drew)); exact HO168.out) hb); have n3_ := Aside0.mk (Kd.R_lower (Kd.R_new' ho0 (Kd.R_lt (by (with_reducible repeat (first | apply Kd.R_alloc | apply Kd.R_drewN | apply Kd.R_drew)); exact HO165.out))) (below_size (by repeat (first | (with_reducible first | exact HB.out | apply below_alloc | apply pw_below_drewN | apply below_drew1) | exact HB.out)))); have n4_ := Aside0.mk (below_step (by repeat (first | (with_reducible first | exact HB.out | apply below_alloc | apply pw_below_drewN | apply below_drew1) | exact HB.out)) hb); clear HO162; clear HO165; clear HO168; clear HB; have HO162 := n0_; have HO165 := n1_; have HO168 := n2_; have HO171 := n3_; have HB := n4_; clear n0_ n1_ n2_ n3_ n4_; (try clear hb); (try clear hb2); (try clear hk); (try clear hi); (try clear ho0); obtain ⟨Ao23, co23, eo23⟩ := Kd.R_slice HO171.out; subst eo23; obtain ⟨Ao24, co24, eo24⟩ := Kd.R_slice HO165.out; subst eo24) | ((with_reducible refine gate_callee (f := 34) rfl ?_); refine goesL_ (some 25) rfl rfl Try.func34 (by kernel_rfl) rfl #[.slice Ao23 t169.length co23, .slice Ao24 t163.length co24] rfl (by (try simp only [List.map_toArray, List.map_cons, List.map_nil]); first | done | rfl | (simp only [List.length_drop, List.length_take]; rfl)) ?_; (with_reducible refine (laws_eqStringS.calls k _ _ t169 _ _ t163 true _ ?side1 ?side2 ?side3 ?side4 A9.out).mono ?_); (case side1 => repeat (first | exact (Kd.R_reads' HO171.out).2.2 | (with_reducible refine Kd.C_alloc ?_ _) | (with_reducible refine Kd.C_drewN ?_ _) | (with_reducible refine Kd.C_drew ?_))); (case side2 => exact (Kd.R_reads' HO171.out).2.1); (case side3 => repeat (first | exact (Kd.R_reads' HO165.out).2.2 | (with_reducible refine Kd.C_alloc ?_ _) | (with_reducible refine Kd.C_drewN ?_ _) | (with_reducible refine Kd.C_drew ?_))); (case side4 => exact (Kd.R_reads' HO165.out).2.1); rintro e w' ⟨rfl, ⟨nd, rfl⟩⟩; refine ⟨_, rfl, ?_⟩) | ((with_reducible refine gate_callee (f := 23) rfl ?_); refine goesL_ (some 29) rfl rfl Try.func23 (by kernel_rfl) rfl #[.slice A0 l0.length c0] rfl (by (try simp only [List.map_toArray, List.map_cons, List.map_nil]); first | done | rfl | (simp only [List.length_drop, List.length_take]; rfl)) ?_; (with_reducible refine (laws_toEntryS.calls k _ _ l0 t173 _ ?side1 ?side2 A11.out).mono ?_); (case side1 => repeat (first | exact (Kd.C_below HR0.out (by repeat (first | (with_reducible first | exact HB.out | apply below_alloc | apply pw_below_drewN | apply below_drew1) | exact HB.out))) | (with_reducible refine Kd.C_alloc ?_ _) | (with_reducible refine Kd.C_drewN ?_ _) | (with_reducible refine Kd.C_drew ?_))); (case side2 => exact HC0.out); rintro e w25 ⟨v174, rfl, ho0, hb⟩; refine ⟨_, rfl, ?_⟩; have n0_ := Aside0.mk (Kd.R_elder' (by (with_reducible repeat (first | apply Kd.R_alloc | apply Kd.R_drewN | apply Kd.R_drew)); exact HO162.out) (Kd.R_base ho0) hb); have n1_ := Aside0.mk (Kd.R_below (by (with_reducible repeat (first | apply Kd.R_alloc | apply Kd.R_drewN | apply Kd.R_drew)); exact HO165.out) hb); have n2_ := Aside0.mk (Kd.R_elder' (by (with_reducible repeat (first | apply Kd.R_alloc | apply Kd.R_drewN | apply Kd.R_drew)); exact HO168.out) (Kd.R_base ho0) hb); have n3_ := Aside0.mk (Kd.R_below (by (with_reducible repeat (first | apply Kd.R_alloc | apply Kd.R_drewN | apply Kd.R_drew)); exact HO171.out) hb); have n4_ := Aside0.mk (Kd.R_lower (Kd.R_new' (Kd.R_new' ho0 (Kd.R_lt (by (with_reducible repeat (first | apply Kd.R_alloc | apply Kd.R_drewN | apply Kd.R_drew)); exact HO162.out))) (Kd.R_lt (by (with_reducible repeat (first | apply Kd.R_alloc | apply Kd.R_drewN | apply Kd.R_drew)); exact HO168.out))) (below_size (by repeat (first | (with_reducible first | exact HB.out | apply below_alloc | apply pw_below_drewN | apply below_drew1) | exact HB.out)))); have n5_ := Aside0.mk (below_step (by repeat (first | (with_reducible first | exact HB.out | apply below_alloc | apply pw_below_drewN | apply below_drew1) | exact HB.out)) hb); clear HO162; clear HO165; clear HO168; clear HO171; clear HB; have HO162 := n0_; have HO165 := n1_; have HO168 := n2_; have HO171 := n3_; have HO175 := n4_; have HB := n5_; clear n0_ n1_ n2_ n3_ n4_ n5_; (try clear hb); (try clear hb2); (try clear hk); (try clear hi); (try clear ho0); obtain ⟨Ao26, co26, eo26⟩ := Kd.R_slice HO175.out; subst eo26) | ((with_reducible refine gate_callee (f := 25) rfl ?_); refine goesL_ (some 30) rfl rfl Try.func25 (by kernel_rfl) rfl #[.slice Ao21 t166.length co21, .slice Ao26 t173.length co26] rfl (by (try simp only [List.map_toArray, List.map_cons, List.map_nil]); first | done | rfl | (simp only [List.length_drop, List.length_take]; rfl)) ?_; (with_reducible refine (laws_eqEntryS.calls k _ _ t166 _ _ t173 true _ ?side1 ?side2 ?side3 ?side4 A12.out).mono ?_); (case side1 => repeat (first | exact (Kd.R_reads' HO168.out).2.2 | (with_reducible refine Kd.C_alloc ?_ _) | (with_reducible refine Kd.C_drewN ?_ _) | (with_reducible refine Kd.C_drew ?_))); (case side2 => exact (Kd.R_reads' HO168.out).2.1); (case side3 => repeat (first | exact (Kd.R_reads' HO175.out).2.2 | (with_reducible refine Kd.C_alloc ?_ _) | (with_reducible refine Kd.C_drewN ?_ _) | (with_reducible refine Kd.C_drew ?_))); (case side4 => exact (Kd.R_reads' HO175.out).2.1); rintro e w27 ⟨rfl, hb⟩; refine ⟨_, rfl, ?_⟩; have n0_ := Aside0.mk (Kd.R_below (by (with_reducible repeat (first | apply Kd.R_alloc | apply Kd.R_drewN | apply Kd.R_drew)); exact HO162.out) hb); have n1_ := Aside0.mk (Kd.R_below (by (with_reducible repeat (first | apply Kd.R_alloc | apply Kd.R_drewN | apply Kd.R_drew)); exact HO165.out) hb); have n2_ := Aside0.mk (Kd.R_below (by (with_reducible repeat (first | apply Kd.R_alloc | apply Kd.R_drewN | apply Kd.R_drew)); exact HO168.out) hb); have n3_ := Aside0.mk (Kd.R_below (by (with_reducible repeat (first | apply Kd.R_alloc | apply Kd.R_drewN | apply Kd.R_drew)); exact HO171.out) hb); have n4_ := Aside0.mk (Kd.R_below (by (with_reducible repeat (first | apply Kd.R_alloc | apply Kd.R_drewN | apply Kd.R_drew)); exact HO175.out) hb); have n5_ := Aside0.mk (below_step (by repeat (first | (with_reducible first | exact HB.out | apply below_alloc | apply pw_below_drewN | apply below_drew1) | exact HB.out)) hb); clear HO162; clear HO165; clear HO168; clear HO171; clear HO175; clear HB; have HO162 := n0_; have HO165 := n1_; have HO168 := n2_; have HO171 := n3_; have HO175 := n4_; have HB := n5_; clear n0_ n1_ n2_ n3_ n4_ n5_; (try clear hb); (try clear hb2); (try clear hk); (try clear hi)) | ((with_reducible refine gate_callee (f := 26) rfl ?_); refine goesL_ (some 34) rfl rfl Try.func26 (by kernel_rfl) rfl #[.slice Ao21 t166.length co21, .int .i64 1] rfl (by (try simp only [List.map_toArray, List.map_cons, List.map_nil]); first | done | rfl | (simp only [List.length_drop, List.length_take]; rfl)) ?_; (with_reducible refine (laws_markEntryS.calls k (fun k_ => some k_ = (.slice Ao21 t166.length co21 : Value).ownBlock) (.slice Ao21 t166.length co21) t166 1 t177 t178 w _ ?side1 ?side2 A14.out).mono ?_); (case side1 => repeat (first | (with_reducible first | exact HB.out | apply below_alloc | apply pw_below_drewN | apply below_drew1) | exact HB.out)); (case side2 => exact Kd.R_tight rfl HO168.out); rintro e w28 ⟨rfl, hy0, hb, hkp⟩; refine ⟨_, rfl, ?_⟩; have n0_ := Aside0.mk (Kd.R_mono (ok' := fun k_ => some k_ ≠ (.slice Ao21 t166.length co21 : Value).ownBlock ∧ some k_ ≠ (.slice Ao26 t173.length co26 : Value).ownBlock) (Kd.R_keptB (HO162.out) hkp (fun k_ hk_ hs_ => (hk_.1.2) hs_)) (fun k_ hk_ => ⟨hk_.1.1.2, hk_.1.2⟩)); have n1_ := Aside0.mk (Kd.R_mono (ok' := fun k_ => some k_ ≠ (.slice Ao23 t169.length co23 : Value).ownBlock) (Kd.R_keptB ((Kd.R_apart' HO165.out (Kd.R_typed HO168.out) (by decide))) hkp (fun k_ hk_ hs_ => (hk_.2) hs_)) (fun k_ hk_ => hk_.1.1.2)); have n2_ := Aside0.mk (Kd.R_reok rfl hy0 (fun k_ e_ => HO168.out.1 k_ e_)); have n3_ := Aside0.mk (Kd.R_mono (ok' := fun k_ => some k_ ≠ (.slice Ao24 t163.length co24 : Value).ownBlock) (Kd.R_keptB ((Kd.R_apart' HO171.out (Kd.R_typed HO168.out) (by decide))) hkp (fun k_ hk_ hs_ => (hk_.2) hs_)) (fun k_ hk_ => hk_.1.1.2)); have n4_ := Aside0.mk (Kd.R_mono (ok' := fun k_ => some k_ ≠ (.slice Ao18 t160.length co18 : Value).ownBlock ∧ some k_ ≠ (.slice Ao21 t166.length co21 : Value).ownBlock) (Kd.R_keptB (HO175.out) hkp (fun k_ hk_ hs_ => (hk_.2) hs_)) (fun k_ hk_ => ⟨hk_.1.1.2, hk_.1.2⟩)); have n5_ := Aside0.mk (hb); clear HO162; clear HO165; clear HO168; clear HO171; clear HO175; clear HB; have HO162 := n0_; have HO165 := n1_; have HO168 := n2_; have HO171 := n3_; have HO175 := n4_; have HB := n5_; clear n0_ n1_ n2_ n3_ n4_ n5_; (try clear hb); (try clear hkp); (try clear hy0)))
        (try simp only [Act.put, List.setIfInBounds_toArray, List.set_cons_zero, List.set_cons_succ])
        go_cut [42] (fun v42 wc => ∃ (kq : Nat) (x42_14 : Bool), v42 = .bool x42_14 ∧ Aside0 (laws_FnExactDirNames.j0 kq l0 t163 t169 x42_14 = some r) ∧ Aside0 (kq ≤ k) ∧ Aside0 (Kd.R Kd.string 9 wc w.heap.size (fun k_ => some k_ ≠ ((.slice Ao23 t169.length co23) : Value).ownBlock) (.slice Ao24 t163.length co24) t163) ∧ Aside0 (Kd.R Kd.string 9 wc w.heap.size (fun k_ => some k_ ≠ ((.slice Ao24 t163.length co24) : Value).ownBlock) (.slice Ao23 t169.length co23) t169) ∧ Aside0 (Below w.heap.size w wc))
        case first =>
          have H := HC15.out
          clear HC15
          by_cases c29 : t177 < 0
          · rw [if_pos c29] at H
            have c29b0 : decide (t177 < 0) = true := decide_eq_true c29
            clear c29
            (first | rw [c29b0] | (simp only [i64_w, i32_w]; rw [c29b0]) | skip)
            have H' := Aside0.mk H
            clear H
            go_wp2
            go_meet
            case rel => exact ⟨_, (true), (by first | rfl | (simp; done) | (simp [*]; done)), H', ⟨by first | omega | exact Nat.le_refl _⟩, ⟨by (with_reducible repeat (first | apply Kd.R_alloc | apply Kd.R_drewN | apply Kd.R_drew)); exact HO165.out⟩, ⟨by (with_reducible repeat (first | apply Kd.R_alloc | apply Kd.R_drewN | apply Kd.R_drew)); exact HO171.out⟩, ⟨by repeat (first | (with_reducible first | exact HB.out | apply below_alloc | apply pw_below_drewN | apply below_drew1) | exact HB.out)⟩⟩
          · rw [if_neg c29] at H
            have c29b0 : decide (t177 < 0) = false := decide_eq_false c29
            clear c29
            (first | rw [c29b0] | (simp only [i64_w, i32_w]; rw [c29b0]) | skip)
            replace H := Option.bind_eq_some_iff.mp H
            obtain ⟨t179, A300, H⟩ := H
            replace H : (laws_FnExactDirNames.j0 k l0 t163 t169 (!t179)) = some r := H
            have A30 := Aside0.mk A300
            clear A300
            have H' := Aside0.mk H
            clear H
            go_wp2_with (first | (go_at_call 34; (with_reducible refine (laws_eqStringS.calls k _ _ t169 _ _ t163 t179 _ ?side1 ?side2 ?side3 ?side4 A30.out).mono ?_); (case side1 => repeat (first | exact (Kd.R_reads' HO171.out).2.2 | (with_reducible refine Kd.C_alloc ?_ _) | (with_reducible refine Kd.C_drewN ?_ _) | (with_reducible refine Kd.C_drew ?_))); (case side2 => exact (Kd.R_reads' HO171.out).2.1); (case side3 => repeat (first | exact (Kd.R_reads' HO165.out).2.2 | (with_reducible refine Kd.C_alloc ?_ _) | (with_reducible refine Kd.C_drewN ?_ _) | (with_reducible refine Kd.C_drew ?_))); (case side4 => exact (Kd.R_reads' HO165.out).2.1); rintro e w' ⟨rfl, ⟨nd, rfl⟩⟩))
            go_meet
            case rel => exact ⟨_, (!t179), (by first | rfl | (simp; done) | (simp [*]; done)), H', ⟨by first | omega | exact Nat.le_refl _⟩, ⟨by (with_reducible repeat (first | apply Kd.R_alloc | apply Kd.R_drewN | apply Kd.R_drew)); exact HO165.out⟩, ⟨by (with_reducible repeat (first | apply Kd.R_alloc | apply Kd.R_drewN | apply Kd.R_drew)); exact HO171.out⟩, ⟨by repeat (first | (with_reducible first | exact HB.out | apply below_alloc | apply pw_below_drewN | apply below_drew1) | exact HB.out)⟩⟩
        case rest =>
          clear HC15
          try clear c1
          try clear c2
          try clear p2
          try clear c3
          try clear c3b0
          try clear c7
          try clear c10
          try clear c13
          try clear c21
          try clear c23
          try clear c25
          try clear c26
          try clear c29
          try clear c29b0
          obtain ⟨kq, x42_14, rfl, HA, HJ14, HO_4, HO_6, HB⟩ := hcut
          cases kq with
          | zero => exact absurd HA.out (by simp [laws_FnExactDirNames.j0])
          | succ kj14 =>
            have H := HA.out
            clear HA
            simp only [laws_FnExactDirNames.j0] at H
            by_cases c31 : x42_14 = true
            · subst c31
              have H1 : (some false) = some r := by rw [if_pos rfl] at H; exact H
              clear H
              have H := H1
              clear H1
              exact absurd ((Option.some.inj H).trans hrt.out) (by simp)
            · replace c31 := Bool.eq_false_iff.mpr c31
              subst c31
              have H1 : ((laws_markStringS.f kj14 t169 1).bind fun bt180 => ((laws_heldStringS.f kj14 bt180.2 1).bind fun t182 => (if t182 < 0 then (some false) else (if t182 = bt180.1 then ((laws_toEntryS.f kj14 l0).bind fun t183 => ((impl_DirNames.f kj14 t183).bind fun t186 => ((laws_eqStringS.f kj14 t186 t163).bind fun t189 => (if t189 = true then ((laws_heldStringS.f kj14 bt180.2 1).bind fun t190 => (if t190 < 0 then (some false) else (if t190 = bt180.1 then (some true) else (some false)))) else (some false))))) else (some false))))) = some r := by rw [if_neg (show ¬ (false = true) by decide)] at H; exact H
              clear H
              have H := H1
              clear H1
              replace H := Option.bind_eq_some_iff.mp H
              obtain ⟨⟨t180, t181⟩, A320, H⟩ := H
              replace H : ((laws_heldStringS.f kj14 t181 1).bind fun t182 => (if t182 < 0 then (some false) else (if t182 = t180 then ((laws_toEntryS.f kj14 l0).bind fun t183 => ((impl_DirNames.f kj14 t183).bind fun t186 => ((laws_eqStringS.f kj14 t186 t163).bind fun t189 => (if t189 = true then ((laws_heldStringS.f kj14 t181 1).bind fun t190 => (if t190 < 0 then (some false) else (if t190 = t180 then (some true) else (some false)))) else (some false))))) else (some false)))) = some r := H
              have A32 := Aside0.mk A320
              clear A320
              replace H := Option.bind_eq_some_iff.mp H
              obtain ⟨t182, A330, H⟩ := H
              replace H : (if t182 < 0 then (some false) else (if t182 = t180 then ((laws_toEntryS.f kj14 l0).bind fun t183 => ((impl_DirNames.f kj14 t183).bind fun t186 => ((laws_eqStringS.f kj14 t186 t163).bind fun t189 => (if t189 = true then ((laws_heldStringS.f kj14 t181 1).bind fun t190 => (if t190 < 0 then (some false) else (if t190 = t180 then (some true) else (some false)))) else (some false))))) else (some false))) = some r := H
              have A33 := Aside0.mk A330
              clear A330
              by_cases c34 : t182 < 0
              · rw [if_pos c34] at H
                have c34b0 : decide (t182 < 0) = true := decide_eq_true c34
                clear c34
                exact absurd ((Option.some.inj H).trans hrt.out) (by simp)
              · rw [if_neg c34] at H
                have c34b0 : decide (t182 < 0) = false := decide_eq_false c34
                clear c34
                by_cases c35 : t182 = t180
                · rw [if_pos c35] at H
                  have c35b0 : (t182 == t180) = true := beq_iff_eq.mpr c35
                  have c35b1 : (t182 != t180) = false := bne_eq_false_iff_eq.mpr c35
                  clear c35
                  replace H := Option.bind_eq_some_iff.mp H
                  obtain ⟨t183, A360, H⟩ := H
                  replace H : ((impl_DirNames.f kj14 t183).bind fun t186 => ((laws_eqStringS.f kj14 t186 t163).bind fun t189 => (if t189 = true then ((laws_heldStringS.f kj14 t181 1).bind fun t190 => (if t190 < 0 then (some false) else (if t190 = t180 then (some true) else (some false)))) else (some false)))) = some r := H
                  have A36 := Aside0.mk A360
                  clear A360
                  replace H := Option.bind_eq_some_iff.mp H
                  obtain ⟨t186, A370, H⟩ := H
                  replace H : ((laws_eqStringS.f kj14 t186 t163).bind fun t189 => (if t189 = true then ((laws_heldStringS.f kj14 t181 1).bind fun t190 => (if t190 < 0 then (some false) else (if t190 = t180 then (some true) else (some false)))) else (some false))) = some r := H
                  have A37 := Aside0.mk A370
                  clear A370
                  replace H := Option.bind_eq_some_iff.mp H
                  obtain ⟨t189, A380, H⟩ := H
                  replace H : (if t189 = true then ((laws_heldStringS.f kj14 t181 1).bind fun t190 => (if t190 < 0 then (some false) else (if t190 = t180 then (some true) else (some false)))) else (some false)) = some r := H
                  have A38 := Aside0.mk A380
                  clear A380
                  by_cases c39 : t189 = true
                  · subst c39
                    have H1 : ((laws_heldStringS.f kj14 t181 1).bind fun t190 => (if t190 < 0 then (some false) else (if t190 = t180 then (some true) else (some false)))) = some r := by rw [if_pos rfl] at H; exact H
                    clear H
                    have H := H1
                    clear H1
                    replace H := Option.bind_eq_some_iff.mp H
                    obtain ⟨t190, A400, H⟩ := H
                    replace H : (if t190 < 0 then (some false) else (if t190 = t180 then (some true) else (some false))) = some r := H
                    have A40 := Aside0.mk A400
                    clear A400
                    by_cases c41 : t190 < 0
                    · rw [if_pos c41] at H
                      have c41b0 : decide (t190 < 0) = true := decide_eq_true c41
                      clear c41
                      exact absurd ((Option.some.inj H).trans hrt.out) (by simp)
                    · rw [if_neg c41] at H
                      have c41b0 : decide (t190 < 0) = false := decide_eq_false c41
                      clear c41
                      by_cases c42 : t190 = t180
                      · rw [if_pos c42] at H
                        have c42b0 : (t190 == t180) = true := beq_iff_eq.mpr c42
                        have c42b1 : (t190 != t180) = false := bne_eq_false_iff_eq.mpr c42
                        clear c42
                        obtain rfl := Option.some.inj H
                        go_wp2_with (first | ((with_reducible refine gate_callee (f := 35) rfl ?_); refine goesL_ (some 45) rfl rfl Try.func35 (by kernel_rfl) rfl #[.slice Ao23 t169.length co23, .int .i64 1] rfl (by (try simp only [List.map_toArray, List.map_cons, List.map_nil]); first | done | rfl | (simp only [List.length_drop, List.length_take]; rfl)) ?_; (with_reducible refine (laws_markStringS.calls kj14 (fun k_ => some k_ = (.slice Ao23 t169.length co23 : Value).ownBlock) (.slice Ao23 t169.length co23) t169 1 t180 t181 w _ ?side1 ?side2 A32.out).mono ?_); (case side1 => repeat (first | (with_reducible first | exact HB.out | apply below_alloc | apply pw_below_drewN | apply below_drew1) | exact HB.out)); (case side2 => exact Kd.R_tight rfl HO_6.out); rintro e w43 ⟨rfl, hy0, hb, hkp⟩; refine ⟨_, rfl, ?_⟩; have n0_ := Aside0.mk (Kd.R_mono (ok' := fun k_ => some k_ ≠ (.slice Ao23 t169.length co23 : Value).ownBlock) (Kd.R_keptB (HO_4.out) hkp (fun k_ hk_ hs_ => (hk_) hs_)) (fun k_ hk_ => hk_.1)); have n1_ := Aside0.mk (Kd.R_reok rfl hy0 (fun k_ e_ => HO_6.out.1 k_ e_)); have n2_ := Aside0.mk (hb); clear HO_4; clear HO_6; clear HB; have HO_4 := n0_; have HO_6 := n1_; have HB := n2_; clear n0_ n1_ n2_; (try clear hb); (try clear hkp); (try clear hy0)) | ((with_reducible refine gate_callee (f := 36) rfl ?_); refine goesL_ (some 48) rfl rfl Try.func36 (by kernel_rfl) rfl #[.slice Ao23 t181.length co23, .int .i64 1] rfl (by (try simp only [List.map_toArray, List.map_cons, List.map_nil]); first | done | (rw [show t181.length = t169.length from (Kd.R_reads' HO_6.out).1.symm] <;> rfl) | rfl | (simp only [List.length_drop, List.length_take]; rfl)) ?_; (with_reducible refine (laws_heldStringS.calls kj14 _ _ t181 1 t182 _ ?side1 ?side2 A33.out).mono ?_); (case side1 => repeat (first | exact (Kd.R_reads' HO_6.out).2.2 | (with_reducible refine Kd.C_alloc ?_ _) | (with_reducible refine Kd.C_drewN ?_ _) | (with_reducible refine Kd.C_drew ?_))); (case side2 => rw [show t181.length = t169.length from (Kd.R_reads' HO_6.out).1.symm]; exact (Kd.R_reads' HO_6.out).2.1); rintro e w44 ⟨rfl, hb⟩; refine ⟨_, rfl, ?_⟩; have n0_ := Aside0.mk (Kd.R_below (by (with_reducible repeat (first | apply Kd.R_alloc | apply Kd.R_drewN | apply Kd.R_drew)); exact HO_4.out) hb); have n1_ := Aside0.mk (Kd.R_below (by (with_reducible repeat (first | apply Kd.R_alloc | apply Kd.R_drewN | apply Kd.R_drew)); exact HO_6.out) hb); have n2_ := Aside0.mk (below_step (by repeat (first | (with_reducible first | exact HB.out | apply below_alloc | apply pw_below_drewN | apply below_drew1) | exact HB.out)) hb); clear HO_4; clear HO_6; clear HB; have HO_4 := n0_; have HO_6 := n1_; have HB := n2_; clear n0_ n1_ n2_; (try clear hb); (try clear hb2); (try clear hk); (try clear hi)) | ((with_reducible refine gate_callee (f := 23) rfl ?_); refine goesL_ (some 55) rfl rfl Try.func23 (by kernel_rfl) rfl #[.slice A0 l0.length c0] rfl (by (try simp only [List.map_toArray, List.map_cons, List.map_nil]); first | done | rfl | (simp only [List.length_drop, List.length_take]; rfl)) ?_; (with_reducible refine (laws_toEntryS.calls kj14 _ _ l0 t183 _ ?side1 ?side2 A36.out).mono ?_); (case side1 => repeat (first | exact (Kd.C_below HR0.out HB.out) | (with_reducible refine Kd.C_alloc ?_ _) | (with_reducible refine Kd.C_drewN ?_ _) | (with_reducible refine Kd.C_drew ?_))); (case side2 => exact HC0.out); rintro e w45 ⟨v184, rfl, ho0, hb⟩; refine ⟨_, rfl, ?_⟩; have n0_ := Aside0.mk (Kd.R_below (by (with_reducible repeat (first | apply Kd.R_alloc | apply Kd.R_drewN | apply Kd.R_drew)); exact HO_4.out) hb); have n1_ := Aside0.mk (Kd.R_below (by (with_reducible repeat (first | apply Kd.R_alloc | apply Kd.R_drewN | apply Kd.R_drew)); exact HO_6.out) hb); have n2_ := Aside0.mk (Kd.R_lower ho0 (below_size (by repeat (first | (with_reducible first | exact HB.out | apply below_alloc | apply pw_below_drewN | apply below_drew1) | exact HB.out)))); have n3_ := Aside0.mk (below_step (by repeat (first | (with_reducible first | exact HB.out | apply below_alloc | apply pw_below_drewN | apply below_drew1) | exact HB.out)) hb); clear HO_4; clear HO_6; clear HB; have HO_4 := n0_; have HO_6 := n1_; have HO185 := n2_; have HB := n3_; clear n0_ n1_ n2_ n3_; (try clear hb); (try clear hb2); (try clear hk); (try clear hi); (try clear ho0); obtain ⟨Ao46, co46, eo46⟩ := Kd.R_slice HO185.out; subst eo46) | ((with_reducible refine gate_callee (f := 33) rfl ?_); refine goesL_ (some 56) rfl rfl Try.func33 (by kernel_rfl) rfl #[.slice Ao46 t183.length co46] rfl (by (try simp only [List.map_toArray, List.map_cons, List.map_nil]); first | done | rfl | (simp only [List.length_drop, List.length_take]; rfl)) ?_; (with_reducible refine (impl_DirNames.calls kj14 _ _ t183 t186 _ ?side1 ?side2 A37.out).mono ?_); (case side1 => repeat (first | exact (Kd.R_reads' HO185.out).2.2 | (with_reducible refine Kd.C_alloc ?_ _) | (with_reducible refine Kd.C_drewN ?_ _) | (with_reducible refine Kd.C_drew ?_))); (case side2 => exact (Kd.R_reads' HO185.out).2.1); rintro e w47 ⟨v187, rfl, ho0, hb⟩; refine ⟨_, rfl, ?_⟩; have n0_ := Aside0.mk (Kd.R_elder' (by (with_reducible repeat (first | apply Kd.R_alloc | apply Kd.R_drewN | apply Kd.R_drew)); exact HO_4.out) (Kd.R_base ho0) hb); have n1_ := Aside0.mk (Kd.R_elder' (by (with_reducible repeat (first | apply Kd.R_alloc | apply Kd.R_drewN | apply Kd.R_drew)); exact HO_6.out) (Kd.R_base ho0) hb); have n2_ := Aside0.mk (Kd.R_below (by (with_reducible repeat (first | apply Kd.R_alloc | apply Kd.R_drewN | apply Kd.R_drew)); exact HO185.out) hb); have n3_ := Aside0.mk (Kd.R_lower (Kd.R_new' (Kd.R_new' ho0 (Kd.R_lt (by (with_reducible repeat (first | apply Kd.R_alloc | apply Kd.R_drewN | apply Kd.R_drew)); exact HO_4.out))) (Kd.R_lt (by (with_reducible repeat (first | apply Kd.R_alloc | apply Kd.R_drewN | apply Kd.R_drew)); exact HO_6.out))) (below_size (by repeat (first | (with_reducible first | exact HB.out | apply below_alloc | apply pw_below_drewN | apply below_drew1) | exact HB.out)))); have n4_ := Aside0.mk (below_step (by repeat (first | (with_reducible first | exact HB.out | apply below_alloc | apply pw_below_drewN | apply below_drew1) | exact HB.out)) hb); clear HO_4; clear HO_6; clear HO185; clear HB; have HO_4 := n0_; have HO_6 := n1_; have HO185 := n2_; have HO188 := n3_; have HB := n4_; clear n0_ n1_ n2_ n3_ n4_; (try clear hb); (try clear hb2); (try clear hk); (try clear hi); (try clear ho0); obtain ⟨Ao48, co48, eo48⟩ := Kd.R_slice HO188.out; subst eo48) | ((with_reducible refine gate_callee (f := 34) rfl ?_); refine goesL_ (some 59) rfl rfl Try.func34 (by kernel_rfl) rfl #[.slice Ao48 t186.length co48, .slice Ao24 t163.length co24] rfl (by (try simp only [List.map_toArray, List.map_cons, List.map_nil]); first | done | rfl | (simp only [List.length_drop, List.length_take]; rfl)) ?_; (with_reducible refine (laws_eqStringS.calls kj14 _ _ t186 _ _ t163 true _ ?side1 ?side2 ?side3 ?side4 A38.out).mono ?_); (case side1 => repeat (first | exact (Kd.R_reads' HO188.out).2.2 | (with_reducible refine Kd.C_alloc ?_ _) | (with_reducible refine Kd.C_drewN ?_ _) | (with_reducible refine Kd.C_drew ?_))); (case side2 => exact (Kd.R_reads' HO188.out).2.1); (case side3 => repeat (first | exact (Kd.R_reads' HO_4.out).2.2 | (with_reducible refine Kd.C_alloc ?_ _) | (with_reducible refine Kd.C_drewN ?_ _) | (with_reducible refine Kd.C_drew ?_))); (case side4 => exact (Kd.R_reads' HO_4.out).2.1); rintro e w' ⟨rfl, ⟨nd, rfl⟩⟩; refine ⟨_, rfl, ?_⟩) | ((with_reducible refine gate_callee (f := 36) rfl ?_); refine goesL_ (some 63) rfl rfl Try.func36 (by kernel_rfl) rfl #[.slice Ao23 t181.length co23, .int .i64 1] rfl (by (try simp only [List.map_toArray, List.map_cons, List.map_nil]); first | done | (rw [show t181.length = t169.length from (Kd.R_reads' HO_6.out).1.symm] <;> rfl) | rfl | (simp only [List.length_drop, List.length_take]; rfl)) ?_; (with_reducible refine (laws_heldStringS.calls kj14 _ _ t181 1 t190 _ ?side1 ?side2 A40.out).mono ?_); (case side1 => repeat (first | exact (Kd.R_reads' HO_6.out).2.2 | (with_reducible refine Kd.C_alloc ?_ _) | (with_reducible refine Kd.C_drewN ?_ _) | (with_reducible refine Kd.C_drew ?_))); (case side2 => rw [show t181.length = t169.length from (Kd.R_reads' HO_6.out).1.symm]; exact (Kd.R_reads' HO_6.out).2.1); rintro e w49 ⟨rfl, hb⟩; refine ⟨_, rfl, ?_⟩; have n0_ := Aside0.mk (Kd.R_below (by (with_reducible repeat (first | apply Kd.R_alloc | apply Kd.R_drewN | apply Kd.R_drew)); exact HO_4.out) hb); have n1_ := Aside0.mk (Kd.R_below (by (with_reducible repeat (first | apply Kd.R_alloc | apply Kd.R_drewN | apply Kd.R_drew)); exact HO_6.out) hb); have n2_ := Aside0.mk (Kd.R_below (by (with_reducible repeat (first | apply Kd.R_alloc | apply Kd.R_drewN | apply Kd.R_drew)); exact HO185.out) hb); have n3_ := Aside0.mk (Kd.R_below (by (with_reducible repeat (first | apply Kd.R_alloc | apply Kd.R_drewN | apply Kd.R_drew)); exact HO188.out) hb); have n4_ := Aside0.mk (below_step (by repeat (first | (with_reducible first | exact HB.out | apply below_alloc | apply pw_below_drewN | apply below_drew1) | exact HB.out)) hb); clear HO_4; clear HO_6; clear HO185; clear HO188; clear HB; have HO_4 := n0_; have HO_6 := n1_; have HO185 := n2_; have HO188 := n3_; have HB := n4_; clear n0_ n1_ n2_ n3_ n4_; (try clear hb); (try clear hb2); (try clear hk); (try clear hi)))
                        go_ret
                        exact ⟨by first | rfl | (simp [errW_none, errW_some] <;> rfl) | (simp [*, errW_none, errW_some] <;> rfl), by repeat (first | (with_reducible first | exact HB.out | apply below_alloc | apply pw_below_drewN | apply below_drew1) | exact HB.out)⟩
                      · rw [if_neg c42] at H
                        have c42b0 : (t190 == t180) = false := beq_eq_false_iff_ne.mpr c42
                        have c42b1 : (t190 != t180) = true := bne_iff_ne.mpr c42
                        exact absurd ((Option.some.inj H).trans hrt.out) (by simp)
                  · replace c39 := Bool.eq_false_iff.mpr c39
                    subst c39
                    have H1 : (some false) = some r := by rw [if_neg (show ¬ (false = true) by decide)] at H; exact H
                    clear H
                    have H := H1
                    clear H1
                    exact absurd ((Option.some.inj H).trans hrt.out) (by simp)
                · rw [if_neg c35] at H
                  have c35b0 : (t182 == t180) = false := beq_eq_false_iff_ne.mpr c35
                  have c35b1 : (t182 != t180) = true := bne_iff_ne.mpr c35
                  exact absurd ((Option.some.inj H).trans hrt.out) (by simp)
      · replace c13 := Bool.eq_false_iff.mpr c13
        subst c13
        have H1 : (some false) = some r := by rw [if_neg (show ¬ (false = true) by decide)] at H; exact H
        clear H
        have H := H1
        clear H1
        exact absurd ((Option.some.inj H).trans hrt.out) (by simp)
    · replace c10 := Bool.eq_false_iff.mpr c10
      subst c10
      have H1 : (some false) = some r := by rw [if_neg (show ¬ (false = true) by decide)] at H; exact H
      clear H
      have H := H1
      clear H1
      exact absurd ((Option.some.inj H).trans hrt.out) (by simp)

end Go.Proofs.Ytiiifeajcigigaa.PFnExactDirNames
